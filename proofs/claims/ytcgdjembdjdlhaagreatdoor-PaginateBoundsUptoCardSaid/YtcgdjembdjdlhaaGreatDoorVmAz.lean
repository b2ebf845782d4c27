import Derived.Test.YtcgdjembdjdlhaaGreatDoorVmZ
set_option linter.all false
namespace Go.VM
open Go
def DrawS (P:Program) (h0 s:Heap) (late:List Bool):Nat→List VOper→(Env→Heap→Prop)→Env→Heap→Prop
 | _,[],K,e,h=>K e h
 | k,o::r,K,e,h=>match o.op with
  | .store z a v=>o.guard=none∧Zaq P e h (.store z a v) (fun v h'=>s.le h'∧DrawS P h0 s late (k+1) r K (e.put o.dst v) h')
  | op=>match op.simple,o.guard with
   | true,_=>False
   | false,none=>QW P (if late.getD k false then h0 else if op.isIaddr then h0 else s) e op true (fun v=>DrawS P h0 s late (k+1) r K (e.put o.dst v) h)
   | false,some (d,want)=>(match (generalizing:=false) guardOf want (e.get d) with
    | some c=>QW P (if late.getD k false then h0 else if op.isIaddr then h0 else s) e op c (fun v=>DrawS P h0 s late (k+1) r K (e.put o.dst v) h)
    | none=>False)
theorem DrawS.quiet {P : Program} {h0 s : Heap} {late : List Bool} {k : Nat} {r : List VOper} {K : Env → Heap → Prop} {e : Env} {h : Heap} {dst : Option Nat} {op : VOp} {gd' : Option (Nat × Bool)} {hqf : Nat → Heap} {Z : Nat → Heap → Heap → Prop}
  (hqk:hqf k=if late.getD k false then h0 else if op.isIaddr then h0 else s) (ih:∀ e,DrawS P h0 s late (k+1) r K e h→Zc1 P hqf Z (k+1) r K e h)
  (hs:op.simple=false) (H:match (generalizing:=false) op.simple,gd' with
   | true,_=>False
   | false,none=>QW P (if late.getD k false then h0 else if op.isIaddr then h0 else s) e op true (fun v=>DrawS P h0 s late (k+1) r K (e.put dst v) h)
   | false,some (d,want)=>(match (generalizing:=false) guardOf want (e.get d) with
    | some c=>QW P (if late.getD k false then h0 else if op.isIaddr then h0 else s) e op c (fun v=>DrawS P h0 s late (k+1) r K (e.put dst v) h)
    | none=>False)):Zc1 P hqf Z k (⟨dst,op,gd'⟩::r) K e h:=by
 rw [hs] at H;simp only [Zc1,hs,hqk];cases gd' with
 | none=>exact H.mono fun v hv=>ih _ hv
 | some dw =>
  obtain ⟨d,want⟩:=dw;simp only at H ⊢;cases hg:guardOf want (e.get d) with
  | none=>rw [hg] at H;exact H.elim
  | some c=>rw [hg] at H;exact QW.mono (fun v hv=>ih _ hv) H
theorem DrawS.toG {P : Program} {q0 : List VOper} {h0 s : Heap} {late : List Bool} {K : Env → Heap → Prop} : ∀ {q : List VOper} {k : Nat} {e : Env} {h : Heap}, (∀ j, q[j]? = q0[k + j]?) → DrawS P h0 s late k q K e h →
  Zc1 P (hq3 q0 late h0 h0 s) (zed3 q0 h0 h0 s) k q K e h
 | [],_,_,_,_,H=>H
 | ⟨dst,op,gd'⟩::r,k,e,h,hq,H=>by
  have h0':q0[k]?=some ⟨dst,op,gd'⟩:=by simpa using (hq 0).symm
  have hq1:∀ j,r[j]?=q0[(k+1)+j]?:=fun j=>by have:=hq (j+1);simpa [Nat.add_assoc,Nat.add_comm 1 j] using this
  have hwk:Za4 q0 k=op.writes:=by simp [Za4,h0']
  have hqk:hq3 q0 late h0 h0 s k=if late.getD k false then h0 else if op.isIaddr then h0 else s:=by simp only [hq3,h0']
  cases op
  case store z a v =>
   obtain ⟨hg,hok,hs,hk⟩:=H;have hg':gd'=none:=hg;subst hg';exact ⟨hok,⟨hs,(fun hw=>by rw [hwk] at hw;cases hw),fun hm=>shp_storeV hm _ _⟩,DrawS.toG hq1 hk⟩
  case mv a =>
   unfold DrawS at H;exact DrawS.quiet hqk (fun e H=>DrawS.toG hq1 H) rfl H
  all_goals
   unfold DrawS at H
   first
   |exact DrawS.quiet hqk (fun e H=>DrawS.toG hq1 H) rfl H
   |(exfalso;clear hqk hwk h0' hq;revert H;cases gd'<;>exact id)
theorem VW_draw2S {P:Program} {N:FK} {Q:Exit→Env→Heap→Prop} {e:Env} {h:Heap} {q:List VOper} {late:List Bool} (l:List Nat) (s:Heap) (hl:h.le h) (hs:s.le h) (H:DrawS P h s late 0 q (fun e' h'=>Q .normal (Env.keep l e') h') e h):VW P N (.draw2 q late) Q e h :=
 VW_draw2 l h h s hl hs (fun id fz z es e=>⟨fz,es,e⟩) (H.toG (fun j=>by simp))
end Go.VM
