import Derived.Test.YtjmekckcffckoabGreatDoorVmN
import Derived.Test.YtjmekckcffckoabGreatDoorVmS
set_option linter.all false
namespace Go.VM
open Go
def DrawA (P:Program) (h0:Heap) (late:List Bool):Nat → List VOper → (Env → Heap → Prop) → Env → Heap → Prop
  | _,[],K,e,h=>K e h
  | k,o :: r,K,e,h=>match o.op.simple,o.guard with
    | true,none=>Zay P e h o.op (fun v h'=>h'.top ≤ h0.top ∧ (o.op.writes = false → h0.le h → h0.le h') ∧ DrawA P h0 late (k + 1) r K (e.put o.dst v) h')
    | true,some _=>False
    | false,none=>QW P (if late.getD k false then h0 else ⟨[],h0.top⟩) e o.op true (fun v=>DrawA P h0 late (k + 1) r K (e.put o.dst v) h)
    | false,some (d,want)=>(match guardOf want (e.get d) with
      | some c=>QW P (if late.getD k false then h0 else ⟨[],h0.top⟩) e o.op c (fun v=>DrawA P h0 late (k + 1) r K (e.put o.dst v) h)
      | none=>False)
theorem DrawA.toG {P : Program} {q0 : List VOper} {h0 : Heap} {late : List Bool} {K : Env → Heap → Prop} : ∀ {q : List VOper} {k : Nat} {e : Env} {h : Heap}, (∀ j, q[j]? = q0[k + j]?) → DrawA P h0 late k q K e h →
    DrawG P (fun i=>if late.getD i false then h0 else ⟨[],h0.top⟩) (fun i h h'=>(⟨[],h0.top⟩:Heap).le h' ∧ (Zc0 q0 i = false → h0.le h → h0.le h')) k q K e h
  | [],_,_,_,_,H=>H
  | o :: r,k,e,h,hq,H=>by
    have h0':q0[k]? = some o:=by simpa using (hq 0).symm
    have hq1:∀ j,r[j]? = q0[(k + 1) + j]?:=fun j=>by have:=hq (j + 1); simpa [Nat.add_assoc,Nat.add_comm 1 j] using this
    have hwk:Zc0 q0 k = o.op.writes:=by simp [Zc0,h0']
    obtain ⟨dst,op,gu⟩:=o
    simp only [DrawA] at H
    simp only [DrawG]
    cases hs:op.simple with
    | true =>
      cases gu with
      | none =>
        simp only [hs] at H ⊢
        exact Zay.mono (fun v h' kk=>⟨⟨⟨kk.1,trivial⟩,fun hw=>kk.2.1 (by rw [← hwk]; exact hw)⟩,DrawA.toG hq1 kk.2.2⟩) H
      | some d=>simp only [hs] at H
    | false =>
      cases gu with
      | none =>
        simp only [hs] at H ⊢
        exact QW.mono (fun v hv=>DrawA.toG hq1 hv) H
      | some dw =>
        obtain ⟨d,want⟩:=dw
        simp only [hs] at H ⊢
        cases hg:guardOf want (e.get d) with
        | none=>rw [hg] at H; exact H.elim
        | some c=>rw [hg] at H; exact QW.mono (fun v hv=>DrawA.toG hq1 hv) H
theorem VW_draw2Q {P:Program} {N:Nat} {Q:Exit → Env → Heap → Prop} {e:Env} {h:Heap} {q:List VOper} {late:List Bool} (l:List Nat) (hq:Heap) (hl:hq.le h) (H:Zc3 P hq q (fun e' h'=>Q .normal (Env.keep l e') h') e h):VW P N (.draw2 q late) Q e h:=by
  have hs:∀ h',hq.le h' → Shp hq h':=fun h' hh id fz z es hg=>⟨fz,es,Heap.le_get hh _ _ hg⟩
  refine VW_draw2 l hq hq hq hl hl (hs h hl) (DrawG.monoZ (hqf:=fun _=>hq) (funext fun i=>?_) (fun k h1 h' hz=>⟨hz,fun _ _=>hz,fun _=>hs h' hz⟩) H.toG)
  simp only [hq3]
  split <;> (try split) <;> (try split) <;> rfl
end Go.VM
