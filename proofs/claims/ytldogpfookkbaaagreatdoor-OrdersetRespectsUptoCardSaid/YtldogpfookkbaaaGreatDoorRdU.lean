import Derived.Test.YtldogpfookkbaaaGreatDoorM1
import Derived.Test.YtldogpfookkbaaaGreatDoorVmAn
import Derived.Test.YtldogpfookkbaaaGreatDoorB4
import Derived.Test.YtldogpfookkbaaaGreatDoorRows
set_option linter.all false
namespace Go.VM
open Go
def lenB {α:Type} (ok:α→Prop) (l:List α):Prop:=l.length≤1048576∧∀ a∈l,ok a
def StB (s:St):Prop:=i64 s.kind∧s.label.length≤1048576
def StaB (s:Sta):Prop:=i64 s.kind∧i64 s.day∧s.event.length≤1048576
def strB (s:Str):Prop:=s.length≤1048576
inductive ItB : It → Prop
 | mk (x : It) (h1 : i64 x.kind) (h2 : lenB StB x.at') (h3 : lenB StB x.to) (h4 : i64 x.wher) (h5 : i64 x.nth) (h6 : UnB x.unit) (h7 : lenB strB x.old) (h8 : lenB strB x.new) (h9 : strB x.label) (h10 : strB x.forr) (h11 : StaB x.start)
   (h12 : i64 x.act) (h13 : i64 x.item) (h14 : i64 x.day) (h15 : strB x.event) (h16 : x.by'.length ≤ 1048576) (h17 : ∀ k ∈ x.by', ItB k) : ItB x
end Go.VM
namespace Go.Proofs.YtldogpfookkbaaaGreatDoor.rd
open Go Go.VM
variable {W : World}
theorem rslU {t e : TypeId} {z : Nat} {α : Type} {ok : α → Prop} {enc : α → List PV} (ht : Tryz.prog.underlying t = some (.slice e)) (hz : Tryz.prog.cellsOf e = z) (h0 : z ≠ 0) (hl : ∀ a, (enc a).length = z) (n : Nat) (h : ∀ m, m < n → ReadsU Tryz.prog W m e ok enc) :
  ReadsU Tryz.prog W n t (lenB ok) (fun l=>[.sl z (l.map enc)]):=by
 cases n with
 | zero=>exact readsU_zero
 | succ n=>exact readsU_slice ht hz h0 hl (h n (by omega))
theorem rIsU (n:Nat):ReadsU Tryz.prog W n 22 (fun l:List Int=>l.length≤1048576) (fun l=>[.sl 1 (l.map fun x=>[pI x])]) :=
 ReadsU.map (fun l:List Int=>l) (rslU Tryz.underlying22 k3 (by decide) (fun _=>rfl) n (fun m _=>(rI m).u)) (fun _ h=>h.1) (fun _=>rfl)
end Go.Proofs.YtldogpfookkbaaaGreatDoor.rd
namespace Go.Proofs.YtldogpfookkbaaaGreatDoor.w
open Go Go.VM
theorem bulk_part {H:Type} {d:DataW H}:∀ {l:List (DataW H)},d∈l→Rows.uptoBulk d≤Rows.uptoBulkAll l
 | x::r,h=>by
  simp only [Rows.uptoBulkAll];rcases List.mem_cons.1 h with e|e
  ·subst e;omega
  ·have:=bulk_part e;omega
theorem bulk_one {H:Type} (d:DataW H):1≤Rows.uptoBulk d:=by
 cases d with
 | lit l=>cases l<;>simp [Rows.uptoBulk]
 | nil=>simp [Rows.uptoBulk]
 | ptr d=>simp [Rows.uptoBulk]
 | slice elems spare=>simp [Rows.uptoBulk]
 | agg parts=>simp [Rows.uptoBulk]
 | iface t d=>simp [Rows.uptoBulk]
 | map entries=>simp [Rows.uptoBulk]
 | held h=>simp [Rows.uptoBulk]
theorem bulk_len {H:Type}:∀ l:List (DataW H),l.length≤Rows.uptoBulkAll l
 | []=>by simp [Rows.uptoBulkAll]
 | x::r=>by have:=bulk_one x;have:=bulk_len r;simp only [Rows.uptoBulkAll,List.length_cons];omega
theorem bulky {H:Type}:Bulky (Rows.uptoBulk (H:=H)) :=
 ⟨fun s=>by simp only [Rows.uptoBulk];omega,fun es sp=>by have:=bulk_len es;simp only [Rows.uptoBulk];omega,fun es sp d h=>by have:=bulk_part h;simp only [Rows.uptoBulk];omega,fun ps d h=>by have:=bulk_part h;simp only [Rows.uptoBulk];omega⟩
theorem bulk_bound {H:Type} {l:List (DataW H)} (h:Rows.uptoSmall H (l++[])=true):∀ d∈l,Rows.uptoBulk d≤bulkB:=fun d hd=>by
 rw [List.append_nil] at h;have h1:Rows.uptoBulkAll l≤1048576:=of_decide_eq_true h;exact Nat.le_trans (bulk_part hd) h1
end Go.Proofs.YtldogpfookkbaaaGreatDoor.w
