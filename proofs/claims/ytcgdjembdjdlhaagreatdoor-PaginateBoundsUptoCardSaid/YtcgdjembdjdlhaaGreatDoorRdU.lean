import Derived.Test.YtcgdjembdjdlhaaGreatDoorKw
import Derived.Test.YtcgdjembdjdlhaaGreatDoorVmAn
import Derived.Test.YtcgdjembdjdlhaaGreatDoorY1
import Derived.Test.YtcgdjembdjdlhaaGreatDoorRows
set_option linter.all false
namespace Go.Proofs.YtcgdjembdjdlhaaGreatDoor.rd
open Go Go.VM
variable {W : World}
theorem rSU (n:Nat):ReadsU Tryz.prog W n 9 (fun a:Str=>a.length≤bulkB) (fun a=>[.str a]):=readsU_string Tryz.underlying9
def okU {α:Type} (ok:α→Prop) (l:List α):Prop:=l.length≤bulkB∧∀ a∈l,ok a
theorem rWdU (n:Nat):ReadsU Tryz.prog W n 116 WdB Wd.enc:=by
 cases n with
 | zero=>exact readsU_zero
 | succ n =>
  refine ReadsU.map (fun x:Str×(Int×Int×Int×Unit)×Unit=>(⟨x.1,x.2.1.1,x.2.1.2.1,x.2.1.2.2.1⟩:Wd))
   (readsU_struct Tryz.underlying116 rfl k116 (Zbz (by exact rSU n) (by exact k9) (by exact (fun _=>rfl)) (by rfl) (Zbz (by exact (r114 n).u) (by exact k114) (by exact (fun _=>rfl)) (by rfl) freadsU_nil)) (by exact fun _=>rfl)) ?_ ?_
  ·rintro ⟨a,⟨b,c,d,_⟩,_⟩ ⟨h1,⟨h2,h3,h4,_⟩,_⟩;exact ⟨h1,h2,h3,h4⟩
  ·rintro ⟨a,⟨b,c,d,_⟩,_⟩;rfl
theorem rWdsU (n:Nat):ReadsU Tryz.prog W n 24 (okU WdB) (fun l=>[.sl 4 (l.map Wd.enc)]):=by
 cases n with
 | zero=>exact readsU_zero
 | succ n=>exact readsU_slice Tryz.underlying24 k116 (by decide) (fun _=>rfl) (rWdU n)
theorem rUnU:∀ n:Nat,ReadsU Tryz.prog W n 27 UnB Un.enc:=by
 intro n
 induction n using Nat.strongRecOn with
 | _ n ih =>
  cases n with
  | zero=>exact readsU_zero
  | succ n =>
   have kids:ReadsU Tryz.prog W n 25 (okU UnB) (fun l=>[.sl 8 (l.map Un.enc)]):=by
    cases n with
    | zero=>exact readsU_zero
    | succ m=>exact readsU_slice Tryz.underlying25 k27 (by decide) un_len (ih m (by omega))
   refine ReadsU.map (fun x:(Int×Int×Int×Unit)×Int×Str×List Wd×List Wd×List Un×Unit=>Un.mk x.1.1 x.1.2.1 x.1.2.2.1 x.2.1 x.2.2.1 x.2.2.2.1 x.2.2.2.2.1 x.2.2.2.2.2.1)
    (readsU_struct Tryz.underlying27 rfl k27 (Zbz (by exact (r23 n).u) (by exact k23) (by exact (fun _=>rfl)) (by rfl) (Zbz (by exact (rI n).u) (by exact k3) (by exact (fun _=>rfl)) (by rfl) (Zbz (by exact rSU n) (by exact k9) (by exact (fun _=>rfl)) (by rfl) (Zbz (by exact rWdsU n) (by exact k24) (by exact (fun _=>rfl)) (by rfl)
     (Zbz (by exact rWdsU n) (by exact k24) (by exact (fun _=>rfl)) (by rfl) (Zbz (by exact kids) (by exact k25) (by exact (fun _=>rfl)) (by rfl) freadsU_nil)))))) (by exact fun _=>rfl)) ?_ ?_
   ·rintro ⟨⟨a,b,c,_⟩,k,l,h,w,ks,_⟩ ⟨⟨h1,h2,h3,_⟩,h4,h5,h6,h7,h8,_⟩;exact .mk _ ⟨h1,h2,h3,h4⟩ h5 h6 h7 h8.1 h8.2
   ·rintro ⟨⟨a,b,c,_⟩,k,l,h,w,ks,_⟩;rw [Un.Zaf];rfl
end Go.Proofs.YtcgdjembdjdlhaaGreatDoor.rd
namespace Go.Proofs.YtcgdjembdjdlhaaGreatDoor.w
open Go Go.VM
theorem bulk_part {H:Type} {d:DataW H}:∀ {l:List (DataW H)},d∈l→Rows.uptoBulk d≤Rows.uptoBulkAll l
 | x::r,h=>by
  simp only [Rows.uptoBulkAll];rcases List.mem_cons.1 h with e|e
  ·subst e;omega
  ·have:=bulk_part e;omega
theorem bulk_one {H:Type} (d:DataW H):1≤Rows.uptoBulk d:=by
 cases d with
 | lit l=>cases l<;>simp [Rows.uptoBulk]
 | nil=>simp [Rows.uptoBulk]
 | ptr d=>simp [Rows.uptoBulk]
 | slice elems spare=>simp [Rows.uptoBulk]
 | agg parts=>simp [Rows.uptoBulk]
 | iface t d=>simp [Rows.uptoBulk]
 | map entries=>simp [Rows.uptoBulk]
 | held h=>simp [Rows.uptoBulk]
theorem bulk_len {H:Type}:∀ l:List (DataW H),l.length≤Rows.uptoBulkAll l
 | []=>by simp [Rows.uptoBulkAll]
 | x::r=>by have:=bulk_one x;have:=bulk_len r;simp only [Rows.uptoBulkAll,List.length_cons];omega
theorem bulky {H:Type}:Bulky (Rows.uptoBulk (H:=H)) :=
 ⟨fun s=>by simp only [Rows.uptoBulk];omega,fun es sp=>by have:=bulk_len es;simp only [Rows.uptoBulk];omega,fun es sp d h=>by have:=bulk_part h;simp only [Rows.uptoBulk];omega,fun ps d h=>by have:=bulk_part h;simp only [Rows.uptoBulk];omega⟩
theorem bulk_bound {H:Type} {l:List (DataW H)} (h:Rows.uptoSmall H (l++[])=true):∀ d∈l,Rows.uptoBulk d≤bulkB:=fun d hd=>by
 rw [List.append_nil] at h;have h1:Rows.uptoBulkAll l≤1048576:=of_decide_eq_true h;exact Nat.le_trans (bulk_part hd) h1
end Go.Proofs.YtcgdjembdjdlhaaGreatDoor.w
