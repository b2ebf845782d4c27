import Derived.Test.YtjmekckcffckoabGreatDoorVmAc
import Derived.Test.YtjmekckcffckoabGreatDoorVmS
import Derived.Test.YtjmekckcffckoabGreatDoorR6
import Derived.Test.YtjmekckcffckoabGreatDoorRows
import Derived.Lib.LaidTab
import Derived.LaidSub
import Derived.Lib.ItoaNum
import Derived.Test.YtjmekckcffckoabGreatDoorVmAn
set_option linter.all false
namespace Go.Proofs.YtjmekckcffckoabGreatDoor.w
open Go Go.VM
theorem known_tab (b:Nat) (l:List Value) (h:known.lookup b = some l):b = 1 ∧ l = Lib.pow10Tab.map fun z=>Value.int .u64 z:=by
  have e:known = [(1,Lib.pow10Tab.map fun z=>Value.int .u64 z)]:=by kernel_rfl
  rw [e] at h
  simp only [List.lookup] at h
  split at h
  · rename_i hb
    simp only [Option.some.injEq] at h
    exact ⟨by simpa using hb,h.symm⟩
  · cases h
theorem knownW_of {W : World} {rest : List (String × DataW Unit)} (h : laidMetH Tryz.prog rest W) (hf : rest.filter (fun x => x.1 == "internal/strconv.uint64pow10") = [("internal/strconv.uint64pow10", Lib.tabData .u64 Lib.pow10Tab)]) (hn : (rest.filter fun x => x.2.handleName?.isNone) = rest) : KnownW W := by
  have h1:=(laidMetH_iff.1 h).1
  rw [hn] at h1
  have h2 := h1.filter (fun x => x.1 == "internal/strconv.uint64pow10")
  rw [hf] at h2
  have hg : Tryz.prog.globalNamed "internal/strconv.uint64pow10" = some 1 := by kernel_rfl
  have tab:=Lib.tabIs_of_head (P:=Tryz.prog) (t:=226) (e:=175) (n:=20) hg (by kernel_rfl) Tryz.underlying226 Tryz.underlying175 (by kernel_rfl) (by kernel_rfl) h2
  intro b l hl
  obtain ⟨rfl,rfl⟩:=known_tab b l hl
  refine ⟨?_,fun v hv=>?_⟩
  · unfold Lib.TabIs World.var? at tab
    rw [hg] at tab
    simp only [Option.bind_some] at tab
    split at tab
    · rename_i c t fr hh
      simp only [Option.some.injEq] at tab
      exact ⟨t,fr,by rw [hh,tab]⟩
    · cases tab
  · obtain ⟨z,_,rfl⟩:=List.mem_map.1 hv
    rfl
end Go.Proofs.YtjmekckcffckoabGreatDoor.w
namespace Go.Proofs.YtjmekckcffckoabGreatDoor.w
open Go Go.VM
theorem bulk_part {H:Type} {d:DataW H}:∀ {l:List (DataW H)},d ∈ l → Rows.uptoBulk d ≤ Rows.uptoBulkAll l
  | x :: r,h=>by
    simp only [Rows.uptoBulkAll]
    rcases List.mem_cons.1 h with e | e
    · subst e; omega
    · have:=bulk_part e; omega
theorem bulk_one {H:Type} (d:DataW H):1 ≤ Rows.uptoBulk d:=by
  cases d with
  | lit l=>cases l <;> simp [Rows.uptoBulk]
  | nil=>simp [Rows.uptoBulk]
  | ptr d=>simp [Rows.uptoBulk]
  | slice elems spare=>simp [Rows.uptoBulk]
  | agg parts=>simp [Rows.uptoBulk]
  | iface t d=>simp [Rows.uptoBulk]
  | map entries=>simp [Rows.uptoBulk]
  | held h=>simp [Rows.uptoBulk]
theorem bulk_len {H:Type}:∀ l:List (DataW H),l.length ≤ Rows.uptoBulkAll l
  | []=>by simp [Rows.uptoBulkAll]
  | x :: r=>by have:=bulk_one x; have:=bulk_len r; simp only [Rows.uptoBulkAll,List.length_cons]; omega
theorem bulky {H:Type}:Bulky (Rows.uptoBulk (H:=H)) :=
  ⟨fun s=>by simp only [Rows.uptoBulk]; omega,fun es sp=>by have:=bulk_len es; simp only [Rows.uptoBulk]; omega,fun es sp d h=>by have:=bulk_part h; simp only [Rows.uptoBulk]; omega,fun ps d h=>by have:=bulk_part h; simp only [Rows.uptoBulk]; omega⟩
theorem bulk_bound {H:Type} {l:List (DataW H)} (h:Rows.uptoSmall H (l ++ []) = true):∀ d ∈ l,Rows.uptoBulk d ≤ bulkB:=fun d hd=>by
  rw [List.append_nil] at h
  have h1:Rows.uptoBulkAll l ≤ 1048576:=of_decide_eq_true h
  exact Nat.le_trans (bulk_part hd) h1
end Go.Proofs.YtjmekckcffckoabGreatDoor.w
