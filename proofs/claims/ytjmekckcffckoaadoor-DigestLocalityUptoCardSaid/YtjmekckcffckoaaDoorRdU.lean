import Derived.Test.YtjmekckcffckoaaDoorE6
import Derived.Test.YtjmekckcffckoaaDoorVmAn
import Derived.Test.YtjmekckcffckoaaDoorE1
import Derived.Test.YtjmekckcffckoaaDoorRows
set_option linter.all false
namespace Go.Proofs.YtjmekckcffckoaaDoor.rd
open Go Go.VM
variable {W : World}
theorem rSU (n:Nat):ReadsU Tryd.prog W n 9 (fun a:Str=>a.length ≤ bulkB) (fun a=>[.str a]):=readsU_string Tryd.underlying9
def okU {α:Type} (ok:α → Prop) (l:List α):Prop:=l.length ≤ bulkB ∧ ∀ a ∈ l,ok a
theorem rWdU (n:Nat):ReadsU Tryd.prog W n 53 w.WdB Wd.enc:=by
  cases n with
  | zero=>exact readsU_zero
  | succ n =>
    refine ReadsU.map (fun x:Str × (Int × Int × Int × Unit) × Unit=>(⟨x.1,x.2.1.1,x.2.1.2.1,x.2.1.2.2.1⟩:Wd))
      (readsU_struct Tryd.underlying53 rfl k53 (Zbx (by exact rSU n) (by exact k9) (by exact (fun _=>rfl)) (by rfl) (Zbx (by exact (r51 n).u) (by exact k51) (by exact (fun _=>rfl)) (by rfl) freadsU_nil)) (by exact fun _=>rfl)) ?_ ?_
    · rintro ⟨a,⟨b,c,d,_⟩,_⟩ ⟨h1,⟨h2,h3,h4,_⟩,_⟩; exact ⟨h1,h2,h3,h4⟩
    · rintro ⟨a,⟨b,c,d,_⟩,_⟩; rfl
theorem rWdsU (n:Nat):ReadsU Tryd.prog W n 27 (okU w.WdB) (fun l=>[.sl 4 (l.map Wd.enc)]):=by
  cases n with
  | zero=>exact readsU_zero
  | succ n=>exact readsU_slice Tryd.underlying27 k53 (by decide) (fun _=>rfl) (rWdU n)
theorem rUnU:∀ n:Nat,ReadsU Tryd.prog W n 30 w.UnB Un.enc:=by
  intro n
  induction n using Nat.strongRecOn with
  | _ n ih =>
    cases n with
    | zero=>exact readsU_zero
    | succ n =>
      have kids:ReadsU Tryd.prog W n 28 (okU w.UnB) (fun l=>[.sl 8 (l.map Un.enc)]):=by
        cases n with
        | zero=>exact readsU_zero
        | succ m=>exact readsU_slice Tryd.underlying28 k30 (by decide) un_len (ih m (by omega))
      refine ReadsU.map (fun x:(Int × Int × Int × Unit) × Int × Str × List Wd × List Wd × List Un × Unit=>Un.mk x.1.1 x.1.2.1 x.1.2.2.1 x.2.1 x.2.2.1 x.2.2.2.1 x.2.2.2.2.1 x.2.2.2.2.2.1)
        (readsU_struct Tryd.underlying30 rfl k30 (Zbx (by exact (r26 n).u) (by exact k26) (by exact (fun _=>rfl)) (by rfl) (Zbx (by exact (rI n).u) (by exact k3) (by exact (fun _=>rfl)) (by rfl) (Zbx (by exact rSU n) (by exact k9) (by exact (fun _=>rfl)) (by rfl) (Zbx (by exact rWdsU n) (by exact k27) (by exact (fun _=>rfl)) (by rfl)
          (Zbx (by exact rWdsU n) (by exact k27) (by exact (fun _=>rfl)) (by rfl) (Zbx (by exact kids) (by exact k28) (by exact (fun _=>rfl)) (by rfl) freadsU_nil)))))) (by exact fun _=>rfl)) ?_ ?_
      · rintro ⟨⟨a,b,c,_⟩,k,l,h,w,ks,_⟩ ⟨⟨h1,h2,h3,_⟩,h4,h5,h6,h7,h8,_⟩
        exact .mk _ ⟨h1,h2,h3,h4⟩ h5 h6 h7 h8.1 h8.2
      · rintro ⟨⟨a,b,c,_⟩,k,l,h,w,ks,_⟩
        rw [Un.Za1]; rfl
theorem rU8 (n:Nat):Reads Tryd.prog W n 5 (fun a=>(Lit.int .u8 a).wf = true) (fun a=>[.int .u8 a]):=reads_int Tryd.underlying5
end Go.Proofs.YtjmekckcffckoaaDoor.rd
namespace Go.Proofs.YtjmekckcffckoaaDoor.w
open Go Go.VM
theorem bulk_part {H:Type} {d:DataW H}:∀ {l:List (DataW H)},d ∈ l → Rows.uptoBulk d ≤ Rows.uptoBulkAll l
  | x :: r,h=>by
    simp only [Rows.uptoBulkAll]
    rcases List.mem_cons.1 h with e | e
    · subst e; omega
    · have:=bulk_part e; omega
theorem bulk_one {H:Type} (d:DataW H):1 ≤ Rows.uptoBulk d:=by
  cases d with
  | lit l=>cases l <;> simp [Rows.uptoBulk]
  | nil=>simp [Rows.uptoBulk]
  | ptr d=>simp [Rows.uptoBulk]
  | slice elems spare=>simp [Rows.uptoBulk]
  | agg parts=>simp [Rows.uptoBulk]
  | iface t d=>simp [Rows.uptoBulk]
  | map entries=>simp [Rows.uptoBulk]
  | held h=>simp [Rows.uptoBulk]
theorem bulk_len {H:Type}:∀ l:List (DataW H),l.length ≤ Rows.uptoBulkAll l
  | []=>by simp [Rows.uptoBulkAll]
  | x :: r=>by have:=bulk_one x; have:=bulk_len r; simp only [Rows.uptoBulkAll,List.length_cons]; omega
theorem bulky {H:Type}:Bulky (Rows.uptoBulk (H:=H)) :=
  ⟨fun s=>by simp only [Rows.uptoBulk]; omega,fun es sp=>by have:=bulk_len es; simp only [Rows.uptoBulk]; omega,fun es sp d h=>by have:=bulk_part h; simp only [Rows.uptoBulk]; omega,fun ps d h=>by have:=bulk_part h; simp only [Rows.uptoBulk]; omega⟩
theorem bulk_bound {H:Type} {l:List (DataW H)} (h:Rows.uptoSmall H (l ++ []) = true):∀ d ∈ l,Rows.uptoBulk d ≤ bulkB:=fun d hd=>by
  rw [List.append_nil] at h
  have h1:Rows.uptoBulkAll l ≤ 1048576:=of_decide_eq_true h
  exact Nat.le_trans (bulk_part hd) h1
end Go.Proofs.YtjmekckcffckoaaDoor.w
