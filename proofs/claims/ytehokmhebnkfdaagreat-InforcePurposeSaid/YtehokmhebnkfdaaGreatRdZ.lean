import Derived.Test.YtehokmhebnkfdaaGreatRd
import Derived.Test.YtehokmhebnkfdaaGreatVmAa
import Derived.KernelRfl
set_option linter.all false
namespace Go.Proofs.YtehokmhebnkfdaaGreat.rd
open Go Go.VM
variable {W : World}
theorem bItem:Tryz.prog.bytesOf 40 = 368:=by kernel_rfl
theorem bAct:Tryz.prog.bytesOf 53 = 88:=by kernel_rfl
theorem bGz:Tryz.prog.bytesOf 57 = 56:=by kernel_rfl
theorem rItsZ (n:Nat):ReadsZ Tryz.prog W n 38 (fun l=>okL It.ok l ∧ itemsOk l) (fun l=>[.sl 25 (l.map It.enc)]):=by
  cases n with
  | zero=>exact readsZ_zero
  | succ n =>
    refine ReadsZ.map (fun l:List It=>l) (readsZ_slice Tryz.underlying38 k40 (by decide) bItem It.Zbv (rIt n).z) ?_ (fun _=>rfl)
    rintro l ⟨h1,h2,h3⟩
    refine ⟨⟨h1,h3⟩,?_⟩
    have h5:reachBytes = 140737488351232:=rfl
    unfold itemsOk maxItems
    omega
theorem rAcZ (n:Nat):ReadsZ Tryz.prog W n 53 Ac.okZ Ac.enc:=by
  cases n with
  | zero=>exact readsZ_zero
  | succ n =>
    refine ReadsZ.map (fun x:Int × Str × Int × Sta × List It × Unit=>(⟨x.1,x.2.1,x.2.2.1,x.2.2.2.1,x.2.2.2.2.1⟩:Ac)) (readsZ_struct Tryz.underlying53 rfl k53 (Zck (by exact (rI n).z) (by exact k3) (by exact (fun _=>rfl)) (by rfl) (Zck (by exact (rS n).z) (by exact k9) (by exact (fun _=>rfl)) (by rfl) (Zck (by exact (rI n).z) (by exact k3) (by exact (fun _=>rfl)) (by rfl) (Zck (by exact (rSta n).z) (by exact k37) (by exact (fun _=>rfl)) (by rfl) (Zck (by exact (rItsZ n)) (by exact k38) (by exact (fun _=>rfl)) (by rfl) freadsZ_nil))))) (by exact fun _=>rfl)) ?_ ?_
    · rintro ⟨a,b,c,d,e,_⟩ ⟨h1,h2,h3,h4,h5,_⟩; exact ⟨⟨h1,h2,h3,h4,h5.1⟩,h5.2⟩
    · rintro ⟨a,b,c,d,e,_⟩; rfl
theorem rAcsZ (n:Nat):ReadsZ Tryz.prog W n 54 (okL Ac.okZ) (fun l=>[.sl 7 (l.map Ac.enc)]):=by
  cases n with
  | zero=>exact readsZ_zero
  | succ n =>
    refine ReadsZ.map (fun l:List Ac=>l) (readsZ_slice Tryz.underlying54 k53 (by decide) bAct (fun _=>rfl) (rAcZ n)) ?_ (fun _=>rfl)
    rintro l ⟨h1,h2,h3⟩
    exact ⟨h1,h3⟩
theorem rGzZ (n:Nat):ReadsZ Tryz.prog W n 57 Gz.okZ Gz.enc:=by
  cases n with
  | zero=>exact readsZ_zero
  | succ n =>
    refine ReadsZ.map (fun x:Int × Int × Str × List Ac × Unit=>(⟨x.1,x.2.1,x.2.2.1,x.2.2.2.1⟩:Gz)) (readsZ_struct Tryz.underlying57 rfl k57 (Zck (by exact (rI n).z) (by exact k3) (by exact (fun _=>rfl)) (by rfl) (Zck (by exact (rI n).z) (by exact k3) (by exact (fun _=>rfl)) (by rfl) (Zck (by exact (rS n).z) (by exact k9) (by exact (fun _=>rfl)) (by rfl) (Zck (by exact (rAcsZ n)) (by exact k54) (by exact (fun _=>rfl)) (by rfl) freadsZ_nil)))) (by exact fun _=>rfl)) ?_ ?_
    · rintro ⟨a,b,c,d,_⟩ ⟨h1,h2,h3,h4,_⟩; exact ⟨h1,h2,h3,h4⟩
    · rintro ⟨a,b,c,d,_⟩; rfl
theorem rGzsZ (n:Nat):ReadsZ Tryz.prog W n 22 (okL Gz.okZ) (fun l=>[.sl 4 (l.map Gz.enc)]):=by
  cases n with
  | zero=>exact readsZ_zero
  | succ n =>
    refine ReadsZ.map (fun l:List Gz=>l) (readsZ_slice Tryz.underlying22 k57 (by decide) bGz (fun _=>rfl) (rGzZ n)) ?_ (fun _=>rfl)
    rintro l ⟨h1,h2,h3⟩
    exact ⟨h1,h3⟩
end Go.Proofs.YtehokmhebnkfdaaGreat.rd
