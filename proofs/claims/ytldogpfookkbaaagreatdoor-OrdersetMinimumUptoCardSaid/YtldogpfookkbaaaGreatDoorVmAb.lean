import Derived.Test.YtldogpfookkbaaaGreatDoorVmZ
import Derived.Shelf.SlIterI.Sorted
set_option linter.all false
namespace Go.VM
open Go Go.RowKit Go.Maps Go.Shelf Go.MapKept Go.WideShapes
open Go.WideElems (Fit rg rd rg_of rd_mk)
theorem Rep.of_one{g:Gh}{b:Nat}{p:PV}{len cap:Nat}(h:Rep g (.slice (some ⟨b,0,none⟩) len cap) (.sl 1 [[p]]))(hl:len=1):∃v,g.m b 0=some v∧Rep g v p:=by
 subst hl;cases h with
 |sl b o len cap z a es vs ha hl hc hz hm hr=>
  cases ha;have h1:=hm 0 0 (by omega) (by omega);have h2:=hr 0 0 (by omega) (by omega);exact⟨vs 0 0,by simpa using h1,by simpa[PV.row,PV.nth]using h2⟩
variable {P:Program} {ρ ρ':Go.Shelf.Ren}
abbrev R0:Value→Option (DataW Unit×List MemPlace):=fun _=>some (.nil,[])
end Go.VM
