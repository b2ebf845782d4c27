import Derived.Test.YtjmekckcffckoabGreatDoorVmAg
import Derived.Test.YtjmekckcffckoabGreatDoorVmS
import Derived.Laws.IdiomRangeMap
import Derived.Laws.Cover3
import Derived.Laws.Pointers
set_option linter.all false
namespace Go.VM
open Go
variable {P : Program} {o : Oper} {e : Env} {h : Heap} {K : PV → Heap → Prop}
end Go.VM
namespace Go.VM
open Go
variable {P : Program} {o : Oper} {e : Env} {h : Heap} {K : PV → Heap → Prop}
def mapNil:PV → Option Bool
  | .nilmp=>some true
  | .mp _=>some false
  | .rmp _=>some false
  | _=>none
theorem mapNil_rep {g:Gh} {v:Value} {p:PV} {b:Bool} (h:Rep g v p) (hb:mapNil p = some b):∃ m:Option Nat,v = .map m ∧ m.isNone = b:=by
  cases h <;> simp only [mapNil,Option.some.injEq,reduceCtorEq] at hb <;> subst hb <;> exact ⟨_,rfl,rfl⟩
theorem OpS_mapeq {t kt et yt:TypeId} {x:Operand} {va:VA} {b:Bool} (ho:o.op = .binOp .eql t x (.const (.map none)) yt) (ht:P.underlying t = some (.map kt et)) (hx:cA x = some va) (hv:mapNil (va.ev e) = some b) (H:K (.bool b) h):OpS P o e h K:=by
  refine OpS.of_value fun g w a r he=>?_
  obtain ⟨m,e1,e2⟩:=mapNil_rep (Zb6 he hx) hv
  subst e2
  refine ⟨.bool m.isNone,_,g,w,h,?_,H,.bool _,r,Evo.refl _ _ _⟩
  have e2:a.eval (.const (.map none)) = .map none:=rfl
  simp only [execOp,ho,e1,e2,eqGuard,binOp]
  simp [run_equal_map_nil w t kt et m ht]
end Go.VM
