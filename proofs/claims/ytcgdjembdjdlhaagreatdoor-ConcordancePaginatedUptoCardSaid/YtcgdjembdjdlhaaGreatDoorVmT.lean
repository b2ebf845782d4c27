import Derived.Test.YtcgdjembdjdlhaaGreatDoorVmD
import Derived.Sort.Grow
import Derived.Shelf.GgSortFunc.RowK
set_option linter.all false
namespace Go.VM
open Go
def PCallS (P:Program) (f:FuncId) (args:List PV) (S:PV→Prop):Prop :=
 fnOk P f=true∧Zax args∧∀ g w (vals:Array Value),Rel g w Heap.nil→Args g vals args →
  Calls P f vals w fun x w'=>∃ v p m',x=.returned v∧S p∧Rep ⟨m',fun _=>none⟩ v p∧MemExt g w m' w'∧RowKit.Below w.heap.size w w'
theorem PCallS.mono {P:Program} {f:FuncId} {args:List PV} {S S':PV→Prop} (H:PCallS P f args S) (hs:∀ p,S p→S' p):PCallS P f args S' :=
 ⟨H.1,H.2.1,fun g w vals r ha=>(H.2.2 g w vals r ha).mono fun x w' ⟨v,p,m',h1,h2,h3⟩=>⟨v,p,m',h1,hs p h2,h3⟩⟩
end Go.VM
namespace Go.VM
open Go Go.Sort
structure Plain (α : Type) (k : Nat) (enc : α → List Value) (encP : α → List PV) : Prop where
 len : ∀ x, (enc x).length = k
 lenP : ∀ x, (encP x).length = k
 one : ∀ x, ∀ v ∈ enc x, v.oneCell' = true
 rep : ∀ g x j, j < k → Rep g ((enc x).getD j Go.undef) (PV.nth (encP x) j)
 inv : ∀ g v x j, j < k → Rep g v (PV.nth (encP x) j) → v = (enc x).getD j Go.undef
section
variable {α : Type} [Inhabited α] {k : Nat} {enc : α → List Value} {encP : α → List PV} {g : Gh} {w : World} {h : Heap}
end
end Go.VM
