import Derived.Test.YtldogpfookkbaaaGreatDoorVmAg
import Derived.Test.YtldogpfookkbaaaGreatDoorVmC
import Derived.Test.YtldogpfookkbaaaGreatDoorVmZ
import Derived.Test.YtldogpfookkbaaaGreatDoorChecked
set_option linter.all false
namespace Go.VM
open Go
theorem ad1 {a:Nat} (h:a≤1000000000):IntKind.i64.wrap ((a:Int)+1)=((a+1:Nat):Int):=by rw [w64 (by omega) (by omega)];omega
structure Idt where
 act : Int
 item : Int
 n : Int
 deriving DecidableEq, Inhabited
def Idt.enc (x:Idt):List PV:=[pI x.act,pI x.item,pI x.n]
theorem Idt.closed (x:Idt):∀ y∈x.enc,Closed y:=by
 intro y hy;simp only [Idt.enc,List.mem_cons,List.not_mem_nil,or_false] at hy;rcases hy with rfl|rfl|rfl<;>exact cI _
end Go.VM
