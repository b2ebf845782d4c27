import Derived.Test.YtjmekckcffckoabGreatDoorVmM
set_option linter.all false
namespace Go.VM
open Go
theorem Gz.closed (a:Gz):∀ x ∈ a.enc,Closed x:=by
  intro x hx; simp only [Gz.enc,List.mem_cons,List.not_mem_nil,or_false] at hx
  rcases hx with rfl | rfl | rfl | rfl
  all_goals first | exact cI _ | exact cS _ | exact closed_acs _
theorem closed_gzs (l:List Gz):Closed (.sl 4 (l.map Gz.enc)):=Zb8 (fun w _=>w.closed)
end Go.VM
