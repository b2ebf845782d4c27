import Derived.Test.YtcgdjembdjdlhaaGreatDoorVmD
import Derived.Test.YtcgdjembdjdlhaaGreatDoorRows
set_option linter.all false
namespace Go.Proofs.YtcgdjembdjdlhaaGreatDoor.rd
open Go Go.VM
variable {W : World}
theorem k3:Tryz.prog.cellsOf 3=1:=by kernel_rfl
theorem k9:Tryz.prog.cellsOf 9=1:=by kernel_rfl
theorem k114:Tryz.prog.cellsOf 114=3:=by kernel_rfl
theorem k116:Tryz.prog.cellsOf 116=4:=by kernel_rfl
theorem k23:Tryz.prog.cellsOf 23=3:=by kernel_rfl
theorem k24:Tryz.prog.cellsOf 24=1:=by kernel_rfl
theorem k25:Tryz.prog.cellsOf 25=1:=by kernel_rfl
theorem k27:Tryz.prog.cellsOf 27=8:=by kernel_rfl
theorem rI (n:Nat):Reads Tryz.prog W n 3 i64 (fun a=>[pI a]):=reads_int Tryz.underlying3
def enc3 (x:Int×Int×Int×Unit):List PV:=[pI x.1,pI x.2.1,pI x.2.2.1]
def ok3 (x:Int×Int×Int×Unit):Prop:=i64 x.1∧i64 x.2.1∧i64 x.2.2.1∧True
theorem r114 (n:Nat):Reads Tryz.prog W n 114 ok3 enc3:=by
 cases n with
 | zero=>exact reads_zero
 | succ n=>exact Reads.map (fun x:Int×Int×Int×Unit=>x) (reads_struct Tryz.underlying114 rfl k114 (freads_cons (by exact (rI n)) (by exact k3) (by exact (fun _=>rfl)) (by rfl) (freads_cons (by exact (rI n)) (by exact k3) (by exact (fun _=>rfl)) (by rfl) (freads_cons (by exact (rI n)) (by exact k3) (by exact (fun _=>rfl)) (by rfl) freads_nil))) (by exact fun _=>rfl)) (fun _ h=>h) (fun _=>rfl)
theorem r23 (n:Nat):Reads Tryz.prog W n 23 ok3 enc3:=by
 cases n with
 | zero=>exact reads_zero
 | succ n=>exact Reads.map (fun x:Int×Int×Int×Unit=>x) (reads_struct Tryz.underlying23 rfl k23 (freads_cons (by exact (rI n)) (by exact k3) (by exact (fun _=>rfl)) (by rfl) (freads_cons (by exact (rI n)) (by exact k3) (by exact (fun _=>rfl)) (by rfl) (freads_cons (by exact (rI n)) (by exact k3) (by exact (fun _=>rfl)) (by rfl) freads_nil))) (by exact fun _=>rfl)) (fun _ h=>h) (fun _=>rfl)
theorem un_len (u:Un):u.enc.length=8:=by rw [Un.Zaf];rfl
end Go.Proofs.YtcgdjembdjdlhaaGreatDoor.rd
