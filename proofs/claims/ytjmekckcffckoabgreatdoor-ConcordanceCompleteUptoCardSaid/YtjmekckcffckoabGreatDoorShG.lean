import Derived.Shelf.Spec.SlicesGrow
import Derived.Shelf.SlIter.Sorted
import Derived.Shelf.SlIter.Collect
import Derived.Ground.Names8Prog
import Derived.Ground.GgzProg
import Derived.KernelRfl
import Derived.Test.YtjmekckcffckoabGreatDoorChecked
namespace Go.Proofs
open Go.Shelf
def Tryz.growS_ren:Go.Shelf.Ren:=⟨fun | 4=>62 | n=>n,fun | 22=>38 | 25=>9 | 3=>3 | 4=>4 | 9=>9 | 20=>20 | 0=>0 | n=>n,fun | n=>n⟩
theorem Tryz.growS:Go.Proofs.Lays8.n4 Tryz.prog Tryz.growS_ren:={
  mixed:=by kernel_rfl
  f4:=⟨Tryz.f62.name,by decide,Tryz.func62.trans (congrArg some (by kernel_rfl))⟩
  t0:=Tryz.underlying0
  a0:=Tryz.isAgg0
  z0:=Tryz.sizeOf0
  v0:=Tryz.zeroValue0
  t3:=Tryz.underlying3
  a3:=Tryz.isAgg3
  z3:=Tryz.sizeOf3
  v3:=Tryz.zeroValue3
  t4:=Tryz.underlying4
  a4:=Tryz.isAgg4
  z4:=Tryz.sizeOf4
  v4:=Tryz.zeroValue4
  t9:=Tryz.underlying9
  a9:=Tryz.isAgg9
  z9:=Tryz.sizeOf9
  v9:=Tryz.zeroValue9
  t20:=Tryz.underlying20
  a20:=Tryz.isAgg20
  z20:=Tryz.sizeOf20
  v20:=Tryz.zeroValue20
  t22:=Tryz.underlying38
  a22:=Tryz.isAgg38
  z22:=Tryz.sizeOf38
  v22:=Tryz.zeroValue38 }
def Tryz.keysS_ren:Go.Shelf.Ren:=⟨fun | 7=>30 | 10=>60 | n=>n,fun | 23=>64 | 26=>9 | 3=>22 | 28=>67 | 0=>0 | 27=>66 | 33=>110 | 4=>4 | n=>n,fun | n=>n⟩
theorem Tryz.Zcy:Go.Proofs.SlLaysZ.n7 Tryz.prog Tryz.keysS_ren:={
  mixed:=by kernel_rfl
  f7:=⟨Tryz.f30.name,by decide,Tryz.func30.trans (congrArg some (by kernel_rfl))⟩
  f10:=⟨Tryz.f60.name,by decide,Tryz.func60.trans (congrArg some (by kernel_rfl))⟩
  t0:=Tryz.underlying0
  a0:=Tryz.isAgg0
  z0:=Tryz.sizeOf0
  v0:=Tryz.zeroValue0
  t4:=Tryz.underlying4
  a4:=Tryz.isAgg4
  z4:=Tryz.sizeOf4
  v4:=Tryz.zeroValue4
  t23:=Tryz.underlying64
  a23:=Tryz.isAgg64
  z23:=Tryz.sizeOf64
  v23:=Tryz.zeroValue64
  t26:=Tryz.underlying9
  a26:=Tryz.isAgg9
  z26:=Tryz.sizeOf9
  v26:=Tryz.zeroValue9
  t27:=Tryz.underlying66
  a27:=Tryz.isAgg66
  z27:=Tryz.sizeOf66
  v27:=Tryz.zeroValue66
  t28:=Tryz.underlying67
  a28:=Tryz.isAgg67
  z28:=Tryz.sizeOf67
  v28:=Tryz.zeroValue67
  t33:=Tryz.underlying110
  a33:=Tryz.isAgg110
  z33:=Tryz.sizeOf110
  v33:=Tryz.zeroValue110 }
def Tryz.sortedS_ren:Go.Shelf.Ren:=⟨fun | 6=>29 | 8=>58 | 9=>59 | 11=>91 | 13=>93 | 12=>92 | 23=>140 | 24=>141 | 14=>131 | 15=>132 | 16=>133 | 17=>134 | 18=>135 | 19=>136 | 20=>137 | 21=>138 | 22=>139 | 25=>177 | 26=>178 | 27=>179 | 28=>180 | 29=>181 | 30=>182 | 31=>214 | n=>n,fun | 26=>9 | 28=>67 | 24=>38 | 0=>0 | 3=>3 | 37=>129 | 48=>172 | 50=>175 | 4=>4 | 40=>194 | 39=>193 | 45=>198 | 5=>5 | 9=>9 | 51=>229 | 55=>233 | 57=>257 | 58=>258 | 33=>110 | n=>n,fun | n=>n⟩
theorem Tryz.sortedS:Go.Proofs.SlLaysZ.n6 Tryz.prog Tryz.sortedS_ren:={
  mixed:=by kernel_rfl
  f6:=⟨Tryz.f29.name,by decide,Tryz.func29.trans (congrArg some (by kernel_rfl))⟩
  f8:=⟨Tryz.f58.name,by decide,Tryz.func58.trans (congrArg some (by kernel_rfl))⟩
  f11:=⟨Tryz.f91.name,by decide,Tryz.func91.trans (congrArg some (by kernel_rfl))⟩
  t0:=Tryz.underlying0
  a0:=Tryz.isAgg0
  z0:=Tryz.sizeOf0
  v0:=Tryz.zeroValue0
  t24:=Tryz.underlying38
  a24:=Tryz.isAgg38
  z24:=Tryz.sizeOf38
  v24:=Tryz.zeroValue38
  t26:=Tryz.underlying9
  a26:=Tryz.isAgg9
  z26:=Tryz.sizeOf9
  v26:=Tryz.zeroValue9
  t28:=Tryz.underlying67
  a28:=Tryz.isAgg67
  z28:=Tryz.sizeOf67
  v28:=Tryz.zeroValue67
  i26:=by kernel_rfl }
end Go.Proofs
