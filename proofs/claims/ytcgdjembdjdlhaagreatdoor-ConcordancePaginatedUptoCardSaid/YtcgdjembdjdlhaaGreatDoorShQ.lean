import Derived.Shelf.SlIter.Sorted
import Derived.Shelf.SlIter.Collect
import Derived.Ground.GgzProg
import Derived.KernelRfl
import Derived.Test.YtcgdjembdjdlhaaGreatDoorChecked
namespace Go.Proofs
open Go.Shelf
def Tryz.keysS_ren:Go.Shelf.Ren:=⟨fun|7=>96|10=>154|n=>n,fun|23=>142|26=>9|3=>60|28=>146|0=>0|27=>145|33=>175|4=>4|n=>n,fun|n=>n⟩
theorem Tryz.keysS:Go.Proofs.SlLaysZ.n7 Tryz.prog Tryz.keysS_ren:={
 mixed:=by kernel_rfl
 f7:=⟨Tryz.f96.name,by decide,Tryz.func96.trans (congrArg some (by kernel_rfl))⟩
 f10:=⟨Tryz.f154.name,by decide,Tryz.func154.trans (congrArg some (by kernel_rfl))⟩
 t0:=Tryz.underlying0
 a0:=Tryz.isAgg0
 z0:=Tryz.sizeOf0
 v0:=Tryz.zeroValue0
 t4:=Tryz.underlying4
 a4:=Tryz.isAgg4
 z4:=Tryz.sizeOf4
 v4:=Tryz.zeroValue4
 t23:=Tryz.underlying142
 a23:=Tryz.isAgg142
 z23:=Tryz.sizeOf142
 v23:=Tryz.zeroValue142
 t26:=Tryz.underlying9
 a26:=Tryz.isAgg9
 z26:=Tryz.sizeOf9
 v26:=Tryz.zeroValue9
 t27:=Tryz.underlying145
 a27:=Tryz.isAgg145
 z27:=Tryz.sizeOf145
 v27:=Tryz.zeroValue145
 t28:=Tryz.underlying146
 a28:=Tryz.isAgg146
 z28:=Tryz.sizeOf146
 v28:=Tryz.zeroValue146
 t33:=Tryz.underlying175
 a33:=Tryz.isAgg175
 z33:=Tryz.sizeOf175
 v33:=Tryz.zeroValue175 }
def Tryz.sortedS_ren:Go.Shelf.Ren:=⟨fun|6=>95|8=>153|9=>22|11=>192|13=>52|12=>51|23=>90|24=>91|14=>81|15=>82|16=>83|17=>84|18=>85|19=>86|20=>87|21=>88|22=>89|25=>142|26=>143|27=>144|28=>145|29=>146|30=>147|31=>181|n=>n,fun|26=>9|28=>146|24=>37|0=>0|3=>3|37=>89|48=>137|50=>139|4=>4|40=>129|39=>128|45=>134|5=>5|9=>9|51=>184|55=>188|57=>216|58=>217|33=>175|n=>n,fun|n=>n⟩
theorem Tryz.sortedS:Go.Proofs.SlLaysZ.n6 Tryz.prog Tryz.sortedS_ren:={
 mixed:=by kernel_rfl
 f6:=⟨Tryz.f95.name,by decide,Tryz.func95.trans (congrArg some (by kernel_rfl))⟩
 f8:=⟨Tryz.f153.name,by decide,Tryz.func153.trans (congrArg some (by kernel_rfl))⟩
 f11:=⟨Tryz.f192.name,by decide,Tryz.func192.trans (congrArg some (by kernel_rfl))⟩
 t0:=Tryz.underlying0
 a0:=Tryz.isAgg0
 z0:=Tryz.sizeOf0
 v0:=Tryz.zeroValue0
 t24:=Tryz.underlying37
 a24:=Tryz.isAgg37
 z24:=Tryz.sizeOf37
 v24:=Tryz.zeroValue37
 t26:=Tryz.underlying9
 a26:=Tryz.isAgg9
 z26:=Tryz.sizeOf9
 v26:=Tryz.zeroValue9
 t28:=Tryz.underlying146
 a28:=Tryz.isAgg146
 z28:=Tryz.sizeOf146
 v28:=Tryz.zeroValue146
 i26:=by kernel_rfl }
end Go.Proofs
