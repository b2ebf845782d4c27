import Derived.Shelf.SlSortCmp.WholeK
import Derived.Shelf.SlicesG.Cmp
import Derived.Shelf.Sort.Plain
import Derived.Shelf.Slices.In.SortNone
import Derived.Shelf.Slices.CompactI
import Derived.Lib.RowBridge
import Derived.Ground.NamesProg
import Derived.Ground.Names2Prog
import Derived.Ground.SlsfProg
import Derived.Ground.SlgcProg
import Derived.KernelRfl
import Derived.Test.YtehokmhebnkfdaaGreatChecked
namespace Go.Proofs
open Go.Shelf
def Tryz.sortStrs_ren:Go.Shelf.Ren:=⟨fun | 190=>49 | 125=>69 | 258=>68 | 128=>105 | 129=>106 | 302=>96 | 303=>97 | 304=>98 | 305=>99 | 306=>100 | 307=>101 | 308=>102 | 309=>103 | 310=>104 | 333=>127 | 329=>128 | 330=>129 | 334=>130 | 335=>131 | 336=>132 | 344=>153 | n=>n,fun | 31=>35 | 9=>9 | 3=>3 | 46=>109 | 0=>0 | 51=>149 | 53=>151 | 4=>4 | 183=>142 | 182=>141 | 131=>130 | 5=>5 | 218=>167 | 222=>171 | 228=>192 | 229=>193 | n=>n,fun | n=>n⟩
theorem Tryz.sortStrs:Go.Proofs.Lays.n190 Tryz.prog Tryz.sortStrs_ren:={
  mixed:=by kernel_rfl
  f125:=Tryz.func69.trans (congrArg some (by kernel_rfl))
  f128:=Tryz.func105.trans (congrArg some (by kernel_rfl))
  f129:=Tryz.func106.trans (congrArg some (by kernel_rfl))
  f190:=Tryz.func49.trans (congrArg some (by kernel_rfl))
  f258:=Tryz.func68.trans (congrArg some (by kernel_rfl))
  f302:=Tryz.func96.trans (congrArg some (by kernel_rfl))
  f303:=Tryz.func97.trans (congrArg some (by kernel_rfl))
  f304:=Tryz.func98.trans (congrArg some (by kernel_rfl))
  f305:=Tryz.func99.trans (congrArg some (by kernel_rfl))
  f306:=Tryz.func100.trans (congrArg some (by kernel_rfl))
  f307:=Tryz.func101.trans (congrArg some (by kernel_rfl))
  f308:=Tryz.func102.trans (congrArg some (by kernel_rfl))
  f309:=Tryz.func103.trans (congrArg some (by kernel_rfl))
  f310:=Tryz.func104.trans (congrArg some (by kernel_rfl))
  f329:=Tryz.func128.trans (congrArg some (by kernel_rfl))
  f330:=Tryz.func129.trans (congrArg some (by kernel_rfl))
  f333:=Tryz.func127.trans (congrArg some (by kernel_rfl))
  f334:=Tryz.func130.trans (congrArg some (by kernel_rfl))
  f335:=Tryz.func131.trans (congrArg some (by kernel_rfl))
  f336:=Tryz.func132.trans (congrArg some (by kernel_rfl))
  f344:=Tryz.func153.trans (congrArg some (by kernel_rfl))
  t0:=Tryz.underlying0
  a0:=Tryz.isAgg0
  z0:=Tryz.sizeOf0
  v0:=Tryz.zeroValue0
  t3:=Tryz.underlying3
  a3:=Tryz.isAgg3
  z3:=Tryz.sizeOf3
  v3:=Tryz.zeroValue3
  t4:=Tryz.underlying4
  a4:=Tryz.isAgg4
  z4:=Tryz.sizeOf4
  v4:=Tryz.zeroValue4
  t5:=Tryz.underlying5
  a5:=Tryz.isAgg5
  z5:=Tryz.sizeOf5
  v5:=Tryz.zeroValue5
  t9:=Tryz.underlying9
  a9:=Tryz.isAgg9
  z9:=Tryz.sizeOf9
  v9:=Tryz.zeroValue9
  t31:=Tryz.underlying35
  a31:=Tryz.isAgg35
  z31:=Tryz.sizeOf35
  v31:=Tryz.zeroValue35
  t46:=Tryz.underlying109
  a46:=Tryz.isAgg109
  z46:=Tryz.sizeOf109
  v46:=Tryz.zeroValue109
  t51:=Tryz.underlying149
  a51:=Tryz.isAgg149
  z51:=Tryz.sizeOf149
  v51:=Tryz.zeroValue149
  t53:=Tryz.underlying151
  a53:=Tryz.isAgg151
  z53:=Tryz.sizeOf151
  v53:=Tryz.zeroValue151
  t131:=Tryz.underlying130
  a131:=Tryz.isAgg130
  z131:=Tryz.sizeOf130
  v131:=Tryz.zeroValue130
  t182:=Tryz.underlying141
  a182:=Tryz.isAgg141
  z182:=Tryz.sizeOf141
  v182:=Tryz.zeroValue141
  t183:=Tryz.underlying142
  a183:=Tryz.isAgg142
  z183:=Tryz.sizeOf142
  v183:=Tryz.zeroValue142
  t218:=Tryz.underlying167
  a218:=Tryz.isAgg167
  z218:=Tryz.sizeOf167
  v218:=Tryz.zeroValue167
  t222:=Tryz.underlying171
  a222:=Tryz.isAgg171
  z222:=Tryz.sizeOf171
  v222:=Tryz.zeroValue171
  t228:=Tryz.underlying192
  a228:=Tryz.isAgg192
  z228:=Tryz.sizeOf192
  v228:=Tryz.zeroValue192
  t229:=Tryz.underlying193
  a229:=Tryz.isAgg193
  z229:=Tryz.sizeOf193
  v229:=Tryz.zeroValue193 }
def Tryz.compactStrs_ren:Go.Shelf.Ren:=⟨fun | 194=>50 | n=>n,fun | 31=>35 | 9=>9 | 3=>3 | 4=>4 | 0=>0 | n=>n,fun | n=>n⟩
theorem Tryz.compactStrs:Go.Proofs.Lays.n194 Tryz.prog Tryz.compactStrs_ren:={
  mixed:=by kernel_rfl
  f194:=Tryz.func50.trans (congrArg some (by kernel_rfl))
  t0:=Tryz.underlying0
  a0:=Tryz.isAgg0
  z0:=Tryz.sizeOf0
  v0:=Tryz.zeroValue0
  t3:=Tryz.underlying3
  a3:=Tryz.isAgg3
  z3:=Tryz.sizeOf3
  v3:=Tryz.zeroValue3
  t4:=Tryz.underlying4
  a4:=Tryz.isAgg4
  z4:=Tryz.sizeOf4
  v4:=Tryz.zeroValue4
  t9:=Tryz.underlying9
  a9:=Tryz.isAgg9
  z9:=Tryz.sizeOf9
  v9:=Tryz.zeroValue9
  t31:=Tryz.underlying35
  a31:=Tryz.isAgg35
  z31:=Tryz.sizeOf35
  v31:=Tryz.zeroValue35 }
end Go.Proofs
