import Derived.Shelf.SlSortCmp.Whole1
import Derived.Shelf.SlSortCmp.NoneTotal
import Derived.Shelf.LaysM
import Derived.Lib.RowBridge
import Derived.Ground.NamesProg
import Derived.Ground.SlsfProg
import Derived.KernelRfl
import Derived.Test.YtihfbefagcdpmaaDoorChecked
namespace Go.Proofs
open Go.Shelf
def Tryd.sortStr1_ren:Go.Shelf.Ren:=⟨fun | 6=>43 | 15=>54 | 14=>53 | 28=>76 | 29=>77 | 20=>68 | 21=>69 | 22=>70 | 23=>71 | 24=>72 | 25=>73 | 26=>74 | 27=>75 | 46=>87 | 47=>88 | 48=>89 | 49=>90 | 50=>91 | 57=>100 | n=>n,fun | 22=>34 | 24=>9 | 25=>26 | 3=>3 | 39=>68 | 0=>0 | 53=>93 | 55=>95 | 4=>4 | 46=>86 | 45=>85 | 50=>90 | 5=>5 | 9=>9 | 66=>107 | 70=>111 | 76=>124 | 77=>125 | n=>n,fun | n=>n⟩
theorem Tryd.sortStr1:Go.Proofs.SlLaysF.n6 Tryd.prog Tryd.sortStr1_ren:={
  mixed:=by kernel_rfl
  f6:=⟨Tryd.f43.name,by decide,Tryd.func43.trans (congrArg some (by kernel_rfl))⟩
  f14:=⟨Tryd.f53.name,by decide,Tryd.func53.trans (congrArg some (by kernel_rfl))⟩
  f15:=Tryd.func54.trans (congrArg some (by kernel_rfl))
  f20:=⟨Tryd.f68.name,by decide,Tryd.func68.trans (congrArg some (by kernel_rfl))⟩
  f21:=⟨Tryd.f69.name,by decide,Tryd.func69.trans (congrArg some (by kernel_rfl))⟩
  f22:=⟨Tryd.f70.name,by decide,Tryd.func70.trans (congrArg some (by kernel_rfl))⟩
  f23:=⟨Tryd.f71.name,by decide,Tryd.func71.trans (congrArg some (by kernel_rfl))⟩
  f24:=⟨Tryd.f72.name,by decide,Tryd.func72.trans (congrArg some (by kernel_rfl))⟩
  f25:=⟨Tryd.f73.name,by decide,Tryd.func73.trans (congrArg some (by kernel_rfl))⟩
  f26:=⟨Tryd.f74.name,by decide,Tryd.func74.trans (congrArg some (by kernel_rfl))⟩
  f27:=⟨Tryd.f75.name,by decide,Tryd.func75.trans (congrArg some (by kernel_rfl))⟩
  f28:=Tryd.func76.trans (congrArg some (by kernel_rfl))
  f29:=Tryd.func77.trans (congrArg some (by kernel_rfl))
  f46:=⟨Tryd.f87.name,by decide,Tryd.func87.trans (congrArg some (by kernel_rfl))⟩
  f47:=Tryd.func88.trans (congrArg some (by kernel_rfl))
  f48:=Tryd.func89.trans (congrArg some (by kernel_rfl))
  f49:=⟨Tryd.f90.name,by decide,Tryd.func90.trans (congrArg some (by kernel_rfl))⟩
  f50:=⟨Tryd.f91.name,by decide,Tryd.func91.trans (congrArg some (by kernel_rfl))⟩
  f57:=⟨Tryd.f100.name,by decide,Tryd.func100.trans (congrArg some (by kernel_rfl))⟩
  t0:=Tryd.underlying0
  a0:=Tryd.isAgg0
  z0:=Tryd.sizeOf0
  v0:=Tryd.zeroValue0
  t3:=Tryd.underlying3
  a3:=Tryd.isAgg3
  z3:=Tryd.sizeOf3
  v3:=Tryd.zeroValue3
  t4:=Tryd.underlying4
  a4:=Tryd.isAgg4
  z4:=Tryd.sizeOf4
  v4:=Tryd.zeroValue4
  t5:=Tryd.underlying5
  a5:=Tryd.isAgg5
  z5:=Tryd.sizeOf5
  v5:=Tryd.zeroValue5
  t9:=Tryd.underlying9
  a9:=Tryd.isAgg9
  z9:=Tryd.sizeOf9
  v9:=Tryd.zeroValue9
  t22:=Tryd.underlying34
  a22:=Tryd.isAgg34
  z22:=Tryd.sizeOf34
  v22:=Tryd.zeroValue34
  a24:=Tryd.isAgg9
  z24:=Tryd.sizeOf9
  t25:=Tryd.underlying26
  a25:=Tryd.isAgg26
  z25:=Tryd.sizeOf26
  v25:=Tryd.zeroValue26
  t39:=Tryd.underlying68
  a39:=Tryd.isAgg68
  z39:=Tryd.sizeOf68
  v39:=Tryd.zeroValue68
  t45:=Tryd.underlying85
  a45:=Tryd.isAgg85
  z45:=Tryd.sizeOf85
  v45:=Tryd.zeroValue85
  t46:=Tryd.underlying86
  a46:=Tryd.isAgg86
  z46:=Tryd.sizeOf86
  v46:=Tryd.zeroValue86
  t50:=Tryd.underlying90
  a50:=Tryd.isAgg90
  z50:=Tryd.sizeOf90
  v50:=Tryd.zeroValue90
  t53:=Tryd.underlying93
  a53:=Tryd.isAgg93
  z53:=Tryd.sizeOf93
  v53:=Tryd.zeroValue93
  t55:=Tryd.underlying95
  a55:=Tryd.isAgg95
  z55:=Tryd.sizeOf95
  v55:=Tryd.zeroValue95
  t66:=Tryd.underlying107
  a66:=Tryd.isAgg107
  z66:=Tryd.sizeOf107
  v66:=Tryd.zeroValue107
  t70:=Tryd.underlying111
  a70:=Tryd.isAgg111
  z70:=Tryd.sizeOf111
  v70:=Tryd.zeroValue111
  t76:=Tryd.underlying124
  a76:=Tryd.isAgg124
  z76:=Tryd.sizeOf124
  v76:=Tryd.zeroValue124
  t77:=Tryd.underlying125
  a77:=Tryd.isAgg125
  z77:=Tryd.sizeOf125
  v77:=Tryd.zeroValue125 }
end Go.Proofs
