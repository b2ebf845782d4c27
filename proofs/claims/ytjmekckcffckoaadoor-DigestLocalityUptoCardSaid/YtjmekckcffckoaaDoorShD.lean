import Derived.Shelf.SlSortCmp.WholeK
import Derived.Shelf.SlSortCmp.NoneTotal
import Derived.Lib.RowBridge
import Derived.Ground.SlsfProg
import Derived.KernelRfl
import Derived.Test.YtjmekckcffckoaaDoorChecked
namespace Go.Proofs
open Go.Shelf
def Tryd.sortId_ren:Go.Shelf.Ren:=⟨fun | 6=>56 | 15=>75 | 14=>74 | 28=>92 | 29=>77 | 20=>84 | 21=>85 | 22=>86 | 23=>87 | 24=>88 | 25=>89 | 26=>90 | 27=>91 | 46=>96 | 47=>97 | 48=>98 | 49=>99 | 50=>100 | 57=>101 | n=>n,fun | 22=>36 | 24=>26 | 25=>67 | 3=>3 | 39=>46 | 0=>0 | 53=>99 | 55=>44 | 4=>4 | 46=>120 | 45=>119 | 50=>124 | 5=>5 | 9=>9 | 66=>128 | 70=>132 | 76=>136 | 77=>137 | n=>n,fun | n=>n⟩
theorem Tryd.sortId:Go.Proofs.SlLaysF0.n6 Tryd.prog Tryd.sortId_ren:={
  mixed:=by kernel_rfl
  f6:=⟨Tryd.f56.name,by decide,Tryd.func56.trans (congrArg some (by kernel_rfl))⟩
  f14:=⟨Tryd.f74.name,by decide,Tryd.func74.trans (congrArg some (by kernel_rfl))⟩
  f15:=Tryd.func75.trans (congrArg some (by kernel_rfl))
  f20:=⟨Tryd.f84.name,by decide,Tryd.func84.trans (congrArg some (by kernel_rfl))⟩
  f21:=⟨Tryd.f85.name,by decide,Tryd.func85.trans (congrArg some (by kernel_rfl))⟩
  f22:=⟨Tryd.f86.name,by decide,Tryd.func86.trans (congrArg some (by kernel_rfl))⟩
  f23:=⟨Tryd.f87.name,by decide,Tryd.func87.trans (congrArg some (by kernel_rfl))⟩
  f24:=⟨Tryd.f88.name,by decide,Tryd.func88.trans (congrArg some (by kernel_rfl))⟩
  f25:=⟨Tryd.f89.name,by decide,Tryd.func89.trans (congrArg some (by kernel_rfl))⟩
  f26:=⟨Tryd.f90.name,by decide,Tryd.func90.trans (congrArg some (by kernel_rfl))⟩
  f27:=⟨Tryd.f91.name,by decide,Tryd.func91.trans (congrArg some (by kernel_rfl))⟩
  f28:=Tryd.func92.trans (congrArg some (by kernel_rfl))
  f29:=Tryd.func77.trans (congrArg some (by kernel_rfl))
  f46:=⟨Tryd.f96.name,by decide,Tryd.func96.trans (congrArg some (by kernel_rfl))⟩
  f47:=Tryd.func97.trans (congrArg some (by kernel_rfl))
  f48:=Tryd.func98.trans (congrArg some (by kernel_rfl))
  f49:=⟨Tryd.f99.name,by decide,Tryd.func99.trans (congrArg some (by kernel_rfl))⟩
  f50:=⟨Tryd.f100.name,by decide,Tryd.func100.trans (congrArg some (by kernel_rfl))⟩
  f57:=⟨Tryd.f101.name,by decide,Tryd.func101.trans (congrArg some (by kernel_rfl))⟩
  t0:=Tryd.underlying0
  a0:=Tryd.isAgg0
  z0:=Tryd.sizeOf0
  v0:=Tryd.zeroValue0
  t3:=Tryd.underlying3
  a3:=Tryd.isAgg3
  z3:=Tryd.sizeOf3
  v3:=Tryd.zeroValue3
  t4:=Tryd.underlying4
  a4:=Tryd.isAgg4
  z4:=Tryd.sizeOf4
  v4:=Tryd.zeroValue4
  t5:=Tryd.underlying5
  a5:=Tryd.isAgg5
  z5:=Tryd.sizeOf5
  v5:=Tryd.zeroValue5
  t9:=Tryd.underlying9
  a9:=Tryd.isAgg9
  z9:=Tryd.sizeOf9
  v9:=Tryd.zeroValue9
  t22:=Tryd.underlying36
  a22:=Tryd.isAgg36
  z22:=Tryd.sizeOf36
  v22:=Tryd.zeroValue36
  t25:=Tryd.underlying67
  a25:=Tryd.isAgg67
  z25:=Tryd.sizeOf67
  v25:=Tryd.zeroValue67
  t39:=Tryd.underlying46
  a39:=Tryd.isAgg46
  z39:=Tryd.sizeOf46
  v39:=Tryd.zeroValue46
  t45:=Tryd.underlying119
  a45:=Tryd.isAgg119
  z45:=Tryd.sizeOf119
  v45:=Tryd.zeroValue119
  t46:=Tryd.underlying120
  a46:=Tryd.isAgg120
  z46:=Tryd.sizeOf120
  v46:=Tryd.zeroValue120
  t50:=Tryd.underlying124
  a50:=Tryd.isAgg124
  z50:=Tryd.sizeOf124
  v50:=Tryd.zeroValue124
  t53:=Tryd.underlying99
  a53:=Tryd.isAgg99
  z53:=Tryd.sizeOf99
  v53:=Tryd.zeroValue99
  t55:=Tryd.underlying44
  a55:=Tryd.isAgg44
  z55:=Tryd.sizeOf44
  v55:=Tryd.zeroValue44
  t66:=Tryd.underlying128
  a66:=Tryd.isAgg128
  z66:=Tryd.sizeOf128
  v66:=Tryd.zeroValue128
  t70:=Tryd.underlying132
  a70:=Tryd.isAgg132
  z70:=Tryd.sizeOf132
  v70:=Tryd.zeroValue132
  t76:=Tryd.underlying136
  a76:=Tryd.isAgg136
  z76:=Tryd.sizeOf136
  v76:=Tryd.zeroValue136
  t77:=Tryd.underlying137
  a77:=Tryd.isAgg137
  z77:=Tryd.sizeOf137
  v77:=Tryd.zeroValue137 }
end Go.Proofs
