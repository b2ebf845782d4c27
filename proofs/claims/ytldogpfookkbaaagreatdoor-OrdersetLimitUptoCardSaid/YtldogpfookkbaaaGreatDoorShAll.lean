import Derived.Shelf.Strings.Builder1
import Derived.Shelf.Strings.Builder2
import Derived.Shelf.Strings.OnBuilder
import Derived.Shelf.Strings.Trim
import Derived.Shelf.Small.Utf8
import Derived.Shelf.Small.Bits
import Derived.Shelf.Small.Strs
import Derived.Shelf.Small.Wraps
import Derived.Shelf.Strings.BuilderF
import Derived.Shelf.Strings.BuilderK
import Derived.Shelf.Strings.Builder2Cap
import Derived.Shelf.Strconv.Itoa0
import Derived.Shelf.Strings.Search1
import Derived.Shelf.Sort.Plain
import Derived.Shelf.GgClosure.StringsIndexFunc
import Derived.Ground.GgwProg
import Derived.Shelf.GgClosure.StringsIndexFuncTop
import Derived.Shelf.GgClosure.StringsRunes
import Derived.Shelf.Strings.Prefix
import Derived.Shelf.Unicode.Decode
import Derived.Shelf.Strings.Runes
import Derived.Shelf.Strings.AsciiSet
import Derived.Shelf.Bits.Mul64
import Derived.Shelf.Strings.Repeat
import Derived.Shelf.Unicode.DecodeSlow
import Derived.Shelf.Unicode.DecodeAny
import Derived.Shelf.Unicode.DecodeLast
import Derived.Shelf.Strings.FuncGrows
import Derived.Shelf.Strings.BuilderCap
import Derived.Shelf.Slices.Turned
import Derived.Shelf.Slices.Reverse
import Derived.Shelf.Slices.Equal
import Derived.Ground.Names2Prog
import Derived.Shelf.Slices.Clone
import Derived.Shelf.Slices.SearchI
import Derived.Shelf.Slices.Cells
import Derived.Shelf.Slices.In.SortNone
import Derived.Shelf.Slices.Empties2
import Derived.Ground.SlgnProg
import Derived.Shelf.SlicesE.Clone
import Derived.Test.YtldogpfookkbaaaGreatDoorChecked
namespace Go.Proofs
open Go.Shelf
def Tryz.lays189_ren:Go.Shelf.Ren:=⟨fun|189=>51|125=>66|257=>65|128=>85|129=>86|294=>76|295=>77|296=>78|297=>79|298=>80|299=>81|216=>82|300=>83|301=>84|328=>107|329=>108|330=>109|331=>110|332=>111|215=>75|343=>169|n=>n,fun|28=>22|3=>3|46=>117|0=>0|51=>138|53=>140|4=>4|183=>130|182=>129|131=>135|5=>5|9=>9|218=>157|222=>161|228=>192|229=>193|n=>n,fun|n=>n⟩
theorem Tryz.lays189:Go.Proofs.Lays.n189 Tryz.prog Tryz.lays189_ren:={
 mixed:=by kernel_rfl
 f125:=Tryz.func66.trans (congrArg some (by kernel_rfl))
 f128:=Tryz.func85.trans (congrArg some (by kernel_rfl))
 f129:=Tryz.func86.trans (congrArg some (by kernel_rfl))
 f189:=Tryz.func51.trans (congrArg some (by kernel_rfl))
 f215:=Tryz.func75.trans (congrArg some (by kernel_rfl))
 f216:=Tryz.func82.trans (congrArg some (by kernel_rfl))
 f257:=Tryz.func65.trans (congrArg some (by kernel_rfl))
 f294:=Tryz.func76.trans (congrArg some (by kernel_rfl))
 f295:=Tryz.func77.trans (congrArg some (by kernel_rfl))
 f296:=Tryz.func78.trans (congrArg some (by kernel_rfl))
 f297:=Tryz.func79.trans (congrArg some (by kernel_rfl))
 f298:=Tryz.func80.trans (congrArg some (by kernel_rfl))
 f299:=Tryz.func81.trans (congrArg some (by kernel_rfl))
 f300:=Tryz.func83.trans (congrArg some (by kernel_rfl))
 f301:=Tryz.func84.trans (congrArg some (by kernel_rfl))
 f328:=Tryz.func107.trans (congrArg some (by kernel_rfl))
 f329:=Tryz.func108.trans (congrArg some (by kernel_rfl))
 f330:=Tryz.func109.trans (congrArg some (by kernel_rfl))
 f331:=Tryz.func110.trans (congrArg some (by kernel_rfl))
 f332:=Tryz.func111.trans (congrArg some (by kernel_rfl))
 f343:=Tryz.func169.trans (congrArg some (by kernel_rfl))
 t0:=Tryz.underlying0
 a0:=Tryz.isAgg0
 z0:=Tryz.sizeOf0
 v0:=Tryz.zeroValue0
 t3:=Tryz.underlying3
 a3:=Tryz.isAgg3
 z3:=Tryz.sizeOf3
 v3:=Tryz.zeroValue3
 t4:=Tryz.underlying4
 a4:=Tryz.isAgg4
 z4:=Tryz.sizeOf4
 v4:=Tryz.zeroValue4
 t5:=Tryz.underlying5
 a5:=Tryz.isAgg5
 z5:=Tryz.sizeOf5
 v5:=Tryz.zeroValue5
 t9:=Tryz.underlying9
 a9:=Tryz.isAgg9
 z9:=Tryz.sizeOf9
 v9:=Tryz.zeroValue9
 t28:=Tryz.underlying22
 a28:=Tryz.isAgg22
 z28:=Tryz.sizeOf22
 v28:=Tryz.zeroValue22
 t46:=Tryz.underlying117
 a46:=Tryz.isAgg117
 z46:=Tryz.sizeOf117
 v46:=Tryz.zeroValue117
 t51:=Tryz.underlying138
 a51:=Tryz.isAgg138
 z51:=Tryz.sizeOf138
 v51:=Tryz.zeroValue138
 t53:=Tryz.underlying140
 a53:=Tryz.isAgg140
 z53:=Tryz.sizeOf140
 v53:=Tryz.zeroValue140
 t131:=Tryz.underlying135
 a131:=Tryz.isAgg135
 z131:=Tryz.sizeOf135
 v131:=Tryz.zeroValue135
 t182:=Tryz.underlying129
 a182:=Tryz.isAgg129
 z182:=Tryz.sizeOf129
 v182:=Tryz.zeroValue129
 t183:=Tryz.underlying130
 a183:=Tryz.isAgg130
 z183:=Tryz.sizeOf130
 v183:=Tryz.zeroValue130
 t218:=Tryz.underlying157
 a218:=Tryz.isAgg157
 z218:=Tryz.sizeOf157
 v218:=Tryz.zeroValue157
 t222:=Tryz.underlying161
 a222:=Tryz.isAgg161
 z222:=Tryz.sizeOf161
 v222:=Tryz.zeroValue161
 t228:=Tryz.underlying192
 a228:=Tryz.isAgg192
 z228:=Tryz.sizeOf192
 v228:=Tryz.zeroValue192
 t229:=Tryz.underlying193
 a229:=Tryz.isAgg193
 z229:=Tryz.sizeOf193
 v229:=Tryz.zeroValue193 }
open Go.Sort Go.RowKit in
theorem Tryz.slices_Sort_int (blk off cap : Nat) (zs : List Int) (w : World) (hH : Holds (Value.int .i64) w blk off zs.toArray) (hblk : blk < w.heap.size) (hsz : zs.length < 4611686018427387904) :
  Calls Tryz.prog 51 #[.slice (some ⟨blk,off,none⟩) zs.length cap] w fun e w' =>
   e=.returned (.tuple #[])∧∃ n os,w'=grow (putRow (Value.int .i64) (Sort.ahead w n) blk off (zs.mergeSort fun x y=>decide (x≤y)).toArray) os:=Any.slices_Sort_int Tryz.lays189 blk off cap zs w hH hblk hsz
def Tryz.laysGw15_ren:Go.Shelf.Ren:=⟨fun|15=>227|20=>256|n=>n,fun|9=>9|23=>217|3=>3|4=>4|0=>0|21=>21|n=>n,fun|n=>n⟩
theorem Tryz.laysGw15:Go.Proofs.LaysGw.n15 Tryz.prog Tryz.laysGw15_ren:={
 mixed:=by kernel_rfl
 f15:=Tryz.func227.trans (congrArg some (by kernel_rfl))
 f20:=Tryz.func256.trans (congrArg some (by kernel_rfl))
 t0:=Tryz.underlying0
 a0:=Tryz.isAgg0
 z0:=Tryz.sizeOf0
 v0:=Tryz.zeroValue0
 i0:=by kernel_rfl
 t3:=Tryz.underlying3
 a3:=Tryz.isAgg3
 z3:=Tryz.sizeOf3
 v3:=Tryz.zeroValue3
 i3:=by kernel_rfl
 t4:=Tryz.underlying4
 a4:=Tryz.isAgg4
 z4:=Tryz.sizeOf4
 v4:=Tryz.zeroValue4
 i4:=by kernel_rfl
 t9:=Tryz.underlying9
 a9:=Tryz.isAgg9
 z9:=Tryz.sizeOf9
 v9:=Tryz.zeroValue9
 i9:=by kernel_rfl
 t21:=Tryz.underlying21
 a21:=Tryz.isAgg21
 z21:=Tryz.sizeOf21
 v21:=Tryz.zeroValue21
 i21:=by kernel_rfl
 t23:=Tryz.underlying217
 a23:=Tryz.isAgg217
 z23:=Tryz.sizeOf217
 v23:=Tryz.zeroValue217
 i23:=by kernel_rfl }
open Go.RowKit Go.Lib in
theorem Tryz.strings_IndexFunc_grows (g : Nat) (lb : Array Value) (eg : ∀ args w, (callFunc g args).run Tryz.prog w = .ok (.enter g args) w) (p : Nat → Bool) (s : ByteArray) (w : World) (hp : PredGrows Tryz.prog g lb p w) :
  Calls Tryz.prog 227 #[.string s,.func (.func g) #[] lb] w fun e w'=>e=.returned (.int .i64 (Lib.idxFunc p true s))∧Below w.heap.size w w':=Any.strings_IndexFunc_grows Tryz.laysGw15 g lb eg p s w hp
open Go.RowKit Go.Sort in
theorem Tryz.slices_Sort_int_none (p : Option Addr) (cap : Nat) (w : World) :
  Calls Tryz.prog 51 #[.slice p 0 cap] w fun e w'=>e=.returned (.tuple #[])∧w'=w:=Any.slices_Sort_int_none Tryz.lays189 p cap w
end Go.Proofs
