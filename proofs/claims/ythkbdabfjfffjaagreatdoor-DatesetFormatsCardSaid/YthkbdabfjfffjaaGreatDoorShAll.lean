import Derived.Shelf.Strings.Builder1
import Derived.Shelf.Strings.Builder2
import Derived.Shelf.Strings.OnBuilder
import Derived.Shelf.Small.Bits
import Derived.Shelf.Small.Wraps
import Derived.Shelf.Strings.BuilderF
import Derived.Shelf.Strings.BuilderK
import Derived.Shelf.Utf8.RuneCount
import Derived.Shelf.Strings.Builder2Cap
import Derived.Shelf.Strconv.Atoi
import Derived.Shelf.Strconv.Itoa0
import Derived.Shelf.Strconv.Itoa1
import Derived.Shelf.LaysM
import Derived.Shelf.Strconv.Itoa2
import Derived.Shelf.Strconv.Itoa3
import Derived.Shelf.Strconv.AtoiErrFast
import Derived.Shelf.Strconv.ParseIntEmpty
import Derived.Shelf.Strconv.AtoiFail
import Derived.Shelf.Strconv.Clone
import Derived.Shelf.Strconv.SyntaxError
import Derived.Shelf.LaysC
import Derived.Shelf.Strconv.ToError
import Derived.Shelf.Strconv.AtoiErr
import Derived.Shelf.Strconv.ErrVar
import Derived.Shelf.Strconv.Lower
import Derived.Shelf.Strconv.ParseUint10
import Derived.Shelf.Strconv.ParseUint10Empty
import Derived.Shelf.Strconv.ParseUint10Any
import Derived.Shelf.Strconv.ParseInt10
import Derived.Shelf.Strconv.AtoiLong
import Derived.Shelf.Strconv.AtoiInnerAll
import Derived.Shelf.Strconv.RangeError
import Derived.Shelf.Strconv.ToErrorRange
import Derived.Shelf.Strconv.AtoiAll
import Derived.Shelf.Strconv.ErrVarAll
import Derived.Shelf.Strconv.ParseUintEmpty
import Derived.Shelf.Strconv.ParseUint10b64
import Derived.Shelf.Strconv.ParseUint10b32
import Derived.Shelf.Strconv.ParseUint10b16
import Derived.Shelf.Strconv.ParseUint10b8
import Derived.Shelf.Strconv.ParseUint10At
import Derived.Shelf.Strconv.ParseInt10At64
import Derived.Shelf.Strconv.ParseInt10At32
import Derived.Shelf.Strconv.ParseInt10At16
import Derived.Shelf.Strconv.ParseInt10At8
import Derived.Shelf.Strconv.ParseInt10All
import Derived.Shelf.Strings.Search1
import Derived.Shelf.Strings.Search2
import Derived.Shelf.Strings.Search3
import Derived.Shelf.Strings.Cut
import Derived.Shelf.Strings.Count
import Derived.Shelf.Strings.Shaped
import Derived.Shelf.Sort.Plain
import Derived.Shelf.Strings.Prefix
import Derived.Shelf.Strings.Split
import Derived.Shelf.Strings.SplitShaped
import Derived.Shelf.Unicode.Decode
import Derived.Shelf.Strings.RuneCount
import Derived.Shelf.Strings.Explode
import Derived.Shelf.Unicode.DecodeSlow
import Derived.Shelf.Unicode.DecodeAny
import Derived.Shelf.Strings.BuilderCap
import Derived.Ground.Names2Prog
import Derived.Shelf.Slices.CompactI
import Derived.Shelf.Slices.SearchI
import Derived.Shelf.Slices.Cells
import Derived.Shelf.Slices.In.SortNone
import Derived.Test.YthkbdabfjfffjaaGreatDoorChecked
namespace Go.Proofs
open Go.Shelf
def Tryz.lays156_ren:Go.Shelf.Ren:=⟨fun | 156=>17 | 165=>30 | 166=>31 | 169=>32 | 240=>47 | 241=>48 | 276=>74 | 277=>75 | n=>n,fun | 31=>40 | 9=>9 | 3=>3 | 4=>4 | 0=>0 | 20=>20 | 72=>58 | 76=>62 | 70=>55 | 37=>56 | 75=>61 | 127=>79 | 164=>100 | 5=>5 | 80=>64 | n=>n,fun | n=>n⟩
theorem Tryz.lays156:Go.Proofs.Lays.n156 Tryz.prog Tryz.lays156_ren:={
  mixed:=by kernel_rfl
  f156:=Tryz.func17.trans (congrArg some (by kernel_rfl))
  f165:=Tryz.func30.trans (congrArg some (by kernel_rfl))
  f166:=Tryz.func31.trans (congrArg some (by kernel_rfl))
  f169:=Tryz.func32.trans (congrArg some (by kernel_rfl))
  f240:=Tryz.func47.trans (congrArg some (by kernel_rfl))
  f241:=Tryz.func48.trans (congrArg some (by kernel_rfl))
  f276:=Tryz.func74.trans (congrArg some (by kernel_rfl))
  f277:=Tryz.func75.trans (congrArg some (by kernel_rfl))
  t0:=Tryz.underlying0
  a0:=Tryz.isAgg0
  z0:=Tryz.sizeOf0
  v0:=Tryz.zeroValue0
  t3:=Tryz.underlying3
  a3:=Tryz.isAgg3
  z3:=Tryz.sizeOf3
  v3:=Tryz.zeroValue3
  t4:=Tryz.underlying4
  a4:=Tryz.isAgg4
  z4:=Tryz.sizeOf4
  v4:=Tryz.zeroValue4
  t9:=Tryz.underlying9
  a9:=Tryz.isAgg9
  z9:=Tryz.sizeOf9
  v9:=Tryz.zeroValue9
  t20:=Tryz.underlying20
  a20:=Tryz.isAgg20
  z20:=Tryz.sizeOf20
  v20:=Tryz.zeroValue20
  t31:=Tryz.underlying40
  a31:=Tryz.isAgg40
  z31:=Tryz.sizeOf40
  v31:=Tryz.zeroValue40
  t37:=Tryz.underlying56
  a37:=Tryz.isAgg56
  z37:=Tryz.sizeOf56
  v37:=Tryz.zeroValue56
  t70:=Tryz.underlying55
  a70:=Tryz.isAgg55
  z70:=Tryz.sizeOf55
  v70:=Tryz.zeroValue55
  t72:=Tryz.underlying58
  a72:=Tryz.isAgg58
  z72:=Tryz.sizeOf58
  v72:=Tryz.zeroValue58
  t75:=Tryz.underlying61
  a75:=Tryz.isAgg61
  z75:=Tryz.sizeOf61
  v75:=Tryz.zeroValue61
  t76:=Tryz.underlying62
  a76:=Tryz.isAgg62
  z76:=Tryz.sizeOf62
  v76:=Tryz.zeroValue62
  t127:=Tryz.underlying79
  a127:=Tryz.isAgg79
  z127:=Tryz.sizeOf79
  v127:=Tryz.zeroValue79
  t164:=Tryz.underlying100
  a164:=Tryz.isAgg100
  z164:=Tryz.sizeOf100
  v164:=Tryz.zeroValue100 }
theorem Tryz.Builder_Extra_156:Builder.Extra Tryz.prog Tryz.lays156_ren:={
  sizeBuilder:=by kernel_rfl
  liesBuilder:=by kernel_rfl
  t5:=Tryz.underlying5
  a5:=Tryz.isAgg5
  z5:=Tryz.sizeOf5
  v5:=Tryz.zeroValue5
  infoByte:=by kernel_rfl
  cellsByte:=by kernel_rfl
  sizeByte:=by kernel_rfl
  neB5:=by decide }
open Go.RowKit in
theorem Tryz.strings_Join_none (a : Option Addr) (c : Nat) (sep : ByteArray) (w : World) :
    Calls Tryz.prog 17 #[.slice a 0 c,.string sep] w fun e w'=>e = .returned (.string ⟨#[]⟩) ∧ w' = w:=Any.strings_Join_none Tryz.lays156 Tryz.Builder_Extra_156 a c sep w
open Go.RowKit in
theorem Tryz.strings_Join (bk o c : Nat) (xs : List ByteArray) (sep : ByteArray) (w : World) (hcells : ∀ (j : Nat) x, xs[j]? = some x → w.cell? ⟨bk, o + j, none⟩ = some (.string x)) (hbk : bk < w.heap.size) (hN : xs.length ≤ 140737488355328) (hcap : xs.length ≤ c) (hlen : (Lib.join (xs.map (·.data.toList)) sep.data.toList).length ≤ 140737488355328) :
    Calls Tryz.prog 17 #[.slice (some ⟨bk,o,none⟩) xs.length c,.string sep] w fun e w'=>e = .returned (.string ⟨(Lib.join (xs.map (·.data.toList)) sep.data.toList).toArray⟩) ∧ Below w.heap.size w w':=Any.strings_Join Tryz.lays156 Tryz.Builder_Extra_156 bk o c xs sep w hcells hbk hN hcap hlen
def Tryz.lays122_ren:Go.Shelf.Ren:=⟨fun | 122=>26 | 215=>42 | n=>n,fun | 3=>3 | 4=>4 | n=>n,fun | n=>n⟩
theorem Tryz.lays122:Go.Proofs.Lays.n122 Tryz.prog Tryz.lays122_ren:={
  mixed:=by kernel_rfl
  f122:=Tryz.func26.trans (congrArg some (by kernel_rfl))
  f215:=Tryz.func42.trans (congrArg some (by kernel_rfl))
  t3:=Tryz.underlying3
  a3:=Tryz.isAgg3
  z3:=Tryz.sizeOf3
  v3:=Tryz.zeroValue3
  t4:=Tryz.underlying4
  a4:=Tryz.isAgg4
  z4:=Tryz.sizeOf4
  v4:=Tryz.zeroValue4 }
open Go.RowKit in
theorem Tryz.cmp_Compare_int (x y : Int) (w : World) :
    Calls Tryz.prog 26 #[.int .i64 x,.int .i64 y] w fun e w'=>e = .returned (.int .i64 (Lib.compareInt x y)) ∧ w' = w:=Any.cmp_Compare_int Tryz.lays122 x y w
def Tryz.laysM171_ren:Go.Shelf.Ren:=⟨fun | 171=>29 | 243=>46 | 246=>73 | 283=>93 | 284=>94 | 285=>95 | 286=>96 | 129=>68 | 317=>115 | 318=>116 | 319=>117 | 320=>118 | 337=>126 | 338=>127 | n=>n,fun | 3=>3 | 9=>9 | 2=>2 | 4=>4 | 171=>122 | 0=>0 | 53=>96 | 37=>56 | 5=>5 | 173=>124 | 212=>142 | 51=>94 | 20=>20 | 213=>143 | 46=>75 | 232=>158 | 233=>159 | n=>n,fun | 17=>3 | 18=>6 | 19=>7 | n=>n⟩
theorem Tryz.laysM171:Go.Proofs.LaysM.n171 Tryz.prog Tryz.laysM171_ren:={
  mixed:=by kernel_rfl
  f129:=Tryz.func68.trans (congrArg some (by kernel_rfl))
  f171:=Tryz.func29.trans (congrArg some (by kernel_rfl))
  f243:=Tryz.func46.trans (congrArg some (by kernel_rfl))
  f246:=Tryz.func73.trans (congrArg some (by kernel_rfl))
  f283:=Tryz.func93.trans (congrArg some (by kernel_rfl))
  f284:=Tryz.func94.trans (congrArg some (by kernel_rfl))
  f285:=Tryz.func95.trans (congrArg some (by kernel_rfl))
  f286:=Tryz.func96.trans (congrArg some (by kernel_rfl))
  f317:=Tryz.func115.trans (congrArg some (by kernel_rfl))
  f318:=Tryz.func116.trans (congrArg some (by kernel_rfl))
  f319:=Tryz.func117.trans (congrArg some (by kernel_rfl))
  f320:=Tryz.func118.trans (congrArg some (by kernel_rfl))
  f337:=Tryz.func126.trans (congrArg some (by kernel_rfl))
  f338:=Tryz.func127.trans (congrArg some (by kernel_rfl))
  t0:=Tryz.underlying0
  a0:=Tryz.isAgg0
  z0:=Tryz.sizeOf0
  v0:=Tryz.zeroValue0
  t2:=Tryz.underlying2
  a2:=Tryz.isAgg2
  z2:=Tryz.sizeOf2
  v2:=Tryz.zeroValue2
  t3:=Tryz.underlying3
  a3:=Tryz.isAgg3
  z3:=Tryz.sizeOf3
  v3:=Tryz.zeroValue3
  t4:=Tryz.underlying4
  a4:=Tryz.isAgg4
  z4:=Tryz.sizeOf4
  v4:=Tryz.zeroValue4
  t5:=Tryz.underlying5
  a5:=Tryz.isAgg5
  z5:=Tryz.sizeOf5
  v5:=Tryz.zeroValue5
  t9:=Tryz.underlying9
  a9:=Tryz.isAgg9
  z9:=Tryz.sizeOf9
  v9:=Tryz.zeroValue9
  t20:=Tryz.underlying20
  a20:=Tryz.isAgg20
  z20:=Tryz.sizeOf20
  v20:=Tryz.zeroValue20
  t37:=Tryz.underlying56
  a37:=Tryz.isAgg56
  z37:=Tryz.sizeOf56
  v37:=Tryz.zeroValue56
  t46:=Tryz.underlying75
  a46:=Tryz.isAgg75
  z46:=Tryz.sizeOf75
  v46:=Tryz.zeroValue75
  t51:=Tryz.underlying94
  a51:=Tryz.isAgg94
  z51:=Tryz.sizeOf94
  v51:=Tryz.zeroValue94
  t53:=Tryz.underlying96
  a53:=Tryz.isAgg96
  z53:=Tryz.sizeOf96
  v53:=Tryz.zeroValue96
  t171:=Tryz.underlying122
  a171:=Tryz.isAgg122
  z171:=Tryz.sizeOf122
  v171:=Tryz.zeroValue122
  t173:=Tryz.underlying124
  a173:=Tryz.isAgg124
  z173:=Tryz.sizeOf124
  v173:=Tryz.zeroValue124
  t212:=Tryz.underlying142
  a212:=Tryz.isAgg142
  z212:=Tryz.sizeOf142
  v212:=Tryz.zeroValue142
  t213:=Tryz.underlying143
  a213:=Tryz.isAgg143
  z213:=Tryz.sizeOf143
  t232:=Tryz.underlying158
  a232:=Tryz.isAgg158
  z232:=Tryz.sizeOf158
  v232:=Tryz.zeroValue158
  t233:=Tryz.underlying159
  a233:=Tryz.isAgg159
  z233:=Tryz.sizeOf159
  v233:=Tryz.zeroValue159
  g17:=by kernel_rfl
  g18:=by kernel_rfl
  g19:=by kernel_rfl
  i0:=by kernel_rfl
  i2:=by kernel_rfl
  i3:=by kernel_rfl
  i4:=by kernel_rfl
  i5:=by kernel_rfl
  i9:=by kernel_rfl
  i20:=by kernel_rfl
  i37:=by kernel_rfl
  i46:=by kernel_rfl
  i51:=by kernel_rfl
  i53:=by kernel_rfl
  i171:=by kernel_rfl
  i173:=by kernel_rfl
  i212:=by kernel_rfl
  i232:=by kernel_rfl
  i233:=by kernel_rfl
  m17:=by kernel_rfl
  m18:=by kernel_rfl
  m19:=by kernel_rfl }
open Go.RowKit Go.Sort Go.Lib in
theorem Tryz.strconv_Itoa (n : Int) (h0 : -9223372036854775808 ≤ n) (h1 : n ≤ 9223372036854775807) (w : World) (htab : Lib.TabIs Tryz.prog w "internal/strconv.uint64pow10" .u64 Lib.pow10Tab) :
    Calls Tryz.prog 29 #[.int .i64 n] w fun e w'=>e = .returned (.string ⟨(Lib.itoa n).toArray⟩) ∧ ∃ k os,w' = grow (w.drewN k) os:=Any.strconv_Itoa Tryz.laysM171 n h0 h1 w htab
def Tryz.lays171_ren:Go.Shelf.Ren:=⟨fun | 171=>29 | 243=>46 | 246=>73 | 283=>93 | 284=>94 | 285=>95 | 286=>96 | 129=>68 | 317=>115 | 318=>116 | 319=>117 | 320=>118 | 337=>126 | 338=>127 | n=>n,fun | 3=>3 | 9=>9 | 2=>2 | 4=>4 | 171=>122 | 0=>0 | 53=>96 | 37=>56 | 5=>5 | 173=>124 | 212=>142 | 51=>94 | 20=>20 | 213=>143 | 46=>75 | 232=>158 | 233=>159 | n=>n,fun | 17=>3 | 18=>6 | 19=>7 | n=>n⟩
theorem Tryz.lays171:Go.Proofs.Lays.n171 Tryz.prog Tryz.lays171_ren:={
  mixed:=by kernel_rfl
  f129:=Tryz.func68.trans (congrArg some (by kernel_rfl))
  f171:=Tryz.func29.trans (congrArg some (by kernel_rfl))
  f243:=Tryz.func46.trans (congrArg some (by kernel_rfl))
  f246:=Tryz.func73.trans (congrArg some (by kernel_rfl))
  f283:=Tryz.func93.trans (congrArg some (by kernel_rfl))
  f284:=Tryz.func94.trans (congrArg some (by kernel_rfl))
  f285:=Tryz.func95.trans (congrArg some (by kernel_rfl))
  f286:=Tryz.func96.trans (congrArg some (by kernel_rfl))
  f317:=Tryz.func115.trans (congrArg some (by kernel_rfl))
  f318:=Tryz.func116.trans (congrArg some (by kernel_rfl))
  f319:=Tryz.func117.trans (congrArg some (by kernel_rfl))
  f320:=Tryz.func118.trans (congrArg some (by kernel_rfl))
  f337:=Tryz.func126.trans (congrArg some (by kernel_rfl))
  f338:=Tryz.func127.trans (congrArg some (by kernel_rfl))
  t0:=Tryz.underlying0
  a0:=Tryz.isAgg0
  z0:=Tryz.sizeOf0
  v0:=Tryz.zeroValue0
  t2:=Tryz.underlying2
  a2:=Tryz.isAgg2
  z2:=Tryz.sizeOf2
  v2:=Tryz.zeroValue2
  t3:=Tryz.underlying3
  a3:=Tryz.isAgg3
  z3:=Tryz.sizeOf3
  v3:=Tryz.zeroValue3
  t4:=Tryz.underlying4
  a4:=Tryz.isAgg4
  z4:=Tryz.sizeOf4
  v4:=Tryz.zeroValue4
  t5:=Tryz.underlying5
  a5:=Tryz.isAgg5
  z5:=Tryz.sizeOf5
  v5:=Tryz.zeroValue5
  t9:=Tryz.underlying9
  a9:=Tryz.isAgg9
  z9:=Tryz.sizeOf9
  v9:=Tryz.zeroValue9
  t20:=Tryz.underlying20
  a20:=Tryz.isAgg20
  z20:=Tryz.sizeOf20
  v20:=Tryz.zeroValue20
  t37:=Tryz.underlying56
  a37:=Tryz.isAgg56
  z37:=Tryz.sizeOf56
  v37:=Tryz.zeroValue56
  t46:=Tryz.underlying75
  a46:=Tryz.isAgg75
  z46:=Tryz.sizeOf75
  v46:=Tryz.zeroValue75
  t51:=Tryz.underlying94
  a51:=Tryz.isAgg94
  z51:=Tryz.sizeOf94
  v51:=Tryz.zeroValue94
  t53:=Tryz.underlying96
  a53:=Tryz.isAgg96
  z53:=Tryz.sizeOf96
  v53:=Tryz.zeroValue96
  t171:=Tryz.underlying122
  a171:=Tryz.isAgg122
  z171:=Tryz.sizeOf122
  v171:=Tryz.zeroValue122
  t173:=Tryz.underlying124
  a173:=Tryz.isAgg124
  z173:=Tryz.sizeOf124
  v173:=Tryz.zeroValue124
  t212:=Tryz.underlying142
  a212:=Tryz.isAgg142
  z212:=Tryz.sizeOf142
  v212:=Tryz.zeroValue142
  t213:=Tryz.underlying143
  a213:=Tryz.isAgg143
  z213:=Tryz.sizeOf143
  t232:=Tryz.underlying158
  a232:=Tryz.isAgg158
  z232:=Tryz.sizeOf158
  v232:=Tryz.zeroValue158
  t233:=Tryz.underlying159
  a233:=Tryz.isAgg159
  z233:=Tryz.sizeOf159
  v233:=Tryz.zeroValue159
  g17:=by kernel_rfl
  g18:=by kernel_rfl
  g19:=by kernel_rfl }
open Go.RowKit Go.Sort Go.Lib in
theorem Tryz.strconv_Itoa_small (i : Nat) (hi : i < 100) (w : World) :
    Calls Tryz.prog 29 #[.int .i64 i] w fun e w'=>e = .returned (.string ⟨(Lib.decDigits i).toArray⟩) ∧ w' = w:=Any.strconv_Itoa_small Tryz.lays171 i hi w
def Tryz.laysC172_ren:Go.Shelf.Ren:=⟨fun | 172=>36 | 244=>54 | 245=>55 | 247=>80 | 279=>81 | 280=>82 | 281=>83 | 282=>84 | 287=>102 | 316=>103 | 171=>29 | 205=>104 | 321=>121 | 322=>122 | 243=>46 | 246=>73 | 283=>93 | 284=>94 | 285=>95 | 286=>96 | 129=>68 | 317=>115 | 318=>116 | 319=>117 | 320=>118 | 337=>126 | 338=>127 | n=>n,fun | 9=>9 | 3=>3 | 75=>61 | 76=>62 | 4=>4 | 5=>5 | 167=>107 | 37=>56 | 0=>0 | 85=>108 | 2=>2 | 168=>110 | 53=>96 | 175=>127 | 46=>75 | 210=>131 | 127=>79 | 145=>154 | 143=>152 | 21=>21 | 171=>122 | 173=>124 | 212=>142 | 51=>94 | 20=>20 | 213=>143 | 232=>158 | 233=>159 | 80=>64 | n=>n,fun | 15=>1 | 16=>2 | 17=>3 | 18=>6 | 19=>7 | n=>n⟩
theorem Tryz.laysC172:Go.Proofs.LaysC.n172 Tryz.prog Tryz.laysC172_ren:={
  mixed:=by kernel_rfl
  f129:=Tryz.func68.trans (congrArg some (by kernel_rfl))
  f171:=Tryz.func29.trans (congrArg some (by kernel_rfl))
  f172:=Tryz.func36.trans (congrArg some (by kernel_rfl))
  f205:=Tryz.func104.trans (congrArg some (by kernel_rfl))
  f243:=Tryz.func46.trans (congrArg some (by kernel_rfl))
  f244:=Tryz.func54.trans (congrArg some (by kernel_rfl))
  f245:=Tryz.func55.trans (congrArg some (by kernel_rfl))
  f246:=Tryz.func73.trans (congrArg some (by kernel_rfl))
  f247:=Tryz.func80.trans (congrArg some (by kernel_rfl))
  f279:=Tryz.func81.trans (congrArg some (by kernel_rfl))
  f280:=Tryz.func82.trans (congrArg some (by kernel_rfl))
  f281:=Tryz.func83.trans (congrArg some (by kernel_rfl))
  f282:=Tryz.func84.trans (congrArg some (by kernel_rfl))
  f283:=Tryz.func93.trans (congrArg some (by kernel_rfl))
  f284:=Tryz.func94.trans (congrArg some (by kernel_rfl))
  f285:=Tryz.func95.trans (congrArg some (by kernel_rfl))
  f286:=Tryz.func96.trans (congrArg some (by kernel_rfl))
  f287:=Tryz.func102.trans (congrArg some (by kernel_rfl))
  f316:=Tryz.func103.trans (congrArg some (by kernel_rfl))
  f317:=Tryz.func115.trans (congrArg some (by kernel_rfl))
  f318:=Tryz.func116.trans (congrArg some (by kernel_rfl))
  f319:=Tryz.func117.trans (congrArg some (by kernel_rfl))
  f320:=Tryz.func118.trans (congrArg some (by kernel_rfl))
  f321:=Tryz.func121.trans (congrArg some (by kernel_rfl))
  f322:=Tryz.func122.trans (congrArg some (by kernel_rfl))
  f337:=Tryz.func126.trans (congrArg some (by kernel_rfl))
  f338:=Tryz.func127.trans (congrArg some (by kernel_rfl))
  t0:=Tryz.underlying0
  a0:=Tryz.isAgg0
  z0:=Tryz.sizeOf0
  v0:=Tryz.zeroValue0
  t2:=Tryz.underlying2
  a2:=Tryz.isAgg2
  z2:=Tryz.sizeOf2
  v2:=Tryz.zeroValue2
  t3:=Tryz.underlying3
  a3:=Tryz.isAgg3
  z3:=Tryz.sizeOf3
  v3:=Tryz.zeroValue3
  t4:=Tryz.underlying4
  a4:=Tryz.isAgg4
  z4:=Tryz.sizeOf4
  v4:=Tryz.zeroValue4
  t5:=Tryz.underlying5
  a5:=Tryz.isAgg5
  z5:=Tryz.sizeOf5
  v5:=Tryz.zeroValue5
  t9:=Tryz.underlying9
  a9:=Tryz.isAgg9
  z9:=Tryz.sizeOf9
  v9:=Tryz.zeroValue9
  t20:=Tryz.underlying20
  a20:=Tryz.isAgg20
  z20:=Tryz.sizeOf20
  v20:=Tryz.zeroValue20
  t21:=Tryz.underlying21
  a21:=Tryz.isAgg21
  z21:=Tryz.sizeOf21
  v21:=Tryz.zeroValue21
  t37:=Tryz.underlying56
  a37:=Tryz.isAgg56
  z37:=Tryz.sizeOf56
  v37:=Tryz.zeroValue56
  t46:=Tryz.underlying75
  a46:=Tryz.isAgg75
  z46:=Tryz.sizeOf75
  v46:=Tryz.zeroValue75
  t51:=Tryz.underlying94
  a51:=Tryz.isAgg94
  z51:=Tryz.sizeOf94
  v51:=Tryz.zeroValue94
  t53:=Tryz.underlying96
  a53:=Tryz.isAgg96
  z53:=Tryz.sizeOf96
  v53:=Tryz.zeroValue96
  t75:=Tryz.underlying61
  a75:=Tryz.isAgg61
  z75:=Tryz.sizeOf61
  v75:=Tryz.zeroValue61
  t76:=Tryz.underlying62
  a76:=Tryz.isAgg62
  z76:=Tryz.sizeOf62
  v76:=Tryz.zeroValue62
  t85:=Tryz.underlying108
  a85:=Tryz.isAgg108
  z85:=Tryz.sizeOf108
  v85:=Tryz.zeroValue108
  t127:=Tryz.underlying79
  a127:=Tryz.isAgg79
  z127:=Tryz.sizeOf79
  v127:=Tryz.zeroValue79
  t143:=Tryz.underlying152
  a143:=Tryz.isAgg152
  z143:=Tryz.sizeOf152
  v143:=Tryz.zeroValue152
  t145:=Tryz.underlying154
  a145:=Tryz.isAgg154
  z145:=Tryz.sizeOf154
  v145:=Tryz.zeroValue154
  t167:=Tryz.underlying107
  a167:=Tryz.isAgg107
  z167:=Tryz.sizeOf107
  v167:=Tryz.zeroValue107
  t168:=Tryz.underlying110
  a168:=Tryz.isAgg110
  z168:=Tryz.sizeOf110
  v168:=Tryz.zeroValue110
  t171:=Tryz.underlying122
  a171:=Tryz.isAgg122
  z171:=Tryz.sizeOf122
  v171:=Tryz.zeroValue122
  t173:=Tryz.underlying124
  a173:=Tryz.isAgg124
  z173:=Tryz.sizeOf124
  v173:=Tryz.zeroValue124
  t175:=Tryz.underlying127
  a175:=Tryz.isAgg127
  z175:=Tryz.sizeOf127
  v175:=Tryz.zeroValue127
  t210:=Tryz.underlying131
  a210:=Tryz.isAgg131
  z210:=Tryz.sizeOf131
  v210:=Tryz.zeroValue131
  t212:=Tryz.underlying142
  a212:=Tryz.isAgg142
  z212:=Tryz.sizeOf142
  v212:=Tryz.zeroValue142
  t213:=Tryz.underlying143
  a213:=Tryz.isAgg143
  z213:=Tryz.sizeOf143
  t232:=Tryz.underlying158
  a232:=Tryz.isAgg158
  z232:=Tryz.sizeOf158
  v232:=Tryz.zeroValue158
  t233:=Tryz.underlying159
  a233:=Tryz.isAgg159
  z233:=Tryz.sizeOf159
  v233:=Tryz.zeroValue159
  g15:=by kernel_rfl
  g16:=by kernel_rfl
  g17:=by kernel_rfl
  g18:=by kernel_rfl
  g19:=by kernel_rfl
  t80:=Tryz.underlying64
  a80:=Tryz.isAgg64
  z80:=Tryz.sizeOf64
  v80:=Tryz.zeroValue64
  i0:=by kernel_rfl
  i2:=by kernel_rfl
  i3:=by kernel_rfl
  i4:=by kernel_rfl
  i5:=by kernel_rfl
  i9:=by kernel_rfl
  i20:=by kernel_rfl
  i21:=by kernel_rfl
  i37:=by kernel_rfl
  i46:=by kernel_rfl
  i51:=by kernel_rfl
  i53:=by kernel_rfl
  i75:=by kernel_rfl
  i76:=by kernel_rfl
  i80:=by kernel_rfl
  i85:=by kernel_rfl
  i127:=by kernel_rfl
  i143:=by kernel_rfl
  i145:=by kernel_rfl
  i167:=by kernel_rfl
  i168:=by kernel_rfl
  i171:=by kernel_rfl
  i173:=by kernel_rfl
  i175:=by kernel_rfl
  i210:=by kernel_rfl
  i212:=by kernel_rfl
  i232:=by kernel_rfl
  i233:=by kernel_rfl
  m15:=by kernel_rfl
  m16:=by kernel_rfl
  m17:=by kernel_rfl
  m18:=by kernel_rfl
  m19:=by kernel_rfl
  c0:=by kernel_rfl
  c2:=by kernel_rfl
  c3:=by kernel_rfl
  c4:=by kernel_rfl
  c5:=by kernel_rfl
  c9:=by kernel_rfl
  c20:=by kernel_rfl
  c21:=by kernel_rfl
  c37:=by kernel_rfl
  c46:=by kernel_rfl
  c51:=by kernel_rfl
  c53:=by kernel_rfl
  c75:=by kernel_rfl
  c76:=by kernel_rfl
  c80:=by kernel_rfl
  c85:=by kernel_rfl
  c127:=by kernel_rfl
  c143:=by kernel_rfl
  c145:=by kernel_rfl
  c167:=by kernel_rfl
  c168:=by kernel_rfl
  c171:=by kernel_rfl
  c173:=by kernel_rfl
  c175:=by kernel_rfl
  c210:=by kernel_rfl
  c212:=by kernel_rfl
  c213:=by kernel_rfl
  c232:=by kernel_rfl
  c233:=by kernel_rfl }
open Go.RowKit in
theorem Tryz.strconv_Atoi_ok (s : ByteArray) (hmax : s.size ≤ 9223372036854775806) (v : Int) (h : Lib.atoiAll s.data.toList = .ok v) (w : World) :
    Calls Tryz.prog 36 #[.string s] w fun e w'=>e = .returned (.tuple #[.int .i64 v,.nilIface]) ∧ (w' = w ∨ ∃ t,w' = Lib.bytesWorld w 5 t):=Any.strconv_Atoi_ok Tryz.laysC172 s hmax v h w
open Go.RowKit in
theorem Tryz.strconv_Atoi_syntax (s : ByteArray) (hlim : s.size ≤ 281474976710656) (h : Lib.atoiAll s.data.toList = .«syntax») (ev : Value) (w : World) (hv : w.cell? ⟨1, 0, none⟩ = some ev) (hev : ev = .nilIface ∨ ∃ te pe, ev = .iface te pe) :
    Calls Tryz.prog 36 #[.string s] w fun e w'=>∃ N,e = .returned (.tuple #[.int .i64 (0),.iface 110 (.pointer (some ⟨N,0,none⟩))]) ∧ w.heap.size ≤ N ∧ w'.heap[N]? = some (.cells #[.string ⟨#[65,116,111,105]⟩,.string s,ev] 131 (0,0)) ∧ Below w.heap.size w w':=Any.strconv_Atoi_syntax Tryz.laysC172 s hlim h ev w hv hev
open Go.RowKit in
theorem Tryz.strconv_Atoi_range (s : ByteArray) (hlim : s.size ≤ 281474976710656) (h : Lib.atoiAll s.data.toList = .range) (ev : Value) (w : World) (hv : w.cell? ⟨2, 0, none⟩ = some ev) (hev : ev = .nilIface ∨ ∃ te pe, ev = .iface te pe) :
    Calls Tryz.prog 36 #[.string s] w fun e w'=>∃ N,e = .returned (.tuple #[.int .i64 (Lib.atoiSat s.data.toList),.iface 110 (.pointer (some ⟨N,0,none⟩))]) ∧ w.heap.size ≤ N ∧ w'.heap[N]? = some (.cells #[.string ⟨#[65,116,111,105]⟩,.string s,ev] 131 (0,0)) ∧ Below w.heap.size w w':=Any.strconv_Atoi_range Tryz.laysC172 s hlim h ev w hv hev
def Tryz.lays145_ren:Go.Shelf.Ren:=⟨fun | 145=>34 | 220=>52 | 219=>79 | 217=>98 | 225=>99 | 224=>100 | 267=>101 | 266=>119 | 314=>120 | n=>n,fun | 9=>9 | 4=>4 | 59=>66 | 3=>3 | 5=>5 | 46=>75 | 146=>148 | 51=>94 | n=>n,fun | 1=>0 | n=>n⟩
theorem Tryz.lays145:Go.Proofs.Lays.n145 Tryz.prog Tryz.lays145_ren:={
  mixed:=by kernel_rfl
  f145:=Tryz.func34.trans (congrArg some (by kernel_rfl))
  f217:=Tryz.func98.trans (congrArg some (by kernel_rfl))
  f219:=Tryz.func79.trans (congrArg some (by kernel_rfl))
  f220:=Tryz.func52.trans (congrArg some (by kernel_rfl))
  f224:=Tryz.func100.trans (congrArg some (by kernel_rfl))
  f225:=Tryz.func99.trans (congrArg some (by kernel_rfl))
  f266:=Tryz.func119.trans (congrArg some (by kernel_rfl))
  f267:=Tryz.func101.trans (congrArg some (by kernel_rfl))
  f314:=Tryz.func120.trans (congrArg some (by kernel_rfl))
  t3:=Tryz.underlying3
  a3:=Tryz.isAgg3
  z3:=Tryz.sizeOf3
  v3:=Tryz.zeroValue3
  t4:=Tryz.underlying4
  a4:=Tryz.isAgg4
  z4:=Tryz.sizeOf4
  v4:=Tryz.zeroValue4
  t5:=Tryz.underlying5
  a5:=Tryz.isAgg5
  z5:=Tryz.sizeOf5
  v5:=Tryz.zeroValue5
  t9:=Tryz.underlying9
  a9:=Tryz.isAgg9
  z9:=Tryz.sizeOf9
  v9:=Tryz.zeroValue9
  t46:=Tryz.underlying75
  a46:=Tryz.isAgg75
  z46:=Tryz.sizeOf75
  v46:=Tryz.zeroValue75
  t51:=Tryz.underlying94
  a51:=Tryz.isAgg94
  z51:=Tryz.sizeOf94
  v51:=Tryz.zeroValue94
  t59:=Tryz.underlying66
  a59:=Tryz.isAgg66
  z59:=Tryz.sizeOf66
  v59:=Tryz.zeroValue66
  t146:=Tryz.underlying148
  a146:=Tryz.isAgg148
  z146:=Tryz.sizeOf148
  v146:=Tryz.zeroValue148
  g1:=by kernel_rfl }
open Go.RowKit Go.Lib in
theorem Tryz.strings_Cut (s sep : ByteArray) (m : Int) (w : World) (hs : s.size < 4294967281) (hm : w.cell? ⟨0, 0, none⟩ = some (.int .i64 m)) :
    Calls Tryz.prog 34 #[.string s,.string sep] w fun e w'=>e = .returned (.tuple #[.string ⟨(Lib.cut s.data.toList sep.data.toList).1.toArray⟩,.string ⟨(Lib.cut s.data.toList sep.data.toList).2.1.toArray⟩,.bool (Lib.cut s.data.toList sep.data.toList).2.2]) ∧ ∃ n,w' = w.drewN n:=Any.strings_Cut Tryz.lays145 s sep m w hs hm
def Tryz.lays189_ren:Go.Shelf.Ren:=⟨fun | 189=>70 | 125=>41 | 257=>90 | 128=>67 | 129=>68 | 294=>106 | 295=>107 | 296=>108 | 297=>109 | 298=>110 | 299=>111 | 216=>112 | 300=>113 | 301=>114 | 328=>123 | 329=>86 | 330=>87 | 331=>124 | 332=>125 | 215=>42 | 343=>128 | n=>n,fun | 28=>70 | 3=>3 | 46=>75 | 0=>0 | 51=>94 | 53=>96 | 4=>4 | 183=>87 | 182=>86 | 131=>91 | 5=>5 | 9=>9 | 218=>113 | 222=>117 | 228=>133 | 229=>48 | n=>n,fun | n=>n⟩
theorem Tryz.lays189:Go.Proofs.Lays.n189 Tryz.prog Tryz.lays189_ren:={
  mixed:=by kernel_rfl
  f125:=Tryz.func41.trans (congrArg some (by kernel_rfl))
  f128:=Tryz.func67.trans (congrArg some (by kernel_rfl))
  f129:=Tryz.func68.trans (congrArg some (by kernel_rfl))
  f189:=Tryz.func70.trans (congrArg some (by kernel_rfl))
  f215:=Tryz.func42.trans (congrArg some (by kernel_rfl))
  f216:=Tryz.func112.trans (congrArg some (by kernel_rfl))
  f257:=Tryz.func90.trans (congrArg some (by kernel_rfl))
  f294:=Tryz.func106.trans (congrArg some (by kernel_rfl))
  f295:=Tryz.func107.trans (congrArg some (by kernel_rfl))
  f296:=Tryz.func108.trans (congrArg some (by kernel_rfl))
  f297:=Tryz.func109.trans (congrArg some (by kernel_rfl))
  f298:=Tryz.func110.trans (congrArg some (by kernel_rfl))
  f299:=Tryz.func111.trans (congrArg some (by kernel_rfl))
  f300:=Tryz.func113.trans (congrArg some (by kernel_rfl))
  f301:=Tryz.func114.trans (congrArg some (by kernel_rfl))
  f328:=Tryz.func123.trans (congrArg some (by kernel_rfl))
  f329:=Tryz.func86.trans (congrArg some (by kernel_rfl))
  f330:=Tryz.func87.trans (congrArg some (by kernel_rfl))
  f331:=Tryz.func124.trans (congrArg some (by kernel_rfl))
  f332:=Tryz.func125.trans (congrArg some (by kernel_rfl))
  f343:=Tryz.func128.trans (congrArg some (by kernel_rfl))
  t0:=Tryz.underlying0
  a0:=Tryz.isAgg0
  z0:=Tryz.sizeOf0
  v0:=Tryz.zeroValue0
  t3:=Tryz.underlying3
  a3:=Tryz.isAgg3
  z3:=Tryz.sizeOf3
  v3:=Tryz.zeroValue3
  t4:=Tryz.underlying4
  a4:=Tryz.isAgg4
  z4:=Tryz.sizeOf4
  v4:=Tryz.zeroValue4
  t5:=Tryz.underlying5
  a5:=Tryz.isAgg5
  z5:=Tryz.sizeOf5
  v5:=Tryz.zeroValue5
  t9:=Tryz.underlying9
  a9:=Tryz.isAgg9
  z9:=Tryz.sizeOf9
  v9:=Tryz.zeroValue9
  t28:=Tryz.underlying70
  a28:=Tryz.isAgg70
  z28:=Tryz.sizeOf70
  v28:=Tryz.zeroValue70
  t46:=Tryz.underlying75
  a46:=Tryz.isAgg75
  z46:=Tryz.sizeOf75
  v46:=Tryz.zeroValue75
  t51:=Tryz.underlying94
  a51:=Tryz.isAgg94
  z51:=Tryz.sizeOf94
  v51:=Tryz.zeroValue94
  t53:=Tryz.underlying96
  a53:=Tryz.isAgg96
  z53:=Tryz.sizeOf96
  v53:=Tryz.zeroValue96
  t131:=Tryz.underlying91
  a131:=Tryz.isAgg91
  z131:=Tryz.sizeOf91
  v131:=Tryz.zeroValue91
  t182:=Tryz.underlying86
  a182:=Tryz.isAgg86
  z182:=Tryz.sizeOf86
  v182:=Tryz.zeroValue86
  t183:=Tryz.underlying87
  a183:=Tryz.isAgg87
  z183:=Tryz.sizeOf87
  v183:=Tryz.zeroValue87
  t218:=Tryz.underlying113
  a218:=Tryz.isAgg113
  z218:=Tryz.sizeOf113
  v218:=Tryz.zeroValue113
  t222:=Tryz.underlying117
  a222:=Tryz.isAgg117
  z222:=Tryz.sizeOf117
  v222:=Tryz.zeroValue117
  t228:=Tryz.underlying133
  a228:=Tryz.isAgg133
  z228:=Tryz.sizeOf133
  v228:=Tryz.zeroValue133
  t229:=Tryz.underlying48
  a229:=Tryz.isAgg48
  z229:=Tryz.sizeOf48
  v229:=Tryz.zeroValue48 }
open Go.Sort Go.RowKit in
theorem Tryz.slices_Sort_int (blk off cap : Nat) (zs : List Int) (w : World) (hH : Holds (Value.int .i64) w blk off zs.toArray) (hblk : blk < w.heap.size) (hsz : zs.length < 4611686018427387904) :
    Calls Tryz.prog 70 #[.slice (some ⟨blk,off,none⟩) zs.length cap] w fun e w' =>
      e = .returned (.tuple #[]) ∧ ∃ n os,w' = grow (putRow (Value.int .i64) (Sort.ahead w n) blk off (zs.mergeSort fun x y=>decide (x ≤ y)).toArray) os:=Any.slices_Sort_int Tryz.lays189 blk off cap zs w hH hblk hsz
def Tryz.lays100_ren:Go.Shelf.Ren:=⟨fun | 100=>35 | 207=>53 | n=>n,fun | 9=>9 | 4=>4 | 3=>3 | n=>n,fun | n=>n⟩
theorem Tryz.lays100:Go.Proofs.Lays.n100 Tryz.prog Tryz.lays100_ren:={
  mixed:=by kernel_rfl
  f100:=Tryz.func35.trans (congrArg some (by kernel_rfl))
  f207:=Tryz.func53.trans (congrArg some (by kernel_rfl))
  t3:=Tryz.underlying3
  a3:=Tryz.isAgg3
  z3:=Tryz.sizeOf3
  v3:=Tryz.zeroValue3
  t4:=Tryz.underlying4
  a4:=Tryz.isAgg4
  z4:=Tryz.sizeOf4
  v4:=Tryz.zeroValue4
  t9:=Tryz.underlying9
  a9:=Tryz.isAgg9
  z9:=Tryz.sizeOf9
  v9:=Tryz.zeroValue9 }
open Go.RowKit Go.Lib in
theorem Tryz.strings_HasSuffix (s p : ByteArray) (w : World) (hs : s.size ≤ 9223372036854775807) :
    Calls Tryz.prog 35 #[.string s,.string p] w fun e w'=>e = .returned (.bool (Lib.hasSuffix s.data.toList p.data.toList)) ∧ w' = w:=Any.strings_HasSuffix Tryz.lays100 s p w hs
def Tryz.lays102_ren:Go.Shelf.Ren:=⟨fun | 102=>37 | 209=>56 | 207=>53 | n=>n,fun | 9=>9 | 4=>4 | 3=>3 | n=>n,fun | n=>n⟩
theorem Tryz.lays102:Go.Proofs.Lays.n102 Tryz.prog Tryz.lays102_ren:={
  mixed:=by kernel_rfl
  f102:=Tryz.func37.trans (congrArg some (by kernel_rfl))
  f207:=Tryz.func53.trans (congrArg some (by kernel_rfl))
  f209:=Tryz.func56.trans (congrArg some (by kernel_rfl))
  t3:=Tryz.underlying3
  a3:=Tryz.isAgg3
  z3:=Tryz.sizeOf3
  v3:=Tryz.zeroValue3
  t4:=Tryz.underlying4
  a4:=Tryz.isAgg4
  z4:=Tryz.sizeOf4
  v4:=Tryz.zeroValue4
  t9:=Tryz.underlying9
  a9:=Tryz.isAgg9
  z9:=Tryz.sizeOf9
  v9:=Tryz.zeroValue9 }
open Go.RowKit Go.Lib in
theorem Tryz.strings_TrimSuffix (s p : ByteArray) (w : World) (hs : s.size ≤ 9223372036854775807) :
    Calls Tryz.prog 37 #[.string s,.string p] w fun e w'=>e = .returned (.string ⟨(Lib.trimSuffix s.data.toList p.data.toList).toArray⟩) ∧ w' = w:=Any.strings_TrimSuffix Tryz.lays102 s p w hs
def Tryz.lays146_ren:Go.Shelf.Ren:=⟨fun | 146=>18 | 221=>33 | 268=>49 | 138=>50 | 143=>51 | 195=>76 | 197=>77 | 218=>78 | 219=>79 | 260=>97 | 217=>98 | 225=>99 | 224=>100 | 267=>101 | 266=>119 | 314=>120 | n=>n,fun | 9=>9 | 31=>40 | 3=>3 | 4=>4 | 0=>0 | 105=>104 | 21=>21 | 5=>5 | 46=>75 | 119=>144 | 139=>147 | 138=>146 | 146=>148 | 51=>94 | n=>n,fun | 1=>0 | 3=>4 | 4=>5 | n=>n⟩
theorem Tryz.lays146:Go.Proofs.Lays.n146 Tryz.prog Tryz.lays146_ren:={
  mixed:=by kernel_rfl
  f138:=Tryz.func50.trans (congrArg some (by kernel_rfl))
  f143:=Tryz.func51.trans (congrArg some (by kernel_rfl))
  f146:=Tryz.func18.trans (congrArg some (by kernel_rfl))
  f195:=Tryz.func76.trans (congrArg some (by kernel_rfl))
  f197:=Tryz.func77.trans (congrArg some (by kernel_rfl))
  f217:=Tryz.func98.trans (congrArg some (by kernel_rfl))
  f218:=Tryz.func78.trans (congrArg some (by kernel_rfl))
  f219:=Tryz.func79.trans (congrArg some (by kernel_rfl))
  f221:=Tryz.func33.trans (congrArg some (by kernel_rfl))
  f224:=Tryz.func100.trans (congrArg some (by kernel_rfl))
  f225:=Tryz.func99.trans (congrArg some (by kernel_rfl))
  f260:=Tryz.func97.trans (congrArg some (by kernel_rfl))
  f266:=Tryz.func119.trans (congrArg some (by kernel_rfl))
  f267:=Tryz.func101.trans (congrArg some (by kernel_rfl))
  f268:=Tryz.func49.trans (congrArg some (by kernel_rfl))
  f314:=Tryz.func120.trans (congrArg some (by kernel_rfl))
  t0:=Tryz.underlying0
  a0:=Tryz.isAgg0
  z0:=Tryz.sizeOf0
  v0:=Tryz.zeroValue0
  t3:=Tryz.underlying3
  a3:=Tryz.isAgg3
  z3:=Tryz.sizeOf3
  v3:=Tryz.zeroValue3
  t4:=Tryz.underlying4
  a4:=Tryz.isAgg4
  z4:=Tryz.sizeOf4
  v4:=Tryz.zeroValue4
  t5:=Tryz.underlying5
  a5:=Tryz.isAgg5
  z5:=Tryz.sizeOf5
  v5:=Tryz.zeroValue5
  t9:=Tryz.underlying9
  a9:=Tryz.isAgg9
  z9:=Tryz.sizeOf9
  v9:=Tryz.zeroValue9
  t21:=Tryz.underlying21
  a21:=Tryz.isAgg21
  z21:=Tryz.sizeOf21
  v21:=Tryz.zeroValue21
  t31:=Tryz.underlying40
  a31:=Tryz.isAgg40
  z31:=Tryz.sizeOf40
  v31:=Tryz.zeroValue40
  t46:=Tryz.underlying75
  a46:=Tryz.isAgg75
  z46:=Tryz.sizeOf75
  v46:=Tryz.zeroValue75
  t51:=Tryz.underlying94
  a51:=Tryz.isAgg94
  z51:=Tryz.sizeOf94
  v51:=Tryz.zeroValue94
  t105:=Tryz.underlying104
  a105:=Tryz.isAgg104
  z105:=Tryz.sizeOf104
  v105:=Tryz.zeroValue104
  t119:=Tryz.underlying144
  a119:=Tryz.isAgg144
  z119:=Tryz.sizeOf144
  t138:=Tryz.underlying146
  a138:=Tryz.isAgg146
  z138:=Tryz.sizeOf146
  v138:=Tryz.zeroValue146
  t139:=Tryz.underlying147
  a139:=Tryz.isAgg147
  z139:=Tryz.sizeOf147
  v139:=Tryz.zeroValue147
  t146:=Tryz.underlying148
  a146:=Tryz.isAgg148
  z146:=Tryz.sizeOf148
  v146:=Tryz.zeroValue148
  g1:=by kernel_rfl
  g3:=by kernel_rfl
  g4:=by kernel_rfl }
open Go.RowKit Go.Lib in
theorem Tryz.strings_Split (s sep : ByteArray) (m : Int) (w : World) (hs : s.size < 4294967281) (hm : w.cell? ⟨0, 0, none⟩ = some (.int .i64 m)) (h1 : 1 ≤ sep.size) :
    Calls Tryz.prog 18 #[.string s,.string sep] w fun e w' =>
      e = .returned (.slice (some ⟨w.heap.size,0,none⟩) (Lib.countB s sep + 1) (Lib.countB s sep + 1)) ∧ w' = w.alloc (.cells ((Lib.splitB sep 0 (Lib.countB s sep) s).map Value.string).toArray 9):=Any.strings_Split Tryz.lays146 (by kernel_rfl) s sep m w hs hm h1
def Tryz.laysNm220_ren:Go.Shelf.Ren:=⟨fun | 20=>71 | n=>n,fun | 22=>70 | 3=>3 | 4=>4 | 0=>0 | n=>n,fun | n=>n⟩
theorem Tryz.laysNm220:Go.Proofs.Lays2.n20 Tryz.prog Tryz.laysNm220_ren:={
  mixed:=by kernel_rfl
  f20:=Tryz.func71.trans (congrArg some (by kernel_rfl))
  t0:=Tryz.underlying0
  a0:=Tryz.isAgg0
  z0:=Tryz.sizeOf0
  v0:=Tryz.zeroValue0
  t3:=Tryz.underlying3
  a3:=Tryz.isAgg3
  z3:=Tryz.sizeOf3
  v3:=Tryz.zeroValue3
  t4:=Tryz.underlying4
  a4:=Tryz.isAgg4
  z4:=Tryz.sizeOf4
  v4:=Tryz.zeroValue4
  t22:=Tryz.underlying70
  a22:=Tryz.isAgg70
  z22:=Tryz.sizeOf70
  v22:=Tryz.zeroValue70
  i3:=by kernel_rfl }
open Go.RowKit Go.Lib Go.Sort in
theorem Tryz.slices_Compact_int (blk off cap : Nat) (zs : List Int) (w : World) (hH : Holds (Value.int .i64) w blk off zs.toArray) (hsz : zs.length ≤ 9223372036854775807) (hcap : zs.length ≤ cap) :
    Calls Tryz.prog 71 #[.slice (some ⟨blk,off,none⟩) zs.length cap] w fun e w'=>e = .returned (.slice (some ⟨blk,off,none⟩) (Lib.compact zs).length cap) ∧ ∃ q,w' = putRow (Value.int .i64) (Sort.ahead w q) blk off (Lib.compact zs ++ List.replicate (zs.length - (Lib.compact zs).length) 0).toArray:=Any.slices_Compact_int Tryz.laysNm220 blk off cap zs w hH hsz hcap
open Go.RowKit Go.Lib Go.Sort in
theorem Tryz.slices_Compact_int_empty (a : Option Addr) (cap : Nat) (w : World) :
    Calls Tryz.prog 71 #[.slice a 0 cap] w fun e w'=>e = .returned (.slice a 0 cap) ∧ w' = w:=Any.slices_Compact_int_empty Tryz.laysNm220 a cap w
open Go.RowKit Go.Sort in
theorem Tryz.slices_Sort_int_none (p : Option Addr) (cap : Nat) (w : World) :
    Calls Tryz.prog 70 #[.slice p 0 cap] w fun e w'=>e = .returned (.tuple #[]) ∧ w' = w:=Any.slices_Sort_int_none Tryz.lays189 p cap w
end Go.Proofs
