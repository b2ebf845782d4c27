import Derived.Shelf.Strings.Builder1
import Derived.Shelf.Strings.Builder2
import Derived.Shelf.Strings.OnBuilder
import Derived.Shelf.Small.Bits
import Derived.Shelf.Strings.BuilderF
import Derived.Shelf.Strconv.Itoa0
import Derived.Shelf.Strconv.Itoa1
import Derived.Shelf.LaysM
import Derived.Shelf.Strconv.Itoa2
import Derived.Shelf.Strconv.Itoa3
import Derived.Shelf.Strings.Prefix
import Derived.Shelf.Bits.Mul64
import Derived.Shelf.Strings.Repeat
import Derived.Ground.Names2Prog
import Derived.Shelf.Slices.SearchI
import Derived.Ground.SlgcProg
import Derived.Shelf.SlicesG.Cmp
import Derived.Test.YtjmekckcffckoaaDoorChecked
namespace Go.Proofs
open Go.Shelf
def Tryd.lays156_ren:Go.Shelf.Ren:=⟨fun | 156=>72 | 165=>47 | 166=>48 | 169=>50 | 240=>67 | 241=>68 | 276=>81 | 277=>82 | n=>n,fun | 31=>106 | 9=>9 | 3=>3 | 4=>4 | 0=>0 | 20=>20 | 72=>76 | 76=>80 | 70=>74 | 37=>45 | 75=>79 | 127=>104 | 164=>115 | 5=>5 | 80=>83 | n=>n,fun | n=>n⟩
theorem Tryd.lays156:Go.Proofs.Lays.n156 Tryd.prog Tryd.lays156_ren:={
  mixed:=by kernel_rfl
  f156:=Tryd.func72.trans (congrArg some (by kernel_rfl))
  f165:=Tryd.func47.trans (congrArg some (by kernel_rfl))
  f166:=Tryd.func48.trans (congrArg some (by kernel_rfl))
  f169:=Tryd.func50.trans (congrArg some (by kernel_rfl))
  f240:=Tryd.func67.trans (congrArg some (by kernel_rfl))
  f241:=Tryd.func68.trans (congrArg some (by kernel_rfl))
  f276:=Tryd.func81.trans (congrArg some (by kernel_rfl))
  f277:=Tryd.func82.trans (congrArg some (by kernel_rfl))
  t0:=Tryd.underlying0
  a0:=Tryd.isAgg0
  z0:=Tryd.sizeOf0
  v0:=Tryd.zeroValue0
  t3:=Tryd.underlying3
  a3:=Tryd.isAgg3
  z3:=Tryd.sizeOf3
  v3:=Tryd.zeroValue3
  t4:=Tryd.underlying4
  a4:=Tryd.isAgg4
  z4:=Tryd.sizeOf4
  v4:=Tryd.zeroValue4
  t9:=Tryd.underlying9
  a9:=Tryd.isAgg9
  z9:=Tryd.sizeOf9
  v9:=Tryd.zeroValue9
  t20:=Tryd.underlying20
  a20:=Tryd.isAgg20
  z20:=Tryd.sizeOf20
  v20:=Tryd.zeroValue20
  t31:=Tryd.underlying106
  a31:=Tryd.isAgg106
  z31:=Tryd.sizeOf106
  v31:=Tryd.zeroValue106
  t37:=Tryd.underlying45
  a37:=Tryd.isAgg45
  z37:=Tryd.sizeOf45
  v37:=Tryd.zeroValue45
  t70:=Tryd.underlying74
  a70:=Tryd.isAgg74
  z70:=Tryd.sizeOf74
  v70:=Tryd.zeroValue74
  t72:=Tryd.underlying76
  a72:=Tryd.isAgg76
  z72:=Tryd.sizeOf76
  v72:=Tryd.zeroValue76
  t75:=Tryd.underlying79
  a75:=Tryd.isAgg79
  z75:=Tryd.sizeOf79
  v75:=Tryd.zeroValue79
  t76:=Tryd.underlying80
  a76:=Tryd.isAgg80
  z76:=Tryd.sizeOf80
  v76:=Tryd.zeroValue80
  t127:=Tryd.underlying104
  a127:=Tryd.isAgg104
  z127:=Tryd.sizeOf104
  v127:=Tryd.zeroValue104
  t164:=Tryd.underlying115
  a164:=Tryd.isAgg115
  z164:=Tryd.sizeOf115
  v164:=Tryd.zeroValue115 }
theorem Tryd.Builder_Extra_156:Builder.Extra Tryd.prog Tryd.lays156_ren:={
  sizeBuilder:=by kernel_rfl
  liesBuilder:=by kernel_rfl
  t5:=Tryd.underlying5
  a5:=Tryd.isAgg5
  z5:=Tryd.sizeOf5
  v5:=Tryd.zeroValue5
  infoByte:=by kernel_rfl
  cellsByte:=by kernel_rfl
  sizeByte:=by kernel_rfl
  neB5:=by decide }
open Go.RowKit in
theorem Tryd.strings_Join_none (a : Option Addr) (c : Nat) (sep : ByteArray) (w : World) :
    Calls Tryd.prog 72 #[.slice a 0 c,.string sep] w fun e w'=>e = .returned (.string ⟨#[]⟩) ∧ w' = w:=Any.strings_Join_none Tryd.lays156 Tryd.Builder_Extra_156 a c sep w
open Go.RowKit in
theorem Tryd.strings_Join (bk o c : Nat) (xs : List ByteArray) (sep : ByteArray) (w : World) (hcells : ∀ (j : Nat) x, xs[j]? = some x → w.cell? ⟨bk, o + j, none⟩ = some (.string x)) (hbk : bk < w.heap.size) (hN : xs.length ≤ 140737488355328) (hcap : xs.length ≤ c) (hlen : (Lib.join (xs.map (·.data.toList)) sep.data.toList).length ≤ 140737488355328) :
    Calls Tryd.prog 72 #[.slice (some ⟨bk,o,none⟩) xs.length c,.string sep] w fun e w'=>e = .returned (.string ⟨(Lib.join (xs.map (·.data.toList)) sep.data.toList).toArray⟩) ∧ Below w.heap.size w w':=Any.strings_Join Tryd.lays156 Tryd.Builder_Extra_156 bk o c xs sep w hcells hbk hN hcap hlen
def Tryd.laysM171_ren:Go.Shelf.Ren:=⟨fun | 171=>69 | 243=>83 | 246=>95 | 283=>60 | 284=>61 | 285=>62 | 286=>63 | 129=>77 | 317=>76 | 318=>78 | 319=>79 | 320=>80 | 337=>93 | 338=>94 | n=>n,fun | 3=>3 | 9=>9 | 2=>2 | 4=>4 | 171=>94 | 0=>0 | 53=>44 | 37=>45 | 5=>5 | 173=>97 | 212=>113 | 51=>99 | 20=>20 | 213=>114 | 46=>46 | 232=>134 | 233=>135 | n=>n,fun | 17=>0 | 18=>2 | 19=>3 | n=>n⟩
theorem Tryd.laysM171:Go.Proofs.LaysM.n171 Tryd.prog Tryd.laysM171_ren:={
  mixed:=by kernel_rfl
  f129:=Tryd.func77.trans (congrArg some (by kernel_rfl))
  f171:=Tryd.func69.trans (congrArg some (by kernel_rfl))
  f243:=Tryd.func83.trans (congrArg some (by kernel_rfl))
  f246:=Tryd.func95.trans (congrArg some (by kernel_rfl))
  f283:=Tryd.func60.trans (congrArg some (by kernel_rfl))
  f284:=Tryd.func61.trans (congrArg some (by kernel_rfl))
  f285:=Tryd.func62.trans (congrArg some (by kernel_rfl))
  f286:=Tryd.func63.trans (congrArg some (by kernel_rfl))
  f317:=Tryd.func76.trans (congrArg some (by kernel_rfl))
  f318:=Tryd.func78.trans (congrArg some (by kernel_rfl))
  f319:=Tryd.func79.trans (congrArg some (by kernel_rfl))
  f320:=Tryd.func80.trans (congrArg some (by kernel_rfl))
  f337:=Tryd.func93.trans (congrArg some (by kernel_rfl))
  f338:=Tryd.func94.trans (congrArg some (by kernel_rfl))
  t0:=Tryd.underlying0
  a0:=Tryd.isAgg0
  z0:=Tryd.sizeOf0
  v0:=Tryd.zeroValue0
  t2:=Tryd.underlying2
  a2:=Tryd.isAgg2
  z2:=Tryd.sizeOf2
  v2:=Tryd.zeroValue2
  t3:=Tryd.underlying3
  a3:=Tryd.isAgg3
  z3:=Tryd.sizeOf3
  v3:=Tryd.zeroValue3
  t4:=Tryd.underlying4
  a4:=Tryd.isAgg4
  z4:=Tryd.sizeOf4
  v4:=Tryd.zeroValue4
  t5:=Tryd.underlying5
  a5:=Tryd.isAgg5
  z5:=Tryd.sizeOf5
  v5:=Tryd.zeroValue5
  t9:=Tryd.underlying9
  a9:=Tryd.isAgg9
  z9:=Tryd.sizeOf9
  v9:=Tryd.zeroValue9
  t20:=Tryd.underlying20
  a20:=Tryd.isAgg20
  z20:=Tryd.sizeOf20
  v20:=Tryd.zeroValue20
  t37:=Tryd.underlying45
  a37:=Tryd.isAgg45
  z37:=Tryd.sizeOf45
  v37:=Tryd.zeroValue45
  t46:=Tryd.underlying46
  a46:=Tryd.isAgg46
  z46:=Tryd.sizeOf46
  v46:=Tryd.zeroValue46
  t51:=Tryd.underlying99
  a51:=Tryd.isAgg99
  z51:=Tryd.sizeOf99
  v51:=Tryd.zeroValue99
  t53:=Tryd.underlying44
  a53:=Tryd.isAgg44
  z53:=Tryd.sizeOf44
  v53:=Tryd.zeroValue44
  t171:=Tryd.underlying94
  a171:=Tryd.isAgg94
  z171:=Tryd.sizeOf94
  v171:=Tryd.zeroValue94
  t173:=Tryd.underlying97
  a173:=Tryd.isAgg97
  z173:=Tryd.sizeOf97
  v173:=Tryd.zeroValue97
  t212:=Tryd.underlying113
  a212:=Tryd.isAgg113
  z212:=Tryd.sizeOf113
  v212:=Tryd.zeroValue113
  t213:=Tryd.underlying114
  a213:=Tryd.isAgg114
  z213:=Tryd.sizeOf114
  t232:=Tryd.underlying134
  a232:=Tryd.isAgg134
  z232:=Tryd.sizeOf134
  v232:=Tryd.zeroValue134
  t233:=Tryd.underlying135
  a233:=Tryd.isAgg135
  z233:=Tryd.sizeOf135
  v233:=Tryd.zeroValue135
  g17:=by kernel_rfl
  g18:=by kernel_rfl
  g19:=by kernel_rfl
  i0:=by kernel_rfl
  i2:=by kernel_rfl
  i3:=by kernel_rfl
  i4:=by kernel_rfl
  i5:=by kernel_rfl
  i9:=by kernel_rfl
  i20:=by kernel_rfl
  i37:=by kernel_rfl
  i46:=by kernel_rfl
  i51:=by kernel_rfl
  i53:=by kernel_rfl
  i171:=by kernel_rfl
  i173:=by kernel_rfl
  i212:=by kernel_rfl
  i232:=by kernel_rfl
  i233:=by kernel_rfl
  m17:=by kernel_rfl
  m18:=by kernel_rfl
  m19:=by kernel_rfl }
open Go.RowKit Go.Sort Go.Lib in
theorem Tryd.strconv_Itoa (n : Int) (h0 : -9223372036854775808 ≤ n) (h1 : n ≤ 9223372036854775807) (w : World) (htab : Lib.TabIs Tryd.prog w "internal/strconv.uint64pow10" .u64 Lib.pow10Tab) :
    Calls Tryd.prog 69 #[.int .i64 n] w fun e w'=>e = .returned (.string ⟨(Lib.itoa n).toArray⟩) ∧ ∃ k os,w' = grow (w.drewN k) os:=Any.strconv_Itoa Tryd.laysM171 n h0 h1 w htab
def Tryd.lays105_ren:Go.Shelf.Ren:=⟨fun | 105=>26 | 212=>45 | 99=>46 | 165=>47 | 166=>48 | 170=>49 | 169=>50 | 263=>64 | 264=>65 | 206=>66 | 240=>67 | 241=>68 | 276=>81 | 277=>82 | n=>n,fun | 9=>9 | 3=>3 | 4=>4 | 20=>20 | 0=>0 | 46=>46 | 109=>71 | 5=>5 | 72=>76 | 76=>80 | 51=>99 | 146=>100 | 53=>44 | 148=>102 | 70=>74 | 37=>45 | 75=>79 | 127=>104 | 164=>115 | 80=>83 | n=>n,fun | n=>n⟩
theorem Tryd.lays105:Go.Proofs.Lays.n105 Tryd.prog Tryd.lays105_ren:={
  mixed:=by kernel_rfl
  f99:=Tryd.func46.trans (congrArg some (by kernel_rfl))
  f105:=Tryd.func26.trans (congrArg some (by kernel_rfl))
  f165:=Tryd.func47.trans (congrArg some (by kernel_rfl))
  f166:=Tryd.func48.trans (congrArg some (by kernel_rfl))
  f169:=Tryd.func50.trans (congrArg some (by kernel_rfl))
  f170:=Tryd.func49.trans (congrArg some (by kernel_rfl))
  f206:=Tryd.func66.trans (congrArg some (by kernel_rfl))
  f212:=Tryd.func45.trans (congrArg some (by kernel_rfl))
  f240:=Tryd.func67.trans (congrArg some (by kernel_rfl))
  f241:=Tryd.func68.trans (congrArg some (by kernel_rfl))
  f263:=Tryd.func64.trans (congrArg some (by kernel_rfl))
  f264:=Tryd.func65.trans (congrArg some (by kernel_rfl))
  f276:=Tryd.func81.trans (congrArg some (by kernel_rfl))
  f277:=Tryd.func82.trans (congrArg some (by kernel_rfl))
  t0:=Tryd.underlying0
  a0:=Tryd.isAgg0
  z0:=Tryd.sizeOf0
  v0:=Tryd.zeroValue0
  t3:=Tryd.underlying3
  a3:=Tryd.isAgg3
  z3:=Tryd.sizeOf3
  v3:=Tryd.zeroValue3
  t4:=Tryd.underlying4
  a4:=Tryd.isAgg4
  z4:=Tryd.sizeOf4
  v4:=Tryd.zeroValue4
  t5:=Tryd.underlying5
  a5:=Tryd.isAgg5
  z5:=Tryd.sizeOf5
  v5:=Tryd.zeroValue5
  t9:=Tryd.underlying9
  a9:=Tryd.isAgg9
  z9:=Tryd.sizeOf9
  v9:=Tryd.zeroValue9
  t20:=Tryd.underlying20
  a20:=Tryd.isAgg20
  z20:=Tryd.sizeOf20
  v20:=Tryd.zeroValue20
  t37:=Tryd.underlying45
  a37:=Tryd.isAgg45
  z37:=Tryd.sizeOf45
  v37:=Tryd.zeroValue45
  t46:=Tryd.underlying46
  a46:=Tryd.isAgg46
  z46:=Tryd.sizeOf46
  v46:=Tryd.zeroValue46
  t51:=Tryd.underlying99
  a51:=Tryd.isAgg99
  z51:=Tryd.sizeOf99
  v51:=Tryd.zeroValue99
  t53:=Tryd.underlying44
  a53:=Tryd.isAgg44
  z53:=Tryd.sizeOf44
  v53:=Tryd.zeroValue44
  t70:=Tryd.underlying74
  a70:=Tryd.isAgg74
  z70:=Tryd.sizeOf74
  v70:=Tryd.zeroValue74
  t72:=Tryd.underlying76
  a72:=Tryd.isAgg76
  z72:=Tryd.sizeOf76
  v72:=Tryd.zeroValue76
  t75:=Tryd.underlying79
  a75:=Tryd.isAgg79
  z75:=Tryd.sizeOf79
  v75:=Tryd.zeroValue79
  t76:=Tryd.underlying80
  a76:=Tryd.isAgg80
  z76:=Tryd.sizeOf80
  v76:=Tryd.zeroValue80
  t109:=Tryd.underlying71
  a109:=Tryd.isAgg71
  z109:=Tryd.sizeOf71
  v109:=Tryd.zeroValue71
  t127:=Tryd.underlying104
  a127:=Tryd.isAgg104
  z127:=Tryd.sizeOf104
  v127:=Tryd.zeroValue104
  t146:=Tryd.underlying100
  a146:=Tryd.isAgg100
  z146:=Tryd.sizeOf100
  v146:=Tryd.zeroValue100
  t148:=Tryd.underlying102
  a148:=Tryd.isAgg102
  z148:=Tryd.sizeOf102
  v148:=Tryd.zeroValue102
  t164:=Tryd.underlying115
  a164:=Tryd.isAgg115
  z164:=Tryd.sizeOf115
  v164:=Tryd.zeroValue115 }
theorem Tryd.Builder_Extra_105:Builder.Extra Tryd.prog Tryd.lays105_ren:={
  sizeBuilder:=by kernel_rfl
  liesBuilder:=by kernel_rfl
  t5:=Tryd.underlying5
  a5:=Tryd.isAgg5
  z5:=Tryd.sizeOf5
  v5:=Tryd.zeroValue5
  infoByte:=by kernel_rfl
  cellsByte:=by kernel_rfl
  sizeByte:=by kernel_rfl
  neB5:=by decide }
open Go.RowKit Go.Lib in
theorem Tryd.strings_Repeat (s : ByteArray) (c : Nat) (w : World) (hc : c ≤ 9223372036854775807) (hlen : s.size * c ≤ 140737488355328) :
    Calls Tryd.prog 26 #[.string s,.int .i64 c] w fun e w'=>e = .returned (.string ⟨(Lib.repeatL s.data.toList c).toArray⟩) ∧ Below w.heap.size w w':=Any.strings_Repeat Tryd.lays105 Tryd.Builder_Extra_105 s c w hc hlen
end Go.Proofs
