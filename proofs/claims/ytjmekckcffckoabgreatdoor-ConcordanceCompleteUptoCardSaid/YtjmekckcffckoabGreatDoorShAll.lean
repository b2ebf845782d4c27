import Derived.Shelf.Strings.Builder1
import Derived.Shelf.Strings.Builder2
import Derived.Shelf.Strings.OnBuilder
import Derived.Shelf.Strings.Trim
import Derived.Shelf.Small.Utf8
import Derived.Shelf.Small.Bits
import Derived.Shelf.Small.Strs
import Derived.Shelf.Strings.BuilderF
import Derived.Shelf.Strconv.Itoa0
import Derived.Shelf.Strconv.Itoa1
import Derived.Shelf.LaysM
import Derived.Shelf.Strconv.Itoa2
import Derived.Shelf.Strconv.Itoa3
import Derived.Shelf.Strings.Search1
import Derived.Shelf.Sort.Plain
import Derived.Shelf.GgClosure.StringsIndexFunc
import Derived.Ground.GgwProg
import Derived.Shelf.GgClosure.StringsIndexFuncTop
import Derived.Shelf.Strings.Prefix
import Derived.Shelf.Unicode.Decode
import Derived.Shelf.Strings.Runes
import Derived.Shelf.Strings.AsciiSet
import Derived.Shelf.Bits.Mul64
import Derived.Shelf.Strings.Repeat
import Derived.Shelf.Unicode.DecodeSlow
import Derived.Shelf.Unicode.DecodeAny
import Derived.Shelf.Unicode.DecodeLast
import Derived.Shelf.Strings.FieldsFuncAny
import Derived.Shelf.Strings.FuncGrows
import Derived.Shelf.Strings.FieldsFuncGrows
import Derived.Ground.Names2Prog
import Derived.Shelf.Slices.CompactI
import Derived.Shelf.Slices.SearchI
import Derived.Shelf.Slices.Cells
import Derived.Shelf.Slices.In.SortNone
import Derived.Ground.SlgcProg
import Derived.Shelf.SlicesG.Cmp
import Derived.Test.YtjmekckcffckoabGreatDoorChecked
namespace Go.Proofs
open Go.Shelf
def Tryz.lays156_ren:Go.Shelf.Ren:=⟨fun | 156=>27 | 165=>53 | 166=>54 | 169=>55 | 240=>82 | 241=>83 | 276=>125 | 277=>126 | n=>n,fun | 31=>38 | 9=>9 | 3=>3 | 4=>4 | 0=>0 | 20=>20 | 72=>101 | 76=>105 | 70=>99 | 37=>63 | 75=>104 | 127=>137 | 164=>185 | 5=>5 | 80=>107 | n=>n,fun | n=>n⟩
theorem Tryz.lays156:Go.Proofs.Lays.n156 Tryz.prog Tryz.lays156_ren:={
  mixed:=by kernel_rfl
  f156:=Tryz.func27.trans (congrArg some (by kernel_rfl))
  f165:=Tryz.func53.trans (congrArg some (by kernel_rfl))
  f166:=Tryz.func54.trans (congrArg some (by kernel_rfl))
  f169:=Tryz.func55.trans (congrArg some (by kernel_rfl))
  f240:=Tryz.func82.trans (congrArg some (by kernel_rfl))
  f241:=Tryz.func83.trans (congrArg some (by kernel_rfl))
  f276:=Tryz.func125.trans (congrArg some (by kernel_rfl))
  f277:=Tryz.func126.trans (congrArg some (by kernel_rfl))
  t0:=Tryz.underlying0
  a0:=Tryz.isAgg0
  z0:=Tryz.sizeOf0
  v0:=Tryz.zeroValue0
  t3:=Tryz.underlying3
  a3:=Tryz.isAgg3
  z3:=Tryz.sizeOf3
  v3:=Tryz.zeroValue3
  t4:=Tryz.underlying4
  a4:=Tryz.isAgg4
  z4:=Tryz.sizeOf4
  v4:=Tryz.zeroValue4
  t9:=Tryz.underlying9
  a9:=Tryz.isAgg9
  z9:=Tryz.sizeOf9
  v9:=Tryz.zeroValue9
  t20:=Tryz.underlying20
  a20:=Tryz.isAgg20
  z20:=Tryz.sizeOf20
  v20:=Tryz.zeroValue20
  t31:=Tryz.underlying38
  a31:=Tryz.isAgg38
  z31:=Tryz.sizeOf38
  v31:=Tryz.zeroValue38
  t37:=Tryz.underlying63
  a37:=Tryz.isAgg63
  z37:=Tryz.sizeOf63
  v37:=Tryz.zeroValue63
  t70:=Tryz.underlying99
  a70:=Tryz.isAgg99
  z70:=Tryz.sizeOf99
  v70:=Tryz.zeroValue99
  t72:=Tryz.underlying101
  a72:=Tryz.isAgg101
  z72:=Tryz.sizeOf101
  v72:=Tryz.zeroValue101
  t75:=Tryz.underlying104
  a75:=Tryz.isAgg104
  z75:=Tryz.sizeOf104
  v75:=Tryz.zeroValue104
  t76:=Tryz.underlying105
  a76:=Tryz.isAgg105
  z76:=Tryz.sizeOf105
  v76:=Tryz.zeroValue105
  t127:=Tryz.underlying137
  a127:=Tryz.isAgg137
  z127:=Tryz.sizeOf137
  v127:=Tryz.zeroValue137
  t164:=Tryz.underlying185
  a164:=Tryz.isAgg185
  z164:=Tryz.sizeOf185
  v164:=Tryz.zeroValue185 }
theorem Tryz.Builder_Extra_156:Builder.Extra Tryz.prog Tryz.lays156_ren:={
  sizeBuilder:=by kernel_rfl
  liesBuilder:=by kernel_rfl
  t5:=Tryz.underlying5
  a5:=Tryz.isAgg5
  z5:=Tryz.sizeOf5
  v5:=Tryz.zeroValue5
  infoByte:=by kernel_rfl
  cellsByte:=by kernel_rfl
  sizeByte:=by kernel_rfl
  neB5:=by decide }
open Go.RowKit in
theorem Tryz.strings_Join_none (a : Option Addr) (c : Nat) (sep : ByteArray) (w : World) :
    Calls Tryz.prog 27 #[.slice a 0 c,.string sep] w fun e w'=>e = .returned (.string ⟨#[]⟩) ∧ w' = w:=Any.strings_Join_none Tryz.lays156 Tryz.Builder_Extra_156 a c sep w
open Go.RowKit in
theorem Tryz.strings_Join (bk o c : Nat) (xs : List ByteArray) (sep : ByteArray) (w : World) (hcells : ∀ (j : Nat) x, xs[j]? = some x → w.cell? ⟨bk, o + j, none⟩ = some (.string x)) (hbk : bk < w.heap.size) (hN : xs.length ≤ 140737488355328) (hcap : xs.length ≤ c) (hlen : (Lib.join (xs.map (·.data.toList)) sep.data.toList).length ≤ 140737488355328) :
    Calls Tryz.prog 27 #[.slice (some ⟨bk,o,none⟩) xs.length c,.string sep] w fun e w'=>e = .returned (.string ⟨(Lib.join (xs.map (·.data.toList)) sep.data.toList).toArray⟩) ∧ Below w.heap.size w w':=Any.strings_Join Tryz.lays156 Tryz.Builder_Extra_156 bk o c xs sep w hcells hbk hN hcap hlen
def Tryz.lays161_ren:Go.Shelf.Ren:=⟨fun | 161=>57 | 231=>88 | 227=>85 | 233=>89 | 235=>90 | 228=>127 | 197=>130 | 151=>129 | 260=>176 | 152=>175 | 137=>210 | 119=>211 | 224=>212 | 225=>213 | 217=>225 | 266=>231 | n=>n,fun | 9=>9 | 4=>4 | 3=>3 | 5=>5 | 117=>141 | 116=>140 | 0=>0 | 124=>144 | 105=>189 | 21=>21 | 119=>253 | 46=>129 | 139=>256 | 138=>255 | n=>n,fun | 3=>3 | 4=>4 | n=>n⟩
theorem Tryz.lays161:Go.Proofs.Lays.n161 Tryz.prog Tryz.lays161_ren:={
  mixed:=by kernel_rfl
  f119:=Tryz.func211.trans (congrArg some (by kernel_rfl))
  f137:=Tryz.func210.trans (congrArg some (by kernel_rfl))
  f151:=Tryz.func129.trans (congrArg some (by kernel_rfl))
  f152:=Tryz.func175.trans (congrArg some (by kernel_rfl))
  f161:=Tryz.func57.trans (congrArg some (by kernel_rfl))
  f197:=Tryz.func130.trans (congrArg some (by kernel_rfl))
  f217:=Tryz.func225.trans (congrArg some (by kernel_rfl))
  f224:=Tryz.func212.trans (congrArg some (by kernel_rfl))
  f225:=Tryz.func213.trans (congrArg some (by kernel_rfl))
  f227:=Tryz.func85.trans (congrArg some (by kernel_rfl))
  f228:=Tryz.func127.trans (congrArg some (by kernel_rfl))
  f231:=Tryz.func88.trans (congrArg some (by kernel_rfl))
  f233:=Tryz.func89.trans (congrArg some (by kernel_rfl))
  f235:=Tryz.func90.trans (congrArg some (by kernel_rfl))
  f260:=Tryz.func176.trans (congrArg some (by kernel_rfl))
  f266:=Tryz.func231.trans (congrArg some (by kernel_rfl))
  t0:=Tryz.underlying0
  a0:=Tryz.isAgg0
  z0:=Tryz.sizeOf0
  v0:=Tryz.zeroValue0
  t3:=Tryz.underlying3
  a3:=Tryz.isAgg3
  z3:=Tryz.sizeOf3
  v3:=Tryz.zeroValue3
  t4:=Tryz.underlying4
  a4:=Tryz.isAgg4
  z4:=Tryz.sizeOf4
  v4:=Tryz.zeroValue4
  t5:=Tryz.underlying5
  a5:=Tryz.isAgg5
  z5:=Tryz.sizeOf5
  v5:=Tryz.zeroValue5
  t9:=Tryz.underlying9
  a9:=Tryz.isAgg9
  z9:=Tryz.sizeOf9
  v9:=Tryz.zeroValue9
  t21:=Tryz.underlying21
  a21:=Tryz.isAgg21
  z21:=Tryz.sizeOf21
  v21:=Tryz.zeroValue21
  t46:=Tryz.underlying129
  a46:=Tryz.isAgg129
  z46:=Tryz.sizeOf129
  v46:=Tryz.zeroValue129
  t105:=Tryz.underlying189
  a105:=Tryz.isAgg189
  z105:=Tryz.sizeOf189
  v105:=Tryz.zeroValue189
  t116:=Tryz.underlying140
  a116:=Tryz.isAgg140
  z116:=Tryz.sizeOf140
  t117:=Tryz.underlying141
  a117:=Tryz.isAgg141
  z117:=Tryz.sizeOf141
  v117:=Tryz.zeroValue141
  t119:=Tryz.underlying253
  a119:=Tryz.isAgg253
  z119:=Tryz.sizeOf253
  t124:=Tryz.underlying144
  a124:=Tryz.isAgg144
  z124:=Tryz.sizeOf144
  v124:=Tryz.zeroValue144
  t138:=Tryz.underlying255
  a138:=Tryz.isAgg255
  z138:=Tryz.sizeOf255
  v138:=Tryz.zeroValue255
  t139:=Tryz.underlying256
  a139:=Tryz.isAgg256
  z139:=Tryz.sizeOf256
  v139:=Tryz.zeroValue256
  g3:=by kernel_rfl
  g4:=by kernel_rfl }
open Go.RowKit in
theorem Tryz.strings_TrimLeft_one (s : ByteArray) (c : UInt8) (hc : c.toNat < 128) (w : World) :
    Calls Tryz.prog 57 #[.string s,.string ⟨#[c]⟩] w fun e w'=>e = .returned (.string ⟨(Lib.trimLeftB s.data.toList c).toArray⟩) ∧ w' = w:=Any.strings_TrimLeft_one Tryz.lays161 s c hc w
def Tryz.lays162_ren:Go.Shelf.Ren:=⟨fun | 162=>56 | 232=>84 | 227=>85 | 234=>86 | 236=>87 | 228=>127 | 271=>128 | 151=>129 | 120=>174 | 197=>130 | 152=>175 | 260=>176 | 137=>210 | 119=>211 | 224=>212 | 225=>213 | 217=>225 | 266=>231 | n=>n,fun | 9=>9 | 4=>4 | 3=>3 | 5=>5 | 117=>141 | 116=>140 | 0=>0 | 124=>144 | 21=>21 | 105=>189 | 46=>129 | 119=>253 | 139=>256 | 138=>255 | n=>n,fun | 3=>3 | 4=>4 | n=>n⟩
theorem Tryz.lays162:Go.Proofs.Lays.n162 Tryz.prog Tryz.lays162_ren:={
  mixed:=by kernel_rfl
  f119:=Tryz.func211.trans (congrArg some (by kernel_rfl))
  f120:=Tryz.func174.trans (congrArg some (by kernel_rfl))
  f137:=Tryz.func210.trans (congrArg some (by kernel_rfl))
  f151:=Tryz.func129.trans (congrArg some (by kernel_rfl))
  f152:=Tryz.func175.trans (congrArg some (by kernel_rfl))
  f162:=Tryz.func56.trans (congrArg some (by kernel_rfl))
  f197:=Tryz.func130.trans (congrArg some (by kernel_rfl))
  f217:=Tryz.func225.trans (congrArg some (by kernel_rfl))
  f224:=Tryz.func212.trans (congrArg some (by kernel_rfl))
  f225:=Tryz.func213.trans (congrArg some (by kernel_rfl))
  f227:=Tryz.func85.trans (congrArg some (by kernel_rfl))
  f228:=Tryz.func127.trans (congrArg some (by kernel_rfl))
  f232:=Tryz.func84.trans (congrArg some (by kernel_rfl))
  f234:=Tryz.func86.trans (congrArg some (by kernel_rfl))
  f236:=Tryz.func87.trans (congrArg some (by kernel_rfl))
  f260:=Tryz.func176.trans (congrArg some (by kernel_rfl))
  f266:=Tryz.func231.trans (congrArg some (by kernel_rfl))
  f271:=Tryz.func128.trans (congrArg some (by kernel_rfl))
  t0:=Tryz.underlying0
  a0:=Tryz.isAgg0
  z0:=Tryz.sizeOf0
  v0:=Tryz.zeroValue0
  t3:=Tryz.underlying3
  a3:=Tryz.isAgg3
  z3:=Tryz.sizeOf3
  v3:=Tryz.zeroValue3
  t4:=Tryz.underlying4
  a4:=Tryz.isAgg4
  z4:=Tryz.sizeOf4
  v4:=Tryz.zeroValue4
  t5:=Tryz.underlying5
  a5:=Tryz.isAgg5
  z5:=Tryz.sizeOf5
  v5:=Tryz.zeroValue5
  t9:=Tryz.underlying9
  a9:=Tryz.isAgg9
  z9:=Tryz.sizeOf9
  v9:=Tryz.zeroValue9
  t21:=Tryz.underlying21
  a21:=Tryz.isAgg21
  z21:=Tryz.sizeOf21
  v21:=Tryz.zeroValue21
  t46:=Tryz.underlying129
  a46:=Tryz.isAgg129
  z46:=Tryz.sizeOf129
  v46:=Tryz.zeroValue129
  t105:=Tryz.underlying189
  a105:=Tryz.isAgg189
  z105:=Tryz.sizeOf189
  v105:=Tryz.zeroValue189
  t116:=Tryz.underlying140
  a116:=Tryz.isAgg140
  z116:=Tryz.sizeOf140
  t117:=Tryz.underlying141
  a117:=Tryz.isAgg141
  z117:=Tryz.sizeOf141
  v117:=Tryz.zeroValue141
  t119:=Tryz.underlying253
  a119:=Tryz.isAgg253
  z119:=Tryz.sizeOf253
  t124:=Tryz.underlying144
  a124:=Tryz.isAgg144
  z124:=Tryz.sizeOf144
  v124:=Tryz.zeroValue144
  t138:=Tryz.underlying255
  a138:=Tryz.isAgg255
  z138:=Tryz.sizeOf255
  v138:=Tryz.zeroValue255
  t139:=Tryz.underlying256
  a139:=Tryz.isAgg256
  z139:=Tryz.sizeOf256
  v139:=Tryz.zeroValue256
  g3:=by kernel_rfl
  g4:=by kernel_rfl }
def Tryz.laysM171_ren:Go.Shelf.Ren:=⟨fun | 171=>26 | 243=>52 | 246=>81 | 283=>121 | 284=>122 | 285=>123 | 286=>124 | 129=>141 | 317=>170 | 318=>171 | 319=>172 | 320=>173 | 337=>208 | 338=>209 | n=>n,fun | 3=>3 | 9=>9 | 2=>2 | 4=>4 | 171=>180 | 0=>0 | 53=>175 | 37=>63 | 5=>5 | 173=>183 | 212=>226 | 51=>172 | 20=>20 | 213=>227 | 46=>129 | 232=>269 | 233=>270 | n=>n,fun | 17=>1 | 18=>5 | 19=>6 | n=>n⟩
theorem Tryz.laysM171:Go.Proofs.LaysM.n171 Tryz.prog Tryz.laysM171_ren:={
  mixed:=by kernel_rfl
  f129:=Tryz.func141.trans (congrArg some (by kernel_rfl))
  f171:=Tryz.func26.trans (congrArg some (by kernel_rfl))
  f243:=Tryz.func52.trans (congrArg some (by kernel_rfl))
  f246:=Tryz.func81.trans (congrArg some (by kernel_rfl))
  f283:=Tryz.func121.trans (congrArg some (by kernel_rfl))
  f284:=Tryz.func122.trans (congrArg some (by kernel_rfl))
  f285:=Tryz.func123.trans (congrArg some (by kernel_rfl))
  f286:=Tryz.func124.trans (congrArg some (by kernel_rfl))
  f317:=Tryz.func170.trans (congrArg some (by kernel_rfl))
  f318:=Tryz.func171.trans (congrArg some (by kernel_rfl))
  f319:=Tryz.func172.trans (congrArg some (by kernel_rfl))
  f320:=Tryz.func173.trans (congrArg some (by kernel_rfl))
  f337:=Tryz.func208.trans (congrArg some (by kernel_rfl))
  f338:=Tryz.func209.trans (congrArg some (by kernel_rfl))
  t0:=Tryz.underlying0
  a0:=Tryz.isAgg0
  z0:=Tryz.sizeOf0
  v0:=Tryz.zeroValue0
  t2:=Tryz.underlying2
  a2:=Tryz.isAgg2
  z2:=Tryz.sizeOf2
  v2:=Tryz.zeroValue2
  t3:=Tryz.underlying3
  a3:=Tryz.isAgg3
  z3:=Tryz.sizeOf3
  v3:=Tryz.zeroValue3
  t4:=Tryz.underlying4
  a4:=Tryz.isAgg4
  z4:=Tryz.sizeOf4
  v4:=Tryz.zeroValue4
  t5:=Tryz.underlying5
  a5:=Tryz.isAgg5
  z5:=Tryz.sizeOf5
  v5:=Tryz.zeroValue5
  t9:=Tryz.underlying9
  a9:=Tryz.isAgg9
  z9:=Tryz.sizeOf9
  v9:=Tryz.zeroValue9
  t20:=Tryz.underlying20
  a20:=Tryz.isAgg20
  z20:=Tryz.sizeOf20
  v20:=Tryz.zeroValue20
  t37:=Tryz.underlying63
  a37:=Tryz.isAgg63
  z37:=Tryz.sizeOf63
  v37:=Tryz.zeroValue63
  t46:=Tryz.underlying129
  a46:=Tryz.isAgg129
  z46:=Tryz.sizeOf129
  v46:=Tryz.zeroValue129
  t51:=Tryz.underlying172
  a51:=Tryz.isAgg172
  z51:=Tryz.sizeOf172
  v51:=Tryz.zeroValue172
  t53:=Tryz.underlying175
  a53:=Tryz.isAgg175
  z53:=Tryz.sizeOf175
  v53:=Tryz.zeroValue175
  t171:=Tryz.underlying180
  a171:=Tryz.isAgg180
  z171:=Tryz.sizeOf180
  v171:=Tryz.zeroValue180
  t173:=Tryz.underlying183
  a173:=Tryz.isAgg183
  z173:=Tryz.sizeOf183
  v173:=Tryz.zeroValue183
  t212:=Tryz.underlying226
  a212:=Tryz.isAgg226
  z212:=Tryz.sizeOf226
  v212:=Tryz.zeroValue226
  t213:=Tryz.underlying227
  a213:=Tryz.isAgg227
  z213:=Tryz.sizeOf227
  t232:=Tryz.underlying269
  a232:=Tryz.isAgg269
  z232:=Tryz.sizeOf269
  v232:=Tryz.zeroValue269
  t233:=Tryz.underlying270
  a233:=Tryz.isAgg270
  z233:=Tryz.sizeOf270
  v233:=Tryz.zeroValue270
  g17:=by kernel_rfl
  g18:=by kernel_rfl
  g19:=by kernel_rfl
  i0:=by kernel_rfl
  i2:=by kernel_rfl
  i3:=by kernel_rfl
  i4:=by kernel_rfl
  i5:=by kernel_rfl
  i9:=by kernel_rfl
  i20:=by kernel_rfl
  i37:=by kernel_rfl
  i46:=by kernel_rfl
  i51:=by kernel_rfl
  i53:=by kernel_rfl
  i171:=by kernel_rfl
  i173:=by kernel_rfl
  i212:=by kernel_rfl
  i232:=by kernel_rfl
  i233:=by kernel_rfl
  m17:=by kernel_rfl
  m18:=by kernel_rfl
  m19:=by kernel_rfl }
open Go.RowKit Go.Sort Go.Lib in
theorem Tryz.strconv_Itoa (n : Int) (h0 : -9223372036854775808 ≤ n) (h1 : n ≤ 9223372036854775807) (w : World) (htab : Lib.TabIs Tryz.prog w "internal/strconv.uint64pow10" .u64 Lib.pow10Tab) :
    Calls Tryz.prog 26 #[.int .i64 n] w fun e w'=>e = .returned (.string ⟨(Lib.itoa n).toArray⟩) ∧ ∃ k os,w' = grow (w.drewN k) os:=Any.strconv_Itoa Tryz.laysM171 n h0 h1 w htab
def Tryz.lays189_ren:Go.Shelf.Ren:=⟨fun | 189=>79 | 125=>93 | 257=>120 | 128=>140 | 129=>141 | 294=>161 | 295=>162 | 296=>163 | 297=>164 | 298=>165 | 299=>166 | 216=>167 | 300=>168 | 301=>169 | 328=>204 | 329=>178 | 330=>179 | 331=>205 | 332=>206 | 215=>207 | 343=>224 | n=>n,fun | 28=>22 | 3=>3 | 46=>129 | 0=>0 | 51=>172 | 53=>175 | 4=>4 | 183=>194 | 182=>193 | 131=>198 | 5=>5 | 9=>9 | 218=>229 | 222=>233 | 228=>257 | 229=>258 | n=>n,fun | n=>n⟩
theorem Tryz.lays189:Go.Proofs.Lays.n189 Tryz.prog Tryz.lays189_ren:={
  mixed:=by kernel_rfl
  f125:=Tryz.func93.trans (congrArg some (by kernel_rfl))
  f128:=Tryz.func140.trans (congrArg some (by kernel_rfl))
  f129:=Tryz.func141.trans (congrArg some (by kernel_rfl))
  f189:=Tryz.func79.trans (congrArg some (by kernel_rfl))
  f215:=Tryz.func207.trans (congrArg some (by kernel_rfl))
  f216:=Tryz.func167.trans (congrArg some (by kernel_rfl))
  f257:=Tryz.func120.trans (congrArg some (by kernel_rfl))
  f294:=Tryz.func161.trans (congrArg some (by kernel_rfl))
  f295:=Tryz.func162.trans (congrArg some (by kernel_rfl))
  f296:=Tryz.func163.trans (congrArg some (by kernel_rfl))
  f297:=Tryz.func164.trans (congrArg some (by kernel_rfl))
  f298:=Tryz.func165.trans (congrArg some (by kernel_rfl))
  f299:=Tryz.func166.trans (congrArg some (by kernel_rfl))
  f300:=Tryz.func168.trans (congrArg some (by kernel_rfl))
  f301:=Tryz.func169.trans (congrArg some (by kernel_rfl))
  f328:=Tryz.func204.trans (congrArg some (by kernel_rfl))
  f329:=Tryz.func178.trans (congrArg some (by kernel_rfl))
  f330:=Tryz.func179.trans (congrArg some (by kernel_rfl))
  f331:=Tryz.func205.trans (congrArg some (by kernel_rfl))
  f332:=Tryz.func206.trans (congrArg some (by kernel_rfl))
  f343:=Tryz.func224.trans (congrArg some (by kernel_rfl))
  t0:=Tryz.underlying0
  a0:=Tryz.isAgg0
  z0:=Tryz.sizeOf0
  v0:=Tryz.zeroValue0
  t3:=Tryz.underlying3
  a3:=Tryz.isAgg3
  z3:=Tryz.sizeOf3
  v3:=Tryz.zeroValue3
  t4:=Tryz.underlying4
  a4:=Tryz.isAgg4
  z4:=Tryz.sizeOf4
  v4:=Tryz.zeroValue4
  t5:=Tryz.underlying5
  a5:=Tryz.isAgg5
  z5:=Tryz.sizeOf5
  v5:=Tryz.zeroValue5
  t9:=Tryz.underlying9
  a9:=Tryz.isAgg9
  z9:=Tryz.sizeOf9
  v9:=Tryz.zeroValue9
  t28:=Tryz.underlying22
  a28:=Tryz.isAgg22
  z28:=Tryz.sizeOf22
  v28:=Tryz.zeroValue22
  t46:=Tryz.underlying129
  a46:=Tryz.isAgg129
  z46:=Tryz.sizeOf129
  v46:=Tryz.zeroValue129
  t51:=Tryz.underlying172
  a51:=Tryz.isAgg172
  z51:=Tryz.sizeOf172
  v51:=Tryz.zeroValue172
  t53:=Tryz.underlying175
  a53:=Tryz.isAgg175
  z53:=Tryz.sizeOf175
  v53:=Tryz.zeroValue175
  t131:=Tryz.underlying198
  a131:=Tryz.isAgg198
  z131:=Tryz.sizeOf198
  v131:=Tryz.zeroValue198
  t182:=Tryz.underlying193
  a182:=Tryz.isAgg193
  z182:=Tryz.sizeOf193
  v182:=Tryz.zeroValue193
  t183:=Tryz.underlying194
  a183:=Tryz.isAgg194
  z183:=Tryz.sizeOf194
  v183:=Tryz.zeroValue194
  t218:=Tryz.underlying229
  a218:=Tryz.isAgg229
  z218:=Tryz.sizeOf229
  v218:=Tryz.zeroValue229
  t222:=Tryz.underlying233
  a222:=Tryz.isAgg233
  z222:=Tryz.sizeOf233
  v222:=Tryz.zeroValue233
  t228:=Tryz.underlying257
  a228:=Tryz.isAgg257
  z228:=Tryz.sizeOf257
  v228:=Tryz.zeroValue257
  t229:=Tryz.underlying258
  a229:=Tryz.isAgg258
  z229:=Tryz.sizeOf258
  v229:=Tryz.zeroValue258 }
open Go.Sort Go.RowKit in
theorem Tryz.slices_Sort_int (blk off cap : Nat) (zs : List Int) (w : World) (hH : Holds (Value.int .i64) w blk off zs.toArray) (hblk : blk < w.heap.size) (hsz : zs.length < 4611686018427387904) :
    Calls Tryz.prog 79 #[.slice (some ⟨blk,off,none⟩) zs.length cap] w fun e w' =>
      e = .returned (.tuple #[]) ∧ ∃ n os,w' = grow (putRow (Value.int .i64) (Sort.ahead w n) blk off (zs.mergeSort fun x y=>decide (x ≤ y)).toArray) os:=Any.slices_Sort_int Tryz.lays189 blk off cap zs w hH hblk hsz
def Tryz.lays190_ren:Go.Shelf.Ren:=⟨fun | 190=>59 | 125=>93 | 258=>92 | 128=>140 | 129=>141 | 302=>131 | 303=>132 | 304=>133 | 305=>134 | 306=>135 | 307=>136 | 308=>137 | 309=>138 | 310=>139 | 333=>177 | 329=>178 | 330=>179 | 334=>180 | 335=>181 | 336=>182 | 344=>214 | n=>n,fun | 31=>38 | 9=>9 | 3=>3 | 46=>129 | 0=>0 | 51=>172 | 53=>175 | 4=>4 | 183=>194 | 182=>193 | 131=>198 | 5=>5 | 218=>229 | 222=>233 | 228=>257 | 229=>258 | n=>n,fun | n=>n⟩
theorem Tryz.lays190:Go.Proofs.Lays.n190 Tryz.prog Tryz.lays190_ren:={
  mixed:=by kernel_rfl
  f125:=Tryz.func93.trans (congrArg some (by kernel_rfl))
  f128:=Tryz.func140.trans (congrArg some (by kernel_rfl))
  f129:=Tryz.func141.trans (congrArg some (by kernel_rfl))
  f190:=Tryz.func59.trans (congrArg some (by kernel_rfl))
  f258:=Tryz.func92.trans (congrArg some (by kernel_rfl))
  f302:=Tryz.func131.trans (congrArg some (by kernel_rfl))
  f303:=Tryz.func132.trans (congrArg some (by kernel_rfl))
  f304:=Tryz.func133.trans (congrArg some (by kernel_rfl))
  f305:=Tryz.func134.trans (congrArg some (by kernel_rfl))
  f306:=Tryz.func135.trans (congrArg some (by kernel_rfl))
  f307:=Tryz.func136.trans (congrArg some (by kernel_rfl))
  f308:=Tryz.func137.trans (congrArg some (by kernel_rfl))
  f309:=Tryz.func138.trans (congrArg some (by kernel_rfl))
  f310:=Tryz.func139.trans (congrArg some (by kernel_rfl))
  f329:=Tryz.func178.trans (congrArg some (by kernel_rfl))
  f330:=Tryz.func179.trans (congrArg some (by kernel_rfl))
  f333:=Tryz.func177.trans (congrArg some (by kernel_rfl))
  f334:=Tryz.func180.trans (congrArg some (by kernel_rfl))
  f335:=Tryz.func181.trans (congrArg some (by kernel_rfl))
  f336:=Tryz.func182.trans (congrArg some (by kernel_rfl))
  f344:=Tryz.func214.trans (congrArg some (by kernel_rfl))
  t0:=Tryz.underlying0
  a0:=Tryz.isAgg0
  z0:=Tryz.sizeOf0
  v0:=Tryz.zeroValue0
  t3:=Tryz.underlying3
  a3:=Tryz.isAgg3
  z3:=Tryz.sizeOf3
  v3:=Tryz.zeroValue3
  t4:=Tryz.underlying4
  a4:=Tryz.isAgg4
  z4:=Tryz.sizeOf4
  v4:=Tryz.zeroValue4
  t5:=Tryz.underlying5
  a5:=Tryz.isAgg5
  z5:=Tryz.sizeOf5
  v5:=Tryz.zeroValue5
  t9:=Tryz.underlying9
  a9:=Tryz.isAgg9
  z9:=Tryz.sizeOf9
  v9:=Tryz.zeroValue9
  t31:=Tryz.underlying38
  a31:=Tryz.isAgg38
  z31:=Tryz.sizeOf38
  v31:=Tryz.zeroValue38
  t46:=Tryz.underlying129
  a46:=Tryz.isAgg129
  z46:=Tryz.sizeOf129
  v46:=Tryz.zeroValue129
  t51:=Tryz.underlying172
  a51:=Tryz.isAgg172
  z51:=Tryz.sizeOf172
  v51:=Tryz.zeroValue172
  t53:=Tryz.underlying175
  a53:=Tryz.isAgg175
  z53:=Tryz.sizeOf175
  v53:=Tryz.zeroValue175
  t131:=Tryz.underlying198
  a131:=Tryz.isAgg198
  z131:=Tryz.sizeOf198
  v131:=Tryz.zeroValue198
  t182:=Tryz.underlying193
  a182:=Tryz.isAgg193
  z182:=Tryz.sizeOf193
  v182:=Tryz.zeroValue193
  t183:=Tryz.underlying194
  a183:=Tryz.isAgg194
  z183:=Tryz.sizeOf194
  v183:=Tryz.zeroValue194
  t218:=Tryz.underlying229
  a218:=Tryz.isAgg229
  z218:=Tryz.sizeOf229
  v218:=Tryz.zeroValue229
  t222:=Tryz.underlying233
  a222:=Tryz.isAgg233
  z222:=Tryz.sizeOf233
  v222:=Tryz.zeroValue233
  t228:=Tryz.underlying257
  a228:=Tryz.isAgg257
  z228:=Tryz.sizeOf257
  v228:=Tryz.zeroValue257
  t229:=Tryz.underlying258
  a229:=Tryz.isAgg258
  z229:=Tryz.sizeOf258
  v229:=Tryz.zeroValue258 }
open Go.Sort Go.RowKit in
theorem Tryz.slices_Sort_string (blk off cap : Nat) (ss : List (List UInt8)) (w : World) (hH : Holds encStr w blk off ss.toArray) (hblk : blk < w.heap.size) (hsz : ss.length < 4611686018427387904) :
    Calls Tryz.prog 59 #[.slice (some ⟨blk,off,none⟩) ss.length cap] w fun e w' =>
      e = .returned (.tuple #[]) ∧ ∃ n os,w' = grow (putRow encStr (Sort.ahead w n) blk off (ss.mergeSort fun x y=>decide (x ≤ y)).toArray) os:=Any.slices_Sort_string Tryz.lays190 blk off cap ss w hH hblk hsz
def Tryz.lays105_ren:Go.Shelf.Ren:=⟨fun | 105=>48 | 212=>75 | 99=>76 | 165=>53 | 166=>54 | 170=>77 | 169=>55 | 263=>116 | 264=>117 | 206=>118 | 240=>82 | 241=>83 | 276=>125 | 277=>126 | n=>n,fun | 9=>9 | 3=>3 | 4=>4 | 20=>20 | 0=>0 | 46=>129 | 109=>130 | 5=>5 | 72=>101 | 76=>105 | 51=>172 | 146=>173 | 53=>175 | 148=>176 | 70=>99 | 37=>63 | 75=>104 | 127=>137 | 164=>185 | 80=>107 | n=>n,fun | n=>n⟩
theorem Tryz.lays105:Go.Proofs.Lays.n105 Tryz.prog Tryz.lays105_ren:={
  mixed:=by kernel_rfl
  f99:=Tryz.func76.trans (congrArg some (by kernel_rfl))
  f105:=Tryz.func48.trans (congrArg some (by kernel_rfl))
  f165:=Tryz.func53.trans (congrArg some (by kernel_rfl))
  f166:=Tryz.func54.trans (congrArg some (by kernel_rfl))
  f169:=Tryz.func55.trans (congrArg some (by kernel_rfl))
  f170:=Tryz.func77.trans (congrArg some (by kernel_rfl))
  f206:=Tryz.func118.trans (congrArg some (by kernel_rfl))
  f212:=Tryz.func75.trans (congrArg some (by kernel_rfl))
  f240:=Tryz.func82.trans (congrArg some (by kernel_rfl))
  f241:=Tryz.func83.trans (congrArg some (by kernel_rfl))
  f263:=Tryz.func116.trans (congrArg some (by kernel_rfl))
  f264:=Tryz.func117.trans (congrArg some (by kernel_rfl))
  f276:=Tryz.func125.trans (congrArg some (by kernel_rfl))
  f277:=Tryz.func126.trans (congrArg some (by kernel_rfl))
  t0:=Tryz.underlying0
  a0:=Tryz.isAgg0
  z0:=Tryz.sizeOf0
  v0:=Tryz.zeroValue0
  t3:=Tryz.underlying3
  a3:=Tryz.isAgg3
  z3:=Tryz.sizeOf3
  v3:=Tryz.zeroValue3
  t4:=Tryz.underlying4
  a4:=Tryz.isAgg4
  z4:=Tryz.sizeOf4
  v4:=Tryz.zeroValue4
  t5:=Tryz.underlying5
  a5:=Tryz.isAgg5
  z5:=Tryz.sizeOf5
  v5:=Tryz.zeroValue5
  t9:=Tryz.underlying9
  a9:=Tryz.isAgg9
  z9:=Tryz.sizeOf9
  v9:=Tryz.zeroValue9
  t20:=Tryz.underlying20
  a20:=Tryz.isAgg20
  z20:=Tryz.sizeOf20
  v20:=Tryz.zeroValue20
  t37:=Tryz.underlying63
  a37:=Tryz.isAgg63
  z37:=Tryz.sizeOf63
  v37:=Tryz.zeroValue63
  t46:=Tryz.underlying129
  a46:=Tryz.isAgg129
  z46:=Tryz.sizeOf129
  v46:=Tryz.zeroValue129
  t51:=Tryz.underlying172
  a51:=Tryz.isAgg172
  z51:=Tryz.sizeOf172
  v51:=Tryz.zeroValue172
  t53:=Tryz.underlying175
  a53:=Tryz.isAgg175
  z53:=Tryz.sizeOf175
  v53:=Tryz.zeroValue175
  t70:=Tryz.underlying99
  a70:=Tryz.isAgg99
  z70:=Tryz.sizeOf99
  v70:=Tryz.zeroValue99
  t72:=Tryz.underlying101
  a72:=Tryz.isAgg101
  z72:=Tryz.sizeOf101
  v72:=Tryz.zeroValue101
  t75:=Tryz.underlying104
  a75:=Tryz.isAgg104
  z75:=Tryz.sizeOf104
  v75:=Tryz.zeroValue104
  t76:=Tryz.underlying105
  a76:=Tryz.isAgg105
  z76:=Tryz.sizeOf105
  v76:=Tryz.zeroValue105
  t109:=Tryz.underlying130
  a109:=Tryz.isAgg130
  z109:=Tryz.sizeOf130
  v109:=Tryz.zeroValue130
  t127:=Tryz.underlying137
  a127:=Tryz.isAgg137
  z127:=Tryz.sizeOf137
  v127:=Tryz.zeroValue137
  t146:=Tryz.underlying173
  a146:=Tryz.isAgg173
  z146:=Tryz.sizeOf173
  v146:=Tryz.zeroValue173
  t148:=Tryz.underlying176
  a148:=Tryz.isAgg176
  z148:=Tryz.sizeOf176
  v148:=Tryz.zeroValue176
  t164:=Tryz.underlying185
  a164:=Tryz.isAgg185
  z164:=Tryz.sizeOf185
  v164:=Tryz.zeroValue185 }
theorem Tryz.Builder_Extra_105:Builder.Extra Tryz.prog Tryz.lays105_ren:={
  sizeBuilder:=by kernel_rfl
  liesBuilder:=by kernel_rfl
  t5:=Tryz.underlying5
  a5:=Tryz.isAgg5
  z5:=Tryz.sizeOf5
  v5:=Tryz.zeroValue5
  infoByte:=by kernel_rfl
  cellsByte:=by kernel_rfl
  sizeByte:=by kernel_rfl
  neB5:=by decide }
open Go.RowKit Go.Lib in
theorem Tryz.strings_Repeat (s : ByteArray) (c : Nat) (w : World) (hc : c ≤ 9223372036854775807) (hlen : s.size * c ≤ 140737488355328) :
    Calls Tryz.prog 48 #[.string s,.int .i64 c] w fun e w'=>e = .returned (.string ⟨(Lib.repeatL s.data.toList c).toArray⟩) ∧ Below w.heap.size w w':=Any.strings_Repeat Tryz.lays105 Tryz.Builder_Extra_105 s c w hc hlen
def Tryz.lays229_ren:Go.Shelf.Ren:=⟨fun | 229=>36 | n=>n,fun | 9=>9 | 40=>75 | 31=>38 | 152=>114 | 3=>3 | 0=>0 | 4=>4 | 21=>21 | 154=>116 | n=>n,fun | n=>n⟩
theorem Tryz.lays229:Go.Proofs.Lays.n229 Tryz.prog Tryz.lays229_ren:={
  mixed:=by kernel_rfl
  f229:=Tryz.func36.trans (congrArg some (by kernel_rfl))
  t0:=Tryz.underlying0
  a0:=Tryz.isAgg0
  z0:=Tryz.sizeOf0
  v0:=Tryz.zeroValue0
  t3:=Tryz.underlying3
  a3:=Tryz.isAgg3
  z3:=Tryz.sizeOf3
  v3:=Tryz.zeroValue3
  t4:=Tryz.underlying4
  a4:=Tryz.isAgg4
  z4:=Tryz.sizeOf4
  v4:=Tryz.zeroValue4
  t9:=Tryz.underlying9
  a9:=Tryz.isAgg9
  z9:=Tryz.sizeOf9
  v9:=Tryz.zeroValue9
  t21:=Tryz.underlying21
  a21:=Tryz.isAgg21
  z21:=Tryz.sizeOf21
  v21:=Tryz.zeroValue21
  t31:=Tryz.underlying38
  a31:=Tryz.isAgg38
  z31:=Tryz.sizeOf38
  v31:=Tryz.zeroValue38
  t40:=Tryz.underlying75
  a40:=Tryz.isAgg75
  z40:=Tryz.sizeOf75
  v40:=Tryz.zeroValue75
  t152:=Tryz.underlying114
  a152:=Tryz.isAgg114
  z152:=Tryz.sizeOf114
  v152:=Tryz.zeroValue114
  t154:=Tryz.underlying116
  a154:=Tryz.isAgg116
  z154:=Tryz.sizeOf116
  v154:=Tryz.zeroValue116 }
open Go.RowKit Go.Lib in
theorem Tryz.strings_FieldsFunc_grows (g : Nat) (lb : Array Value) (eg : ∀ args w, (callFunc g args).run Tryz.prog w = .ok (.enter g args) w) (p : Nat → Bool) (s : ByteArray) (w : World) (hs : s.size ≤ 4294967296) (hp : PredGrows Tryz.prog g lb p w) :
    Calls Tryz.prog 36 #[.string s,.func (.func g) #[] lb] w fun e w'=>∃ A,e = .returned (.slice (some ⟨A,0,none⟩) (Lib.goFieldsP p s).length (Lib.goFieldsP p s).length) ∧ w.heap.size ≤ A ∧
      w'.ownsRow w.heap.size 9 1 (.slice (some ⟨A,0,none⟩) (Lib.goFieldsP p s).length (Lib.goFieldsP p s).length) (Lib.goFieldsP p s).length ((Lib.goFieldsP p s).map Value.string) ∧ Below w.heap.size w w':=Any.strings_FieldsFunc_grows Tryz.lays229 g lb eg p s w hs hp (by kernel_rfl) (by kernel_rfl)
def Tryz.laysNm220_ren:Go.Shelf.Ren:=⟨fun | 20=>49 | n=>n,fun | 22=>22 | 3=>3 | 4=>4 | 0=>0 | n=>n,fun | n=>n⟩
theorem Tryz.laysNm220:Go.Proofs.Lays2.n20 Tryz.prog Tryz.laysNm220_ren:={
  mixed:=by kernel_rfl
  f20:=Tryz.func49.trans (congrArg some (by kernel_rfl))
  t0:=Tryz.underlying0
  a0:=Tryz.isAgg0
  z0:=Tryz.sizeOf0
  v0:=Tryz.zeroValue0
  t3:=Tryz.underlying3
  a3:=Tryz.isAgg3
  z3:=Tryz.sizeOf3
  v3:=Tryz.zeroValue3
  t4:=Tryz.underlying4
  a4:=Tryz.isAgg4
  z4:=Tryz.sizeOf4
  v4:=Tryz.zeroValue4
  t22:=Tryz.underlying22
  a22:=Tryz.isAgg22
  z22:=Tryz.sizeOf22
  v22:=Tryz.zeroValue22
  i3:=by kernel_rfl }
open Go.RowKit Go.Lib Go.Sort in
theorem Tryz.slices_Compact_int (blk off cap : Nat) (zs : List Int) (w : World) (hH : Holds (Value.int .i64) w blk off zs.toArray) (hsz : zs.length ≤ 9223372036854775807) (hcap : zs.length ≤ cap) :
    Calls Tryz.prog 49 #[.slice (some ⟨blk,off,none⟩) zs.length cap] w fun e w'=>e = .returned (.slice (some ⟨blk,off,none⟩) (Lib.compact zs).length cap) ∧ ∃ q,w' = putRow (Value.int .i64) (Sort.ahead w q) blk off (Lib.compact zs ++ List.replicate (zs.length - (Lib.compact zs).length) 0).toArray:=Any.slices_Compact_int Tryz.laysNm220 blk off cap zs w hH hsz hcap
open Go.RowKit Go.Lib Go.Sort in
theorem Tryz.slices_Compact_int_empty (a : Option Addr) (cap : Nat) (w : World) :
    Calls Tryz.prog 49 #[.slice a 0 cap] w fun e w'=>e = .returned (.slice a 0 cap) ∧ w' = w:=Any.slices_Compact_int_empty Tryz.laysNm220 a cap w
open Go.RowKit Go.Sort in
theorem Tryz.slices_Sort_string_none (p : Option Addr) (cap : Nat) (w : World) :
    Calls Tryz.prog 59 #[.slice p 0 cap] w fun e w'=>e = .returned (.tuple #[]) ∧ w' = w:=Any.slices_Sort_string_none Tryz.lays190 p cap w
open Go.RowKit Go.Sort in
theorem Tryz.slices_Sort_int_none (p : Option Addr) (cap : Nat) (w : World) :
    Calls Tryz.prog 79 #[.slice p 0 cap] w fun e w'=>e = .returned (.tuple #[]) ∧ w' = w:=Any.slices_Sort_int_none Tryz.lays189 p cap w
end Go.Proofs
