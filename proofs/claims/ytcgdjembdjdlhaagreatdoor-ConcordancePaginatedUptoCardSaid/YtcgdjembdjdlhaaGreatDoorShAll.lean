import Derived.Shelf.Strings.Builder1
import Derived.Shelf.Strings.Builder2
import Derived.Shelf.Strings.OnBuilder
import Derived.Shelf.Strings.Trim
import Derived.Shelf.Small.Utf8
import Derived.Shelf.Small.Bits
import Derived.Shelf.Small.Strs
import Derived.Shelf.Small.Wraps
import Derived.Shelf.Strings.BuilderF
import Derived.Shelf.Strings.BuilderK
import Derived.Shelf.Strings.Builder2Cap
import Derived.Shelf.Strconv.Itoa0
import Derived.Shelf.Strconv.Itoa1
import Derived.Shelf.LaysM
import Derived.Shelf.Strconv.Itoa2
import Derived.Shelf.Strconv.Itoa3
import Derived.Shelf.Strings.Search1
import Derived.Shelf.Sort.Plain
import Derived.Shelf.GgClosure.StringsIndexFunc
import Derived.Ground.GgwProg
import Derived.Shelf.GgClosure.StringsIndexFuncTop
import Derived.Shelf.GgClosure.StringsRunes
import Derived.Shelf.Strings.Prefix
import Derived.Shelf.Unicode.Decode
import Derived.Shelf.Strings.Runes
import Derived.Shelf.Strings.AsciiSet
import Derived.Shelf.Bits.Mul64
import Derived.Shelf.Strings.Repeat
import Derived.Shelf.Unicode.DecodeSlow
import Derived.Shelf.Unicode.DecodeAny
import Derived.Shelf.Unicode.DecodeLast
import Derived.Shelf.Strings.FieldsFuncAny
import Derived.Shelf.Strings.FuncGrows
import Derived.Shelf.Strings.FieldsFuncGrows
import Derived.Shelf.Strings.BuilderCap
import Derived.Shelf.Slices.Turned
import Derived.Shelf.Slices.Equal
import Derived.Ground.Names2Prog
import Derived.Shelf.Slices.CompactI
import Derived.Shelf.Slices.SearchI
import Derived.Shelf.Slices.Cells
import Derived.Shelf.Slices.In.SortNone
import Derived.Shelf.Slices.Empties2
import Derived.Test.YtcgdjembdjdlhaaGreatDoorChecked
namespace Go.Proofs
open Go.Shelf
def Tryz.lays156_ren:Go.Shelf.Ren:=⟨fun|156=>59|165=>102|166=>103|169=>104|240=>160|241=>161|276=>197|277=>198|n=>n,fun|31=>37|9=>9|3=>3|4=>4|0=>0|20=>20|72=>154|76=>158|70=>151|37=>152|75=>157|127=>199|164=>233|5=>5|80=>160|n=>n,fun|n=>n⟩
theorem Tryz.lays156:Go.Proofs.Lays.n156 Tryz.prog Tryz.lays156_ren:={
 mixed:=by kernel_rfl
 f156:=Tryz.func59.trans (congrArg some (by kernel_rfl))
 f165:=Tryz.func102.trans (congrArg some (by kernel_rfl))
 f166:=Tryz.func103.trans (congrArg some (by kernel_rfl))
 f169:=Tryz.func104.trans (congrArg some (by kernel_rfl))
 f240:=Tryz.func160.trans (congrArg some (by kernel_rfl))
 f241:=Tryz.func161.trans (congrArg some (by kernel_rfl))
 f276:=Tryz.func197.trans (congrArg some (by kernel_rfl))
 f277:=Tryz.func198.trans (congrArg some (by kernel_rfl))
 t0:=Tryz.underlying0
 a0:=Tryz.isAgg0
 z0:=Tryz.sizeOf0
 v0:=Tryz.zeroValue0
 t3:=Tryz.underlying3
 a3:=Tryz.isAgg3
 z3:=Tryz.sizeOf3
 v3:=Tryz.zeroValue3
 t4:=Tryz.underlying4
 a4:=Tryz.isAgg4
 z4:=Tryz.sizeOf4
 v4:=Tryz.zeroValue4
 t9:=Tryz.underlying9
 a9:=Tryz.isAgg9
 z9:=Tryz.sizeOf9
 v9:=Tryz.zeroValue9
 t20:=Tryz.underlying20
 a20:=Tryz.isAgg20
 z20:=Tryz.sizeOf20
 v20:=Tryz.zeroValue20
 t31:=Tryz.underlying37
 a31:=Tryz.isAgg37
 z31:=Tryz.sizeOf37
 v31:=Tryz.zeroValue37
 t37:=Tryz.underlying152
 a37:=Tryz.isAgg152
 z37:=Tryz.sizeOf152
 v37:=Tryz.zeroValue152
 t70:=Tryz.underlying151
 a70:=Tryz.isAgg151
 z70:=Tryz.sizeOf151
 v70:=Tryz.zeroValue151
 t72:=Tryz.underlying154
 a72:=Tryz.isAgg154
 z72:=Tryz.sizeOf154
 v72:=Tryz.zeroValue154
 t75:=Tryz.underlying157
 a75:=Tryz.isAgg157
 z75:=Tryz.sizeOf157
 v75:=Tryz.zeroValue157
 t76:=Tryz.underlying158
 a76:=Tryz.isAgg158
 z76:=Tryz.sizeOf158
 v76:=Tryz.zeroValue158
 t127:=Tryz.underlying199
 a127:=Tryz.isAgg199
 z127:=Tryz.sizeOf199
 v127:=Tryz.zeroValue199
 t164:=Tryz.underlying233
 a164:=Tryz.isAgg233
 z164:=Tryz.sizeOf233
 v164:=Tryz.zeroValue233 }
theorem Tryz.Builder_Extra_156:Builder.Extra Tryz.prog Tryz.lays156_ren:={
 sizeBuilder:=by kernel_rfl
 liesBuilder:=by kernel_rfl
 t5:=Tryz.underlying5
 a5:=Tryz.isAgg5
 z5:=Tryz.sizeOf5
 v5:=Tryz.zeroValue5
 infoByte:=by kernel_rfl
 cellsByte:=by kernel_rfl
 sizeByte:=by kernel_rfl
 neB5:=by decide }
open Go.RowKit in
theorem Tryz.strings_Join_none (a : Option Addr) (c : Nat) (sep : ByteArray) (w : World) :
  Calls Tryz.prog 59 #[.slice a 0 c,.string sep] w fun e w'=>e=.returned (.string ⟨#[]⟩)∧w'=w:=Any.strings_Join_none Tryz.lays156 Tryz.Builder_Extra_156 a c sep w
open Go.RowKit in
theorem Tryz.strings_Join (bk o c : Nat) (xs : List ByteArray) (sep : ByteArray) (w : World) (hcells : ∀ (j : Nat) x, xs[j]? = some x → w.cell? ⟨bk, o + j, none⟩ = some (.string x)) (hbk : bk < w.heap.size) (hN : xs.length ≤ 140737488355328) (hcap : xs.length ≤ c) (hlen : (Lib.join (xs.map (·.data.toList)) sep.data.toList).length ≤ 140737488355328) :
    Calls Tryz.prog 59 #[.slice (some ⟨bk,o,none⟩) xs.length c,.string sep] w fun e w'=>e=.returned (.string ⟨(Lib.join (xs.map (·.data.toList)) sep.data.toList).toArray⟩)∧Below w.heap.size w w':=Any.strings_Join Tryz.lays156 Tryz.Builder_Extra_156 bk o c xs sep w hcells hbk hN hcap hlen
def Tryz.lays161_ren:Go.Shelf.Ren:=⟨fun|161=>152|231=>189|227=>186|233=>190|235=>191|228=>217|197=>220|151=>219|260=>236|152=>235|137=>255|119=>256|224=>257|225=>258|217=>268|266=>272|n=>n,fun|9=>9|4=>4|3=>3|5=>5|117=>226|116=>225|0=>0|124=>229|105=>247|21=>21|119=>277|46=>89|139=>280|138=>279|n=>n,fun|3=>4|4=>5|n=>n⟩
theorem Tryz.lays161:Go.Proofs.Lays.n161 Tryz.prog Tryz.lays161_ren:={
 mixed:=by kernel_rfl
 f119:=Tryz.func256.trans (congrArg some (by kernel_rfl))
 f137:=Tryz.func255.trans (congrArg some (by kernel_rfl))
 f151:=Tryz.func219.trans (congrArg some (by kernel_rfl))
 f152:=Tryz.func235.trans (congrArg some (by kernel_rfl))
 f161:=Tryz.func152.trans (congrArg some (by kernel_rfl))
 f197:=Tryz.func220.trans (congrArg some (by kernel_rfl))
 f217:=Tryz.func268.trans (congrArg some (by kernel_rfl))
 f224:=Tryz.func257.trans (congrArg some (by kernel_rfl))
 f225:=Tryz.func258.trans (congrArg some (by kernel_rfl))
 f227:=Tryz.func186.trans (congrArg some (by kernel_rfl))
 f228:=Tryz.func217.trans (congrArg some (by kernel_rfl))
 f231:=Tryz.func189.trans (congrArg some (by kernel_rfl))
 f233:=Tryz.func190.trans (congrArg some (by kernel_rfl))
 f235:=Tryz.func191.trans (congrArg some (by kernel_rfl))
 f260:=Tryz.func236.trans (congrArg some (by kernel_rfl))
 f266:=Tryz.func272.trans (congrArg some (by kernel_rfl))
 t0:=Tryz.underlying0
 a0:=Tryz.isAgg0
 z0:=Tryz.sizeOf0
 v0:=Tryz.zeroValue0
 t3:=Tryz.underlying3
 a3:=Tryz.isAgg3
 z3:=Tryz.sizeOf3
 v3:=Tryz.zeroValue3
 t4:=Tryz.underlying4
 a4:=Tryz.isAgg4
 z4:=Tryz.sizeOf4
 v4:=Tryz.zeroValue4
 t5:=Tryz.underlying5
 a5:=Tryz.isAgg5
 z5:=Tryz.sizeOf5
 v5:=Tryz.zeroValue5
 t9:=Tryz.underlying9
 a9:=Tryz.isAgg9
 z9:=Tryz.sizeOf9
 v9:=Tryz.zeroValue9
 t21:=Tryz.underlying21
 a21:=Tryz.isAgg21
 z21:=Tryz.sizeOf21
 v21:=Tryz.zeroValue21
 t46:=Tryz.underlying89
 a46:=Tryz.isAgg89
 z46:=Tryz.sizeOf89
 v46:=Tryz.zeroValue89
 t105:=Tryz.underlying247
 a105:=Tryz.isAgg247
 z105:=Tryz.sizeOf247
 v105:=Tryz.zeroValue247
 t116:=Tryz.underlying225
 a116:=Tryz.isAgg225
 z116:=Tryz.sizeOf225
 t117:=Tryz.underlying226
 a117:=Tryz.isAgg226
 z117:=Tryz.sizeOf226
 v117:=Tryz.zeroValue226
 t119:=Tryz.underlying277
 a119:=Tryz.isAgg277
 z119:=Tryz.sizeOf277
 t124:=Tryz.underlying229
 a124:=Tryz.isAgg229
 z124:=Tryz.sizeOf229
 v124:=Tryz.zeroValue229
 t138:=Tryz.underlying279
 a138:=Tryz.isAgg279
 z138:=Tryz.sizeOf279
 v138:=Tryz.zeroValue279
 t139:=Tryz.underlying280
 a139:=Tryz.isAgg280
 z139:=Tryz.sizeOf280
 v139:=Tryz.zeroValue280
 g3:=by kernel_rfl
 g4:=by kernel_rfl }
open Go.RowKit in
theorem Tryz.strings_TrimLeft_one (s : ByteArray) (c : UInt8) (hc : c.toNat < 128) (w : World) :
  Calls Tryz.prog 152 #[.string s,.string ⟨#[c]⟩] w fun e w'=>e=.returned (.string ⟨(Lib.trimLeftB s.data.toList c).toArray⟩)∧w'=w:=Any.strings_TrimLeft_one Tryz.lays161 s c hc w
def Tryz.lays162_ren:Go.Shelf.Ren:=⟨fun|162=>151|232=>185|227=>186|234=>187|236=>188|228=>217|271=>218|151=>219|120=>234|197=>220|152=>235|260=>236|137=>255|119=>256|224=>257|225=>258|217=>268|266=>272|n=>n,fun|9=>9|4=>4|3=>3|5=>5|117=>226|116=>225|0=>0|124=>229|21=>21|105=>247|46=>89|119=>277|139=>280|138=>279|n=>n,fun|3=>4|4=>5|n=>n⟩
theorem Tryz.lays162:Go.Proofs.Lays.n162 Tryz.prog Tryz.lays162_ren:={
 mixed:=by kernel_rfl
 f119:=Tryz.func256.trans (congrArg some (by kernel_rfl))
 f120:=Tryz.func234.trans (congrArg some (by kernel_rfl))
 f137:=Tryz.func255.trans (congrArg some (by kernel_rfl))
 f151:=Tryz.func219.trans (congrArg some (by kernel_rfl))
 f152:=Tryz.func235.trans (congrArg some (by kernel_rfl))
 f162:=Tryz.func151.trans (congrArg some (by kernel_rfl))
 f197:=Tryz.func220.trans (congrArg some (by kernel_rfl))
 f217:=Tryz.func268.trans (congrArg some (by kernel_rfl))
 f224:=Tryz.func257.trans (congrArg some (by kernel_rfl))
 f225:=Tryz.func258.trans (congrArg some (by kernel_rfl))
 f227:=Tryz.func186.trans (congrArg some (by kernel_rfl))
 f228:=Tryz.func217.trans (congrArg some (by kernel_rfl))
 f232:=Tryz.func185.trans (congrArg some (by kernel_rfl))
 f234:=Tryz.func187.trans (congrArg some (by kernel_rfl))
 f236:=Tryz.func188.trans (congrArg some (by kernel_rfl))
 f260:=Tryz.func236.trans (congrArg some (by kernel_rfl))
 f266:=Tryz.func272.trans (congrArg some (by kernel_rfl))
 f271:=Tryz.func218.trans (congrArg some (by kernel_rfl))
 t0:=Tryz.underlying0
 a0:=Tryz.isAgg0
 z0:=Tryz.sizeOf0
 v0:=Tryz.zeroValue0
 t3:=Tryz.underlying3
 a3:=Tryz.isAgg3
 z3:=Tryz.sizeOf3
 v3:=Tryz.zeroValue3
 t4:=Tryz.underlying4
 a4:=Tryz.isAgg4
 z4:=Tryz.sizeOf4
 v4:=Tryz.zeroValue4
 t5:=Tryz.underlying5
 a5:=Tryz.isAgg5
 z5:=Tryz.sizeOf5
 v5:=Tryz.zeroValue5
 t9:=Tryz.underlying9
 a9:=Tryz.isAgg9
 z9:=Tryz.sizeOf9
 v9:=Tryz.zeroValue9
 t21:=Tryz.underlying21
 a21:=Tryz.isAgg21
 z21:=Tryz.sizeOf21
 v21:=Tryz.zeroValue21
 t46:=Tryz.underlying89
 a46:=Tryz.isAgg89
 z46:=Tryz.sizeOf89
 v46:=Tryz.zeroValue89
 t105:=Tryz.underlying247
 a105:=Tryz.isAgg247
 z105:=Tryz.sizeOf247
 v105:=Tryz.zeroValue247
 t116:=Tryz.underlying225
 a116:=Tryz.isAgg225
 z116:=Tryz.sizeOf225
 t117:=Tryz.underlying226
 a117:=Tryz.isAgg226
 z117:=Tryz.sizeOf226
 v117:=Tryz.zeroValue226
 t119:=Tryz.underlying277
 a119:=Tryz.isAgg277
 z119:=Tryz.sizeOf277
 t124:=Tryz.underlying229
 a124:=Tryz.isAgg229
 z124:=Tryz.sizeOf229
 v124:=Tryz.zeroValue229
 t138:=Tryz.underlying279
 a138:=Tryz.isAgg279
 z138:=Tryz.sizeOf279
 v138:=Tryz.zeroValue279
 t139:=Tryz.underlying280
 a139:=Tryz.isAgg280
 z139:=Tryz.sizeOf280
 v139:=Tryz.zeroValue280
 g3:=by kernel_rfl
 g4:=by kernel_rfl }
def Tryz.lays103_ren:Go.Shelf.Ren:=⟨fun|103=>171|210=>209|206=>184|n=>n,fun|9=>9|4=>4|24=>111|3=>3|n=>n,fun|n=>n⟩
theorem Tryz.lays103:Go.Proofs.Lays.n103 Tryz.prog Tryz.lays103_ren:={
 mixed:=by kernel_rfl
 f103:=Tryz.func171.trans (congrArg some (by kernel_rfl))
 f206:=Tryz.func184.trans (congrArg some (by kernel_rfl))
 f210:=Tryz.func209.trans (congrArg some (by kernel_rfl))
 t3:=Tryz.underlying3
 a3:=Tryz.isAgg3
 z3:=Tryz.sizeOf3
 v3:=Tryz.zeroValue3
 t4:=Tryz.underlying4
 a4:=Tryz.isAgg4
 z4:=Tryz.sizeOf4
 v4:=Tryz.zeroValue4
 t9:=Tryz.underlying9
 a9:=Tryz.isAgg9
 z9:=Tryz.sizeOf9
 v9:=Tryz.zeroValue9
 t24:=Tryz.underlying111
 a24:=Tryz.isAgg111
 z24:=Tryz.sizeOf111
 v24:=Tryz.zeroValue111 }
open Go.RowKit in
theorem Tryz.strings_CutPrefix (s p : ByteArray) (w : World) :
  Calls Tryz.prog 171 #[.string s,.string p] w fun e w'=>e=.returned (.tuple #[.string ⟨(Lib.trimPrefix s.data.toList p.data.toList).toArray⟩,.bool (Lib.hasPrefix s.data.toList p.data.toList)])∧w'=w:=Any.strings_CutPrefix Tryz.lays103 s p w
def Tryz.laysM171_ren:Go.Shelf.Ren:=⟨fun|171=>98|243=>158|246=>196|283=>223|284=>224|285=>225|286=>226|129=>91|317=>246|318=>247|319=>248|320=>249|337=>263|338=>264|n=>n,fun|3=>3|9=>9|2=>2|4=>4|171=>252|0=>0|53=>139|37=>152|5=>5|173=>254|212=>270|51=>137|20=>20|213=>271|46=>89|232=>285|233=>286|n=>n,fun|17=>2|18=>6|19=>7|n=>n⟩
theorem Tryz.laysM171:Go.Proofs.LaysM.n171 Tryz.prog Tryz.laysM171_ren:={
 mixed:=by kernel_rfl
 f129:=Tryz.func91.trans (congrArg some (by kernel_rfl))
 f171:=Tryz.func98.trans (congrArg some (by kernel_rfl))
 f243:=Tryz.func158.trans (congrArg some (by kernel_rfl))
 f246:=Tryz.func196.trans (congrArg some (by kernel_rfl))
 f283:=Tryz.func223.trans (congrArg some (by kernel_rfl))
 f284:=Tryz.func224.trans (congrArg some (by kernel_rfl))
 f285:=Tryz.func225.trans (congrArg some (by kernel_rfl))
 f286:=Tryz.func226.trans (congrArg some (by kernel_rfl))
 f317:=Tryz.func246.trans (congrArg some (by kernel_rfl))
 f318:=Tryz.func247.trans (congrArg some (by kernel_rfl))
 f319:=Tryz.func248.trans (congrArg some (by kernel_rfl))
 f320:=Tryz.func249.trans (congrArg some (by kernel_rfl))
 f337:=Tryz.func263.trans (congrArg some (by kernel_rfl))
 f338:=Tryz.func264.trans (congrArg some (by kernel_rfl))
 t0:=Tryz.underlying0
 a0:=Tryz.isAgg0
 z0:=Tryz.sizeOf0
 v0:=Tryz.zeroValue0
 t2:=Tryz.underlying2
 a2:=Tryz.isAgg2
 z2:=Tryz.sizeOf2
 v2:=Tryz.zeroValue2
 t3:=Tryz.underlying3
 a3:=Tryz.isAgg3
 z3:=Tryz.sizeOf3
 v3:=Tryz.zeroValue3
 t4:=Tryz.underlying4
 a4:=Tryz.isAgg4
 z4:=Tryz.sizeOf4
 v4:=Tryz.zeroValue4
 t5:=Tryz.underlying5
 a5:=Tryz.isAgg5
 z5:=Tryz.sizeOf5
 v5:=Tryz.zeroValue5
 t9:=Tryz.underlying9
 a9:=Tryz.isAgg9
 z9:=Tryz.sizeOf9
 v9:=Tryz.zeroValue9
 t20:=Tryz.underlying20
 a20:=Tryz.isAgg20
 z20:=Tryz.sizeOf20
 v20:=Tryz.zeroValue20
 t37:=Tryz.underlying152
 a37:=Tryz.isAgg152
 z37:=Tryz.sizeOf152
 v37:=Tryz.zeroValue152
 t46:=Tryz.underlying89
 a46:=Tryz.isAgg89
 z46:=Tryz.sizeOf89
 v46:=Tryz.zeroValue89
 t51:=Tryz.underlying137
 a51:=Tryz.isAgg137
 z51:=Tryz.sizeOf137
 v51:=Tryz.zeroValue137
 t53:=Tryz.underlying139
 a53:=Tryz.isAgg139
 z53:=Tryz.sizeOf139
 v53:=Tryz.zeroValue139
 t171:=Tryz.underlying252
 a171:=Tryz.isAgg252
 z171:=Tryz.sizeOf252
 v171:=Tryz.zeroValue252
 t173:=Tryz.underlying254
 a173:=Tryz.isAgg254
 z173:=Tryz.sizeOf254
 v173:=Tryz.zeroValue254
 t212:=Tryz.underlying270
 a212:=Tryz.isAgg270
 z212:=Tryz.sizeOf270
 v212:=Tryz.zeroValue270
 t213:=Tryz.underlying271
 a213:=Tryz.isAgg271
 z213:=Tryz.sizeOf271
 t232:=Tryz.underlying285
 a232:=Tryz.isAgg285
 z232:=Tryz.sizeOf285
 v232:=Tryz.zeroValue285
 t233:=Tryz.underlying286
 a233:=Tryz.isAgg286
 z233:=Tryz.sizeOf286
 v233:=Tryz.zeroValue286
 g17:=by kernel_rfl
 g18:=by kernel_rfl
 g19:=by kernel_rfl
 i0:=by kernel_rfl
 i2:=by kernel_rfl
 i3:=by kernel_rfl
 i4:=by kernel_rfl
 i5:=by kernel_rfl
 i9:=by kernel_rfl
 i20:=by kernel_rfl
 i37:=by kernel_rfl
 i46:=by kernel_rfl
 i51:=by kernel_rfl
 i53:=by kernel_rfl
 i171:=by kernel_rfl
 i173:=by kernel_rfl
 i212:=by kernel_rfl
 i232:=by kernel_rfl
 i233:=by kernel_rfl
 m17:=by kernel_rfl
 m18:=by kernel_rfl
 m19:=by kernel_rfl }
open Go.RowKit Go.Sort Go.Lib in
theorem Tryz.strconv_Itoa (n : Int) (h0 : -9223372036854775808 ≤ n) (h1 : n ≤ 9223372036854775807) (w : World) (htab : Lib.TabIs Tryz.prog w "internal/strconv.uint64pow10" .u64 Lib.pow10Tab) :
  Calls Tryz.prog 98 #[.int .i64 n] w fun e w'=>e=.returned (.string ⟨(Lib.itoa n).toArray⟩)∧∃ k os,w'=grow (w.drewN k) os:=Any.strconv_Itoa Tryz.laysM171 n h0 h1 w htab
def Tryz.lays189_ren:Go.Shelf.Ren:=⟨fun|189=>194|125=>52|257=>222|128=>90|129=>91|294=>237|295=>238|296=>239|297=>240|298=>241|299=>242|216=>243|300=>244|301=>245|328=>259|329=>143|330=>144|331=>260|332=>261|215=>262|343=>269|n=>n,fun|28=>60|3=>3|46=>89|0=>0|51=>137|53=>139|4=>4|183=>129|182=>128|131=>134|5=>5|9=>9|218=>184|222=>188|228=>216|229=>217|n=>n,fun|n=>n⟩
theorem Tryz.lays189:Go.Proofs.Lays.n189 Tryz.prog Tryz.lays189_ren:={
 mixed:=by kernel_rfl
 f125:=Tryz.func52.trans (congrArg some (by kernel_rfl))
 f128:=Tryz.func90.trans (congrArg some (by kernel_rfl))
 f129:=Tryz.func91.trans (congrArg some (by kernel_rfl))
 f189:=Tryz.func194.trans (congrArg some (by kernel_rfl))
 f215:=Tryz.func262.trans (congrArg some (by kernel_rfl))
 f216:=Tryz.func243.trans (congrArg some (by kernel_rfl))
 f257:=Tryz.func222.trans (congrArg some (by kernel_rfl))
 f294:=Tryz.func237.trans (congrArg some (by kernel_rfl))
 f295:=Tryz.func238.trans (congrArg some (by kernel_rfl))
 f296:=Tryz.func239.trans (congrArg some (by kernel_rfl))
 f297:=Tryz.func240.trans (congrArg some (by kernel_rfl))
 f298:=Tryz.func241.trans (congrArg some (by kernel_rfl))
 f299:=Tryz.func242.trans (congrArg some (by kernel_rfl))
 f300:=Tryz.func244.trans (congrArg some (by kernel_rfl))
 f301:=Tryz.func245.trans (congrArg some (by kernel_rfl))
 f328:=Tryz.func259.trans (congrArg some (by kernel_rfl))
 f329:=Tryz.func143.trans (congrArg some (by kernel_rfl))
 f330:=Tryz.func144.trans (congrArg some (by kernel_rfl))
 f331:=Tryz.func260.trans (congrArg some (by kernel_rfl))
 f332:=Tryz.func261.trans (congrArg some (by kernel_rfl))
 f343:=Tryz.func269.trans (congrArg some (by kernel_rfl))
 t0:=Tryz.underlying0
 a0:=Tryz.isAgg0
 z0:=Tryz.sizeOf0
 v0:=Tryz.zeroValue0
 t3:=Tryz.underlying3
 a3:=Tryz.isAgg3
 z3:=Tryz.sizeOf3
 v3:=Tryz.zeroValue3
 t4:=Tryz.underlying4
 a4:=Tryz.isAgg4
 z4:=Tryz.sizeOf4
 v4:=Tryz.zeroValue4
 t5:=Tryz.underlying5
 a5:=Tryz.isAgg5
 z5:=Tryz.sizeOf5
 v5:=Tryz.zeroValue5
 t9:=Tryz.underlying9
 a9:=Tryz.isAgg9
 z9:=Tryz.sizeOf9
 v9:=Tryz.zeroValue9
 t28:=Tryz.underlying60
 a28:=Tryz.isAgg60
 z28:=Tryz.sizeOf60
 v28:=Tryz.zeroValue60
 t46:=Tryz.underlying89
 a46:=Tryz.isAgg89
 z46:=Tryz.sizeOf89
 v46:=Tryz.zeroValue89
 t51:=Tryz.underlying137
 a51:=Tryz.isAgg137
 z51:=Tryz.sizeOf137
 v51:=Tryz.zeroValue137
 t53:=Tryz.underlying139
 a53:=Tryz.isAgg139
 z53:=Tryz.sizeOf139
 v53:=Tryz.zeroValue139
 t131:=Tryz.underlying134
 a131:=Tryz.isAgg134
 z131:=Tryz.sizeOf134
 v131:=Tryz.zeroValue134
 t182:=Tryz.underlying128
 a182:=Tryz.isAgg128
 z182:=Tryz.sizeOf128
 v182:=Tryz.zeroValue128
 t183:=Tryz.underlying129
 a183:=Tryz.isAgg129
 z183:=Tryz.sizeOf129
 v183:=Tryz.zeroValue129
 t218:=Tryz.underlying184
 a218:=Tryz.isAgg184
 z218:=Tryz.sizeOf184
 v218:=Tryz.zeroValue184
 t222:=Tryz.underlying188
 a222:=Tryz.isAgg188
 z222:=Tryz.sizeOf188
 v222:=Tryz.zeroValue188
 t228:=Tryz.underlying216
 a228:=Tryz.isAgg216
 z228:=Tryz.sizeOf216
 v228:=Tryz.zeroValue216
 t229:=Tryz.underlying217
 a229:=Tryz.isAgg217
 z229:=Tryz.sizeOf217
 v229:=Tryz.zeroValue217 }
open Go.Sort Go.RowKit in
theorem Tryz.slices_Sort_int (blk off cap : Nat) (zs : List Int) (w : World) (hH : Holds (Value.int .i64) w blk off zs.toArray) (hblk : blk < w.heap.size) (hsz : zs.length < 4611686018427387904) :
  Calls Tryz.prog 194 #[.slice (some ⟨blk,off,none⟩) zs.length cap] w fun e w' =>
   e=.returned (.tuple #[])∧∃ n os,w'=grow (putRow (Value.int .i64) (Sort.ahead w n) blk off (zs.mergeSort fun x y=>decide (x≤y)).toArray) os:=Any.slices_Sort_int Tryz.lays189 blk off cap zs w hH hblk hsz
def Tryz.lays190_ren:Go.Shelf.Ren:=⟨fun|190=>22|125=>52|258=>51|128=>90|129=>91|302=>81|303=>82|304=>83|305=>84|306=>85|307=>86|308=>87|309=>88|310=>89|333=>142|329=>143|330=>144|334=>145|335=>146|336=>147|344=>181|n=>n,fun|31=>37|9=>9|3=>3|46=>89|0=>0|51=>137|53=>139|4=>4|183=>129|182=>128|131=>134|5=>5|218=>184|222=>188|228=>216|229=>217|n=>n,fun|n=>n⟩
theorem Tryz.lays190:Go.Proofs.Lays.n190 Tryz.prog Tryz.lays190_ren:={
 mixed:=by kernel_rfl
 f125:=Tryz.func52.trans (congrArg some (by kernel_rfl))
 f128:=Tryz.func90.trans (congrArg some (by kernel_rfl))
 f129:=Tryz.func91.trans (congrArg some (by kernel_rfl))
 f190:=Tryz.func22.trans (congrArg some (by kernel_rfl))
 f258:=Tryz.func51.trans (congrArg some (by kernel_rfl))
 f302:=Tryz.func81.trans (congrArg some (by kernel_rfl))
 f303:=Tryz.func82.trans (congrArg some (by kernel_rfl))
 f304:=Tryz.func83.trans (congrArg some (by kernel_rfl))
 f305:=Tryz.func84.trans (congrArg some (by kernel_rfl))
 f306:=Tryz.func85.trans (congrArg some (by kernel_rfl))
 f307:=Tryz.func86.trans (congrArg some (by kernel_rfl))
 f308:=Tryz.func87.trans (congrArg some (by kernel_rfl))
 f309:=Tryz.func88.trans (congrArg some (by kernel_rfl))
 f310:=Tryz.func89.trans (congrArg some (by kernel_rfl))
 f329:=Tryz.func143.trans (congrArg some (by kernel_rfl))
 f330:=Tryz.func144.trans (congrArg some (by kernel_rfl))
 f333:=Tryz.func142.trans (congrArg some (by kernel_rfl))
 f334:=Tryz.func145.trans (congrArg some (by kernel_rfl))
 f335:=Tryz.func146.trans (congrArg some (by kernel_rfl))
 f336:=Tryz.func147.trans (congrArg some (by kernel_rfl))
 f344:=Tryz.func181.trans (congrArg some (by kernel_rfl))
 t0:=Tryz.underlying0
 a0:=Tryz.isAgg0
 z0:=Tryz.sizeOf0
 v0:=Tryz.zeroValue0
 t3:=Tryz.underlying3
 a3:=Tryz.isAgg3
 z3:=Tryz.sizeOf3
 v3:=Tryz.zeroValue3
 t4:=Tryz.underlying4
 a4:=Tryz.isAgg4
 z4:=Tryz.sizeOf4
 v4:=Tryz.zeroValue4
 t5:=Tryz.underlying5
 a5:=Tryz.isAgg5
 z5:=Tryz.sizeOf5
 v5:=Tryz.zeroValue5
 t9:=Tryz.underlying9
 a9:=Tryz.isAgg9
 z9:=Tryz.sizeOf9
 v9:=Tryz.zeroValue9
 t31:=Tryz.underlying37
 a31:=Tryz.isAgg37
 z31:=Tryz.sizeOf37
 v31:=Tryz.zeroValue37
 t46:=Tryz.underlying89
 a46:=Tryz.isAgg89
 z46:=Tryz.sizeOf89
 v46:=Tryz.zeroValue89
 t51:=Tryz.underlying137
 a51:=Tryz.isAgg137
 z51:=Tryz.sizeOf137
 v51:=Tryz.zeroValue137
 t53:=Tryz.underlying139
 a53:=Tryz.isAgg139
 z53:=Tryz.sizeOf139
 v53:=Tryz.zeroValue139
 t131:=Tryz.underlying134
 a131:=Tryz.isAgg134
 z131:=Tryz.sizeOf134
 v131:=Tryz.zeroValue134
 t182:=Tryz.underlying128
 a182:=Tryz.isAgg128
 z182:=Tryz.sizeOf128
 v182:=Tryz.zeroValue128
 t183:=Tryz.underlying129
 a183:=Tryz.isAgg129
 z183:=Tryz.sizeOf129
 v183:=Tryz.zeroValue129
 t218:=Tryz.underlying184
 a218:=Tryz.isAgg184
 z218:=Tryz.sizeOf184
 v218:=Tryz.zeroValue184
 t222:=Tryz.underlying188
 a222:=Tryz.isAgg188
 z222:=Tryz.sizeOf188
 v222:=Tryz.zeroValue188
 t228:=Tryz.underlying216
 a228:=Tryz.isAgg216
 z228:=Tryz.sizeOf216
 v228:=Tryz.zeroValue216
 t229:=Tryz.underlying217
 a229:=Tryz.isAgg217
 z229:=Tryz.sizeOf217
 v229:=Tryz.zeroValue217 }
open Go.Sort Go.RowKit in
theorem Tryz.slices_Sort_string (blk off cap : Nat) (ss : List (List UInt8)) (w : World) (hH : Holds encStr w blk off ss.toArray) (hblk : blk < w.heap.size) (hsz : ss.length < 4611686018427387904) :
  Calls Tryz.prog 22 #[.slice (some ⟨blk,off,none⟩) ss.length cap] w fun e w' =>
   e=.returned (.tuple #[])∧∃ n os,w'=grow (putRow encStr (Sort.ahead w n) blk off (ss.mergeSort fun x y=>decide (x≤y)).toArray) os:=Any.slices_Sort_string Tryz.lays190 blk off cap ss w hH hblk hsz
def Tryz.laysGw15_ren:Go.Shelf.Ren:=⟨fun|15=>230|20=>252|n=>n,fun|9=>9|23=>86|3=>3|4=>4|0=>0|21=>21|n=>n,fun|n=>n⟩
theorem Tryz.laysGw15:Go.Proofs.LaysGw.n15 Tryz.prog Tryz.laysGw15_ren:={
 mixed:=by kernel_rfl
 f15:=Tryz.func230.trans (congrArg some (by kernel_rfl))
 f20:=Tryz.func252.trans (congrArg some (by kernel_rfl))
 t0:=Tryz.underlying0
 a0:=Tryz.isAgg0
 z0:=Tryz.sizeOf0
 v0:=Tryz.zeroValue0
 i0:=by kernel_rfl
 t3:=Tryz.underlying3
 a3:=Tryz.isAgg3
 z3:=Tryz.sizeOf3
 v3:=Tryz.zeroValue3
 i3:=by kernel_rfl
 t4:=Tryz.underlying4
 a4:=Tryz.isAgg4
 z4:=Tryz.sizeOf4
 v4:=Tryz.zeroValue4
 i4:=by kernel_rfl
 t9:=Tryz.underlying9
 a9:=Tryz.isAgg9
 z9:=Tryz.sizeOf9
 v9:=Tryz.zeroValue9
 i9:=by kernel_rfl
 t21:=Tryz.underlying21
 a21:=Tryz.isAgg21
 z21:=Tryz.sizeOf21
 v21:=Tryz.zeroValue21
 i21:=by kernel_rfl
 t23:=Tryz.underlying86
 a23:=Tryz.isAgg86
 z23:=Tryz.sizeOf86
 v23:=Tryz.zeroValue86
 i23:=by kernel_rfl }
def Tryz.laysGw17_ren:Go.Shelf.Ren:=⟨fun|17=>212|15=>230|20=>252|n=>n,fun|9=>9|23=>86|4=>4|3=>3|0=>0|21=>21|n=>n,fun|n=>n⟩
theorem Tryz.laysGw17:Go.Proofs.LaysGw.n17 Tryz.prog Tryz.laysGw17_ren:={
 mixed:=by kernel_rfl
 f15:=Tryz.func230.trans (congrArg some (by kernel_rfl))
 f17:=Tryz.func212.trans (congrArg some (by kernel_rfl))
 f20:=Tryz.func252.trans (congrArg some (by kernel_rfl))
 t0:=Tryz.underlying0
 a0:=Tryz.isAgg0
 z0:=Tryz.sizeOf0
 v0:=Tryz.zeroValue0
 i0:=by kernel_rfl
 t3:=Tryz.underlying3
 a3:=Tryz.isAgg3
 z3:=Tryz.sizeOf3
 v3:=Tryz.zeroValue3
 i3:=by kernel_rfl
 t4:=Tryz.underlying4
 a4:=Tryz.isAgg4
 z4:=Tryz.sizeOf4
 v4:=Tryz.zeroValue4
 i4:=by kernel_rfl
 t9:=Tryz.underlying9
 a9:=Tryz.isAgg9
 z9:=Tryz.sizeOf9
 v9:=Tryz.zeroValue9
 i9:=by kernel_rfl
 t21:=Tryz.underlying21
 a21:=Tryz.isAgg21
 z21:=Tryz.sizeOf21
 v21:=Tryz.zeroValue21
 i21:=by kernel_rfl
 t23:=Tryz.underlying86
 a23:=Tryz.isAgg86
 z23:=Tryz.sizeOf86
 v23:=Tryz.zeroValue86
 i23:=by kernel_rfl }
def Tryz.lays105_ren:Go.Shelf.Ren:=⟨fun|105=>93|212=>148|99=>149|165=>102|166=>103|170=>150|169=>104|263=>182|264=>183|206=>184|240=>160|241=>161|276=>197|277=>198|n=>n,fun|9=>9|3=>3|4=>4|20=>20|0=>0|46=>89|109=>190|5=>5|72=>154|76=>158|51=>137|146=>219|53=>139|148=>221|70=>151|37=>152|75=>157|127=>199|164=>233|80=>160|n=>n,fun|n=>n⟩
theorem Tryz.lays105:Go.Proofs.Lays.n105 Tryz.prog Tryz.lays105_ren:={
 mixed:=by kernel_rfl
 f99:=Tryz.func149.trans (congrArg some (by kernel_rfl))
 f105:=Tryz.func93.trans (congrArg some (by kernel_rfl))
 f165:=Tryz.func102.trans (congrArg some (by kernel_rfl))
 f166:=Tryz.func103.trans (congrArg some (by kernel_rfl))
 f169:=Tryz.func104.trans (congrArg some (by kernel_rfl))
 f170:=Tryz.func150.trans (congrArg some (by kernel_rfl))
 f206:=Tryz.func184.trans (congrArg some (by kernel_rfl))
 f212:=Tryz.func148.trans (congrArg some (by kernel_rfl))
 f240:=Tryz.func160.trans (congrArg some (by kernel_rfl))
 f241:=Tryz.func161.trans (congrArg some (by kernel_rfl))
 f263:=Tryz.func182.trans (congrArg some (by kernel_rfl))
 f264:=Tryz.func183.trans (congrArg some (by kernel_rfl))
 f276:=Tryz.func197.trans (congrArg some (by kernel_rfl))
 f277:=Tryz.func198.trans (congrArg some (by kernel_rfl))
 t0:=Tryz.underlying0
 a0:=Tryz.isAgg0
 z0:=Tryz.sizeOf0
 v0:=Tryz.zeroValue0
 t3:=Tryz.underlying3
 a3:=Tryz.isAgg3
 z3:=Tryz.sizeOf3
 v3:=Tryz.zeroValue3
 t4:=Tryz.underlying4
 a4:=Tryz.isAgg4
 z4:=Tryz.sizeOf4
 v4:=Tryz.zeroValue4
 t5:=Tryz.underlying5
 a5:=Tryz.isAgg5
 z5:=Tryz.sizeOf5
 v5:=Tryz.zeroValue5
 t9:=Tryz.underlying9
 a9:=Tryz.isAgg9
 z9:=Tryz.sizeOf9
 v9:=Tryz.zeroValue9
 t20:=Tryz.underlying20
 a20:=Tryz.isAgg20
 z20:=Tryz.sizeOf20
 v20:=Tryz.zeroValue20
 t37:=Tryz.underlying152
 a37:=Tryz.isAgg152
 z37:=Tryz.sizeOf152
 v37:=Tryz.zeroValue152
 t46:=Tryz.underlying89
 a46:=Tryz.isAgg89
 z46:=Tryz.sizeOf89
 v46:=Tryz.zeroValue89
 t51:=Tryz.underlying137
 a51:=Tryz.isAgg137
 z51:=Tryz.sizeOf137
 v51:=Tryz.zeroValue137
 t53:=Tryz.underlying139
 a53:=Tryz.isAgg139
 z53:=Tryz.sizeOf139
 v53:=Tryz.zeroValue139
 t70:=Tryz.underlying151
 a70:=Tryz.isAgg151
 z70:=Tryz.sizeOf151
 v70:=Tryz.zeroValue151
 t72:=Tryz.underlying154
 a72:=Tryz.isAgg154
 z72:=Tryz.sizeOf154
 v72:=Tryz.zeroValue154
 t75:=Tryz.underlying157
 a75:=Tryz.isAgg157
 z75:=Tryz.sizeOf157
 v75:=Tryz.zeroValue157
 t76:=Tryz.underlying158
 a76:=Tryz.isAgg158
 z76:=Tryz.sizeOf158
 v76:=Tryz.zeroValue158
 t109:=Tryz.underlying190
 a109:=Tryz.isAgg190
 z109:=Tryz.sizeOf190
 v109:=Tryz.zeroValue190
 t127:=Tryz.underlying199
 a127:=Tryz.isAgg199
 z127:=Tryz.sizeOf199
 v127:=Tryz.zeroValue199
 t146:=Tryz.underlying219
 a146:=Tryz.isAgg219
 z146:=Tryz.sizeOf219
 v146:=Tryz.zeroValue219
 t148:=Tryz.underlying221
 a148:=Tryz.isAgg221
 z148:=Tryz.sizeOf221
 v148:=Tryz.zeroValue221
 t164:=Tryz.underlying233
 a164:=Tryz.isAgg233
 z164:=Tryz.sizeOf233
 v164:=Tryz.zeroValue233 }
theorem Tryz.Builder_Extra_105:Builder.Extra Tryz.prog Tryz.lays105_ren:={
 sizeBuilder:=by kernel_rfl
 liesBuilder:=by kernel_rfl
 t5:=Tryz.underlying5
 a5:=Tryz.isAgg5
 z5:=Tryz.sizeOf5
 v5:=Tryz.zeroValue5
 infoByte:=by kernel_rfl
 cellsByte:=by kernel_rfl
 sizeByte:=by kernel_rfl
 neB5:=by decide }
open Go.RowKit Go.Lib in
theorem Tryz.strings_Repeat (s : ByteArray) (c : Nat) (w : World) (hc : c ≤ 9223372036854775807) (hlen : s.size * c ≤ 140737488355328) :
  Calls Tryz.prog 93 #[.string s,.int .i64 c] w fun e w'=>e=.returned (.string ⟨(Lib.repeatL s.data.toList c).toArray⟩)∧Below w.heap.size w w':=Any.strings_Repeat Tryz.lays105 Tryz.Builder_Extra_105 s c w hc hlen
def Tryz.lays229_ren:Go.Shelf.Ren:=⟨fun|229=>49|n=>n,fun|9=>9|40=>86|31=>37|152=>124|3=>3|0=>0|4=>4|21=>21|154=>126|n=>n,fun|n=>n⟩
theorem Tryz.lays229:Go.Proofs.Lays.n229 Tryz.prog Tryz.lays229_ren:={
 mixed:=by kernel_rfl
 f229:=Tryz.func49.trans (congrArg some (by kernel_rfl))
 t0:=Tryz.underlying0
 a0:=Tryz.isAgg0
 z0:=Tryz.sizeOf0
 v0:=Tryz.zeroValue0
 t3:=Tryz.underlying3
 a3:=Tryz.isAgg3
 z3:=Tryz.sizeOf3
 v3:=Tryz.zeroValue3
 t4:=Tryz.underlying4
 a4:=Tryz.isAgg4
 z4:=Tryz.sizeOf4
 v4:=Tryz.zeroValue4
 t9:=Tryz.underlying9
 a9:=Tryz.isAgg9
 z9:=Tryz.sizeOf9
 v9:=Tryz.zeroValue9
 t21:=Tryz.underlying21
 a21:=Tryz.isAgg21
 z21:=Tryz.sizeOf21
 v21:=Tryz.zeroValue21
 t31:=Tryz.underlying37
 a31:=Tryz.isAgg37
 z31:=Tryz.sizeOf37
 v31:=Tryz.zeroValue37
 t40:=Tryz.underlying86
 a40:=Tryz.isAgg86
 z40:=Tryz.sizeOf86
 v40:=Tryz.zeroValue86
 t152:=Tryz.underlying124
 a152:=Tryz.isAgg124
 z152:=Tryz.sizeOf124
 v152:=Tryz.zeroValue124
 t154:=Tryz.underlying126
 a154:=Tryz.isAgg126
 z154:=Tryz.sizeOf126
 v154:=Tryz.zeroValue126 }
open Go.RowKit Go.Lib in
theorem Tryz.strings_IndexFunc_grows (g : Nat) (lb : Array Value) (eg : ∀ args w, (callFunc g args).run Tryz.prog w = .ok (.enter g args) w) (p : Nat → Bool) (s : ByteArray) (w : World) (hp : PredGrows Tryz.prog g lb p w) :
  Calls Tryz.prog 230 #[.string s,.func (.func g) #[] lb] w fun e w'=>e=.returned (.int .i64 (Lib.idxFunc p true s))∧Below w.heap.size w w':=Any.strings_IndexFunc_grows Tryz.laysGw15 g lb eg p s w hp
open Go.RowKit Go.Lib in
theorem Tryz.strings_ContainsFunc_grows (g : Nat) (lb : Array Value) (eg : ∀ args w, (callFunc g args).run Tryz.prog w = .ok (.enter g args) w) (p : Nat → Bool) (s : ByteArray) (w : World) (hp : PredGrows Tryz.prog g lb p w) :
  Calls Tryz.prog 212 #[.string s,.func (.func g) #[] lb] w fun e w'=>e=.returned (.bool (decide (0≤Lib.idxFunc p true s)))∧Below w.heap.size w w':=Any.strings_ContainsFunc_grows Tryz.laysGw17 g lb eg p s w hp
open Go.RowKit Go.Lib in
theorem Tryz.strings_FieldsFunc_grows (g : Nat) (lb : Array Value) (eg : ∀ args w, (callFunc g args).run Tryz.prog w = .ok (.enter g args) w) (p : Nat → Bool) (s : ByteArray) (w : World) (hs : s.size ≤ 4294967296) (hp : PredGrows Tryz.prog g lb p w) :
  Calls Tryz.prog 49 #[.string s,.func (.func g) #[] lb] w fun e w'=>∃ A,e=.returned (.slice (some ⟨A,0,none⟩) (Lib.goFieldsP p s).length (Lib.goFieldsP p s).length)∧w.heap.size≤A ∧
   w'.ownsRow w.heap.size 9 1 (.slice (some ⟨A,0,none⟩) (Lib.goFieldsP p s).length (Lib.goFieldsP p s).length) (Lib.goFieldsP p s).length ((Lib.goFieldsP p s).map Value.string)∧Below w.heap.size w w':=Any.strings_FieldsFunc_grows Tryz.lays229 g lb eg p s w hs hp (by kernel_rfl) (by kernel_rfl)
def Tryz.laysNm220_ren:Go.Shelf.Ren:=⟨fun|20=>155|n=>n,fun|22=>60|3=>3|4=>4|0=>0|n=>n,fun|n=>n⟩
theorem Tryz.laysNm220:Go.Proofs.Lays2.n20 Tryz.prog Tryz.laysNm220_ren:={
 mixed:=by kernel_rfl
 f20:=Tryz.func155.trans (congrArg some (by kernel_rfl))
 t0:=Tryz.underlying0
 a0:=Tryz.isAgg0
 z0:=Tryz.sizeOf0
 v0:=Tryz.zeroValue0
 t3:=Tryz.underlying3
 a3:=Tryz.isAgg3
 z3:=Tryz.sizeOf3
 v3:=Tryz.zeroValue3
 t4:=Tryz.underlying4
 a4:=Tryz.isAgg4
 z4:=Tryz.sizeOf4
 v4:=Tryz.zeroValue4
 t22:=Tryz.underlying60
 a22:=Tryz.isAgg60
 z22:=Tryz.sizeOf60
 v22:=Tryz.zeroValue60
 i3:=by kernel_rfl }
open Go.RowKit Go.Lib Go.Sort in
theorem Tryz.slices_Compact_int (blk off cap : Nat) (zs : List Int) (w : World) (hH : Holds (Value.int .i64) w blk off zs.toArray) (hsz : zs.length ≤ 9223372036854775807) (hcap : zs.length ≤ cap) :
  Calls Tryz.prog 155 #[.slice (some ⟨blk,off,none⟩) zs.length cap] w fun e w'=>e=.returned (.slice (some ⟨blk,off,none⟩) (Lib.compact zs).length cap)∧∃ q,w'=putRow (Value.int .i64) (Sort.ahead w q) blk off (Lib.compact zs++List.replicate (zs.length-(Lib.compact zs).length) 0).toArray:=Any.slices_Compact_int Tryz.laysNm220 blk off cap zs w hH hsz hcap
open Go.RowKit Go.Lib Go.Sort in
theorem Tryz.slices_Compact_int_empty (a : Option Addr) (cap : Nat) (w : World) :
  Calls Tryz.prog 155 #[.slice a 0 cap] w fun e w'=>e=.returned (.slice a 0 cap)∧w'=w:=Any.slices_Compact_int_empty Tryz.laysNm220 a cap w
open Go.RowKit Go.Sort in
theorem Tryz.slices_Sort_string_none (p : Option Addr) (cap : Nat) (w : World) :
  Calls Tryz.prog 22 #[.slice p 0 cap] w fun e w'=>e=.returned (.tuple #[])∧w'=w:=Any.slices_Sort_string_none Tryz.lays190 p cap w
open Go.RowKit Go.Sort in
theorem Tryz.slices_Sort_int_none (p : Option Addr) (cap : Nat) (w : World) :
  Calls Tryz.prog 194 #[.slice p 0 cap] w fun e w'=>e=.returned (.tuple #[])∧w'=w:=Any.slices_Sort_int_none Tryz.lays189 p cap w
end Go.Proofs
