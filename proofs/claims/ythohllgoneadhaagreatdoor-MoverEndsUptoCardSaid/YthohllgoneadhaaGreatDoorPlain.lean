/-
  DERIVED: THE SHELF's CONTRACTS AT THIS DUMP,IN PLAIN WORDS (tools/lay-plain.mjs out of 'TryzSh.lean',which tools/lay-shelf.mjs wrote): THE SAME DECLARATIONS UNDER THE SAME NAMES: 'import','namespace','open','def','theorem' AND NOTHING ELSE: no command of the shelf's: FOR A HAND-IN. Each laying: the table of numbers ('.._ren') and one theorem,a field a fact of the dump's own or the kernel's comparison;each contract: ONE APPLICATION.
-/
import Derived.Shelf.Strings.SlTrimAscii
import Derived.Shelf.Spec.TrailingZeros
import Derived.Shelf.Strings.Builder1
import Derived.Shelf.Strings.Builder2
import Derived.Shelf.Strings.OnBuilder
import Derived.Shelf.Strings.Trim
import Derived.Shelf.Small.Utf8
import Derived.Shelf.Small.Strs
import Derived.Shelf.Strconv.Atoi
import Derived.Shelf.Strconv.Itoa0
import Derived.Shelf.Strconv.Itoa1
import Derived.Shelf.LaysM
import Derived.Shelf.Strconv.Itoa2
import Derived.Shelf.Strconv.Itoa3
import Derived.Shelf.Strconv.AtoiErrFast
import Derived.Shelf.Strconv.ParseIntEmpty
import Derived.Shelf.Strconv.AtoiFail
import Derived.Shelf.Strconv.Clone
import Derived.Shelf.Strconv.SyntaxError
import Derived.Shelf.LaysC
import Derived.Shelf.Strconv.ToError
import Derived.Shelf.Strconv.Lower
import Derived.Shelf.Strconv.ParseUint10
import Derived.Shelf.Strconv.ParseUint10Empty
import Derived.Shelf.Strconv.ParseUint10Any
import Derived.Shelf.Strconv.ParseInt10
import Derived.Shelf.Strconv.AtoiLong
import Derived.Shelf.Strconv.AtoiInnerAll
import Derived.Shelf.Strconv.RangeError
import Derived.Shelf.Strconv.ToErrorRange
import Derived.Shelf.Strconv.AtoiAll
import Derived.Shelf.Strconv.ErrVarAll
import Derived.Shelf.Strconv.ParseUintEmpty
import Derived.Shelf.Strconv.ParseUint10b64
import Derived.Shelf.Strconv.ParseUint10b32
import Derived.Shelf.Strconv.ParseUint10b16
import Derived.Shelf.Strconv.ParseUint10b8
import Derived.Shelf.Strconv.ParseUint10At
import Derived.Shelf.Strconv.ParseInt10At64
import Derived.Shelf.Strconv.ParseInt10At32
import Derived.Shelf.Strconv.ParseInt10At16
import Derived.Shelf.Strconv.ParseInt10At8
import Derived.Shelf.Strconv.ParseInt10All
import Derived.Shelf.Strings.Search1
import Derived.Shelf.Strings.Search2
import Derived.Shelf.Strings.Search3
import Derived.Shelf.Strings.Cut
import Derived.Shelf.Strings.Count
import Derived.Shelf.Strings.Shaped
import Derived.Shelf.Strings.Split
import Derived.Shelf.Strings.SplitShaped
import Derived.Shelf.Strings.Runes
import Derived.Shelf.Strings.AsciiSet
import Derived.Shelf.Unicode.DecodeSlow
import Derived.Shelf.Strings.FieldsFuncAny
import Derived.Test.YthohllgoneadhaaGreatDoorProg
namespace Go.Proofs
open Go.Shelf
def Tryz.lays156_ren:Go.Shelf.Ren:=⟨fun | 156=>112 | 165=>134 | 166=>135 | 169=>136 | 240=>148 | 241=>149 | 276=>161 | 277=>162 | n=>n,fun | 31=>189 | 9=>9 | 3=>3 | 4=>4 | 0=>0 | 20=>20 | 72=>227 | 76=>230 | 70=>225 | 37=>134 | 75=>229 | 127=>251 | 164=>262 | 5=>5 | 80=>232 | n=>n,fun | n=>n⟩
theorem Tryz.lays156:Go.Proofs.Lays.n156 Tryz.prog Tryz.lays156_ren:={
  mixed:=by kernel_rfl
  f156:=Tryz.func112.trans (congrArg some (by kernel_rfl))
  f165:=Tryz.func134.trans (congrArg some (by kernel_rfl))
  f166:=Tryz.func135.trans (congrArg some (by kernel_rfl))
  f169:=Tryz.func136.trans (congrArg some (by kernel_rfl))
  f240:=Tryz.func148.trans (congrArg some (by kernel_rfl))
  f241:=Tryz.func149.trans (congrArg some (by kernel_rfl))
  f276:=Tryz.func161.trans (congrArg some (by kernel_rfl))
  f277:=Tryz.func162.trans (congrArg some (by kernel_rfl))
  t0:=Tryz.underlying0
  a0:=Tryz.isAgg0
  z0:=Tryz.sizeOf0
  v0:=Tryz.zeroValue0
  t3:=Tryz.underlying3
  a3:=Tryz.isAgg3
  z3:=Tryz.sizeOf3
  v3:=Tryz.zeroValue3
  t4:=Tryz.underlying4
  a4:=Tryz.isAgg4
  z4:=Tryz.sizeOf4
  v4:=Tryz.zeroValue4
  t9:=Tryz.underlying9
  a9:=Tryz.isAgg9
  z9:=Tryz.sizeOf9
  v9:=Tryz.zeroValue9
  t20:=Tryz.underlying20
  a20:=Tryz.isAgg20
  z20:=Tryz.sizeOf20
  v20:=Tryz.zeroValue20
  t31:=Tryz.underlying189
  a31:=Tryz.isAgg189
  z31:=Tryz.sizeOf189
  v31:=Tryz.zeroValue189
  t37:=Tryz.underlying134
  a37:=Tryz.isAgg134
  z37:=Tryz.sizeOf134
  v37:=Tryz.zeroValue134
  t70:=Tryz.underlying225
  a70:=Tryz.isAgg225
  z70:=Tryz.sizeOf225
  v70:=Tryz.zeroValue225
  t72:=Tryz.underlying227
  a72:=Tryz.isAgg227
  z72:=Tryz.sizeOf227
  v72:=Tryz.zeroValue227
  t75:=Tryz.underlying229
  a75:=Tryz.isAgg229
  z75:=Tryz.sizeOf229
  v75:=Tryz.zeroValue229
  t76:=Tryz.underlying230
  a76:=Tryz.isAgg230
  z76:=Tryz.sizeOf230
  v76:=Tryz.zeroValue230
  t127:=Tryz.underlying251
  a127:=Tryz.isAgg251
  z127:=Tryz.sizeOf251
  v127:=Tryz.zeroValue251
  t164:=Tryz.underlying262
  a164:=Tryz.isAgg262
  z164:=Tryz.sizeOf262
  v164:=Tryz.zeroValue262}
theorem Tryz.Builder_Extra_156:Builder.Extra Tryz.prog Tryz.lays156_ren:={
  sizeBuilder:=by kernel_rfl
  liesBuilder:=by kernel_rfl
  t5:=Tryz.underlying5
  a5:=Tryz.isAgg5
  z5:=Tryz.sizeOf5
  v5:=Tryz.zeroValue5
  infoByte:=by kernel_rfl
  cellsByte:=by kernel_rfl
  sizeByte:=by kernel_rfl
  neB5:=by decide}
open Go.RowKit in
theorem Tryz.strings_Join_none (a : Option Addr) (c : Nat) (sep : ByteArray) (w : World) :
    Calls Tryz.prog 112 #[.slice a 0 c,.string sep] w fun e w'=>e = .returned (.string ⟨#[]⟩)∧w'=w:=Any.strings_Join_none Tryz.lays156 Tryz.Builder_Extra_156 a c sep w
open Go.RowKit in
theorem Tryz.strings_Join (bk o c : Nat) (xs : List ByteArray) (sep : ByteArray) (w : World) (hcells : ∀ (j : Nat) x, xs[j]? = some x → w.cell? ⟨bk, o + j, none⟩ = some (.string x)) (hbk : bk < w.heap.size) (hN : xs.length ≤ 140737488355328) (hcap : xs.length ≤ c) (hlen : (Lib.join (xs.map (·.data.toList)) sep.data.toList).length ≤ 140737488355328) :
    Calls Tryz.prog 112 #[.slice (some ⟨bk,o,none⟩) xs.length c,.string sep] w fun e w'=>e = .returned (.string ⟨(Lib.join (xs.map (·.data.toList)) sep.data.toList).toArray⟩)∧Below w.heap.size w w':=Any.strings_Join Tryz.lays156 Tryz.Builder_Extra_156 bk o c xs sep w hcells hbk hN hcap hlen
def Tryz.laysM171_ren:Go.Shelf.Ren:=⟨fun | 171=>133 | 243=>147 | 246=>160 | 283=>173 | 284=>174 | 285=>175 | 286=>176 | 129=>194 | 317=>193 | 318=>195 | 319=>196 | 320=>197 | 337=>216 | 338=>132 | n=>n,fun | 3=>3 | 9=>9 | 2=>2 | 4=>4 | 171=>273 | 0=>0 | 53=>152 | 37=>134 | 5=>5 | 173=>275 | 212=>293 | 51=>207 | 20=>20 | 213=>294 | 46=>62 | 232=>332 | 233=>250 | n=>n,fun | 17=>3 | 18=>8 | 19=>1 | n=>n⟩
theorem Tryz.laysM171:Go.Proofs.LaysM.n171 Tryz.prog Tryz.laysM171_ren:={
  mixed:=by kernel_rfl
  f129:=Tryz.func194.trans (congrArg some (by kernel_rfl))
  f171:=Tryz.func133.trans (congrArg some (by kernel_rfl))
  f243:=Tryz.func147.trans (congrArg some (by kernel_rfl))
  f246:=Tryz.func160.trans (congrArg some (by kernel_rfl))
  f283:=Tryz.func173.trans (congrArg some (by kernel_rfl))
  f284:=Tryz.func174.trans (congrArg some (by kernel_rfl))
  f285:=Tryz.func175.trans (congrArg some (by kernel_rfl))
  f286:=Tryz.func176.trans (congrArg some (by kernel_rfl))
  f317:=Tryz.func193.trans (congrArg some (by kernel_rfl))
  f318:=Tryz.func195.trans (congrArg some (by kernel_rfl))
  f319:=Tryz.func196.trans (congrArg some (by kernel_rfl))
  f320:=Tryz.func197.trans (congrArg some (by kernel_rfl))
  f337:=Tryz.func216.trans (congrArg some (by kernel_rfl))
  f338:=Tryz.func132.trans (congrArg some (by kernel_rfl))
  t0:=Tryz.underlying0
  a0:=Tryz.isAgg0
  z0:=Tryz.sizeOf0
  v0:=Tryz.zeroValue0
  t2:=Tryz.underlying2
  a2:=Tryz.isAgg2
  z2:=Tryz.sizeOf2
  v2:=Tryz.zeroValue2
  t3:=Tryz.underlying3
  a3:=Tryz.isAgg3
  z3:=Tryz.sizeOf3
  v3:=Tryz.zeroValue3
  t4:=Tryz.underlying4
  a4:=Tryz.isAgg4
  z4:=Tryz.sizeOf4
  v4:=Tryz.zeroValue4
  t5:=Tryz.underlying5
  a5:=Tryz.isAgg5
  z5:=Tryz.sizeOf5
  v5:=Tryz.zeroValue5
  t9:=Tryz.underlying9
  a9:=Tryz.isAgg9
  z9:=Tryz.sizeOf9
  v9:=Tryz.zeroValue9
  t20:=Tryz.underlying20
  a20:=Tryz.isAgg20
  z20:=Tryz.sizeOf20
  v20:=Tryz.zeroValue20
  t37:=Tryz.underlying134
  a37:=Tryz.isAgg134
  z37:=Tryz.sizeOf134
  v37:=Tryz.zeroValue134
  t46:=Tryz.underlying62
  a46:=Tryz.isAgg62
  z46:=Tryz.sizeOf62
  v46:=Tryz.zeroValue62
  t51:=Tryz.underlying207
  a51:=Tryz.isAgg207
  z51:=Tryz.sizeOf207
  v51:=Tryz.zeroValue207
  t53:=Tryz.underlying152
  a53:=Tryz.isAgg152
  z53:=Tryz.sizeOf152
  v53:=Tryz.zeroValue152
  t171:=Tryz.underlying273
  a171:=Tryz.isAgg273
  z171:=Tryz.sizeOf273
  v171:=Tryz.zeroValue273
  t173:=Tryz.underlying275
  a173:=Tryz.isAgg275
  z173:=Tryz.sizeOf275
  v173:=Tryz.zeroValue275
  t212:=Tryz.underlying293
  a212:=Tryz.isAgg293
  z212:=Tryz.sizeOf293
  v212:=Tryz.zeroValue293
  t213:=Tryz.underlying294
  a213:=Tryz.isAgg294
  z213:=Tryz.sizeOf294
  t232:=Tryz.underlying332
  a232:=Tryz.isAgg332
  z232:=Tryz.sizeOf332
  v232:=Tryz.zeroValue332
  t233:=Tryz.underlying250
  a233:=Tryz.isAgg250
  z233:=Tryz.sizeOf250
  v233:=Tryz.zeroValue250
  g17:=by kernel_rfl
  g18:=by kernel_rfl
  g19:=by kernel_rfl
  i0:=by kernel_rfl
  i2:=by kernel_rfl
  i3:=by kernel_rfl
  i4:=by kernel_rfl
  i5:=by kernel_rfl
  i9:=by kernel_rfl
  i20:=by kernel_rfl
  i37:=by kernel_rfl
  i46:=by kernel_rfl
  i51:=by kernel_rfl
  i53:=by kernel_rfl
  i171:=by kernel_rfl
  i173:=by kernel_rfl
  i212:=by kernel_rfl
  i232:=by kernel_rfl
  i233:=by kernel_rfl
  m17:=by kernel_rfl
  m18:=by kernel_rfl
  m19:=by kernel_rfl}
open Go.RowKit Go.Sort Go.Lib in
theorem Tryz.strconv_Itoa (n : Int) (h0 : -9223372036854775808 ≤ n) (h1 : n ≤ 9223372036854775807) (w : World) (htab : Lib.TabIs Tryz.prog w "internal/strconv.uint64pow10" .u64 Lib.pow10Tab) :
    Calls Tryz.prog 133 #[.int .i64 n] w fun e w'=>e = .returned (.string ⟨(Lib.itoa n).toArray⟩)∧∃ k os,w'=grow (w.drewN k) os:=Any.strconv_Itoa Tryz.laysM171 n h0 h1 w htab
open Go.RowKit Go.Sort Go.Lib in
def Tryz.laysC172_ren:Go.Shelf.Ren:=⟨fun | 172=>172 | 244=>191 | 245=>192 | 247=>211 | 279=>212 | 280=>213 | 281=>214 | 282=>215 | 287=>226 | 316=>227 | 171=>133 | 205=>228 | 321=>236 | 322=>237 | 243=>147 | 246=>160 | 283=>173 | 284=>174 | 285=>175 | 286=>176 | 129=>194 | 317=>193 | 318=>195 | 319=>196 | 320=>197 | 337=>216 | 338=>132 | n=>n,fun | 9=>9 | 3=>3 | 75=>229 | 76=>230 | 4=>4 | 5=>5 | 167=>306 | 37=>134 | 0=>0 | 85=>307 | 2=>2 | 168=>309 | 53=>152 | 175=>326 | 46=>62 | 210=>330 | 127=>251 | 145=>340 | 143=>338 | 21=>21 | 171=>273 | 173=>275 | 212=>293 | 51=>207 | 20=>20 | 213=>294 | 232=>332 | 233=>250 | 80=>232 | n=>n,fun | 15=>6 | 16=>7 | 17=>3 | 18=>8 | 19=>1 | n=>n⟩
theorem Tryz.laysC172:Go.Proofs.LaysC.n172 Tryz.prog Tryz.laysC172_ren:={
  mixed:=by kernel_rfl
  f129:=Tryz.func194.trans (congrArg some (by kernel_rfl))
  f171:=Tryz.func133.trans (congrArg some (by kernel_rfl))
  f172:=Tryz.func172.trans (congrArg some (by kernel_rfl))
  f205:=Tryz.func228.trans (congrArg some (by kernel_rfl))
  f243:=Tryz.func147.trans (congrArg some (by kernel_rfl))
  f244:=Tryz.func191.trans (congrArg some (by kernel_rfl))
  f245:=Tryz.func192.trans (congrArg some (by kernel_rfl))
  f246:=Tryz.func160.trans (congrArg some (by kernel_rfl))
  f247:=Tryz.func211.trans (congrArg some (by kernel_rfl))
  f279:=Tryz.func212.trans (congrArg some (by kernel_rfl))
  f280:=Tryz.func213.trans (congrArg some (by kernel_rfl))
  f281:=Tryz.func214.trans (congrArg some (by kernel_rfl))
  f282:=Tryz.func215.trans (congrArg some (by kernel_rfl))
  f283:=Tryz.func173.trans (congrArg some (by kernel_rfl))
  f284:=Tryz.func174.trans (congrArg some (by kernel_rfl))
  f285:=Tryz.func175.trans (congrArg some (by kernel_rfl))
  f286:=Tryz.func176.trans (congrArg some (by kernel_rfl))
  f287:=Tryz.func226.trans (congrArg some (by kernel_rfl))
  f316:=Tryz.func227.trans (congrArg some (by kernel_rfl))
  f317:=Tryz.func193.trans (congrArg some (by kernel_rfl))
  f318:=Tryz.func195.trans (congrArg some (by kernel_rfl))
  f319:=Tryz.func196.trans (congrArg some (by kernel_rfl))
  f320:=Tryz.func197.trans (congrArg some (by kernel_rfl))
  f321:=Tryz.func236.trans (congrArg some (by kernel_rfl))
  f322:=Tryz.func237.trans (congrArg some (by kernel_rfl))
  f337:=Tryz.func216.trans (congrArg some (by kernel_rfl))
  f338:=Tryz.func132.trans (congrArg some (by kernel_rfl))
  t0:=Tryz.underlying0
  a0:=Tryz.isAgg0
  z0:=Tryz.sizeOf0
  v0:=Tryz.zeroValue0
  t2:=Tryz.underlying2
  a2:=Tryz.isAgg2
  z2:=Tryz.sizeOf2
  v2:=Tryz.zeroValue2
  t3:=Tryz.underlying3
  a3:=Tryz.isAgg3
  z3:=Tryz.sizeOf3
  v3:=Tryz.zeroValue3
  t4:=Tryz.underlying4
  a4:=Tryz.isAgg4
  z4:=Tryz.sizeOf4
  v4:=Tryz.zeroValue4
  t5:=Tryz.underlying5
  a5:=Tryz.isAgg5
  z5:=Tryz.sizeOf5
  v5:=Tryz.zeroValue5
  t9:=Tryz.underlying9
  a9:=Tryz.isAgg9
  z9:=Tryz.sizeOf9
  v9:=Tryz.zeroValue9
  t20:=Tryz.underlying20
  a20:=Tryz.isAgg20
  z20:=Tryz.sizeOf20
  v20:=Tryz.zeroValue20
  t21:=Tryz.underlying21
  a21:=Tryz.isAgg21
  z21:=Tryz.sizeOf21
  v21:=Tryz.zeroValue21
  t37:=Tryz.underlying134
  a37:=Tryz.isAgg134
  z37:=Tryz.sizeOf134
  v37:=Tryz.zeroValue134
  t46:=Tryz.underlying62
  a46:=Tryz.isAgg62
  z46:=Tryz.sizeOf62
  v46:=Tryz.zeroValue62
  t51:=Tryz.underlying207
  a51:=Tryz.isAgg207
  z51:=Tryz.sizeOf207
  v51:=Tryz.zeroValue207
  t53:=Tryz.underlying152
  a53:=Tryz.isAgg152
  z53:=Tryz.sizeOf152
  v53:=Tryz.zeroValue152
  t75:=Tryz.underlying229
  a75:=Tryz.isAgg229
  z75:=Tryz.sizeOf229
  v75:=Tryz.zeroValue229
  t76:=Tryz.underlying230
  a76:=Tryz.isAgg230
  z76:=Tryz.sizeOf230
  v76:=Tryz.zeroValue230
  t85:=Tryz.underlying307
  a85:=Tryz.isAgg307
  z85:=Tryz.sizeOf307
  v85:=Tryz.zeroValue307
  t127:=Tryz.underlying251
  a127:=Tryz.isAgg251
  z127:=Tryz.sizeOf251
  v127:=Tryz.zeroValue251
  t143:=Tryz.underlying338
  a143:=Tryz.isAgg338
  z143:=Tryz.sizeOf338
  v143:=Tryz.zeroValue338
  t145:=Tryz.underlying340
  a145:=Tryz.isAgg340
  z145:=Tryz.sizeOf340
  v145:=Tryz.zeroValue340
  t167:=Tryz.underlying306
  a167:=Tryz.isAgg306
  z167:=Tryz.sizeOf306
  v167:=Tryz.zeroValue306
  t168:=Tryz.underlying309
  a168:=Tryz.isAgg309
  z168:=Tryz.sizeOf309
  v168:=Tryz.zeroValue309
  t171:=Tryz.underlying273
  a171:=Tryz.isAgg273
  z171:=Tryz.sizeOf273
  v171:=Tryz.zeroValue273
  t173:=Tryz.underlying275
  a173:=Tryz.isAgg275
  z173:=Tryz.sizeOf275
  v173:=Tryz.zeroValue275
  t175:=Tryz.underlying326
  a175:=Tryz.isAgg326
  z175:=Tryz.sizeOf326
  v175:=Tryz.zeroValue326
  t210:=Tryz.underlying330
  a210:=Tryz.isAgg330
  z210:=Tryz.sizeOf330
  v210:=Tryz.zeroValue330
  t212:=Tryz.underlying293
  a212:=Tryz.isAgg293
  z212:=Tryz.sizeOf293
  v212:=Tryz.zeroValue293
  t213:=Tryz.underlying294
  a213:=Tryz.isAgg294
  z213:=Tryz.sizeOf294
  t232:=Tryz.underlying332
  a232:=Tryz.isAgg332
  z232:=Tryz.sizeOf332
  v232:=Tryz.zeroValue332
  t233:=Tryz.underlying250
  a233:=Tryz.isAgg250
  z233:=Tryz.sizeOf250
  v233:=Tryz.zeroValue250
  g15:=by kernel_rfl
  g16:=by kernel_rfl
  g17:=by kernel_rfl
  g18:=by kernel_rfl
  g19:=by kernel_rfl
  t80:=Tryz.underlying232
  a80:=Tryz.isAgg232
  z80:=Tryz.sizeOf232
  v80:=Tryz.zeroValue232
  i0:=by kernel_rfl
  i2:=by kernel_rfl
  i3:=by kernel_rfl
  i4:=by kernel_rfl
  i5:=by kernel_rfl
  i9:=by kernel_rfl
  i20:=by kernel_rfl
  i21:=by kernel_rfl
  i37:=by kernel_rfl
  i46:=by kernel_rfl
  i51:=by kernel_rfl
  i53:=by kernel_rfl
  i75:=by kernel_rfl
  i76:=by kernel_rfl
  i80:=by kernel_rfl
  i85:=by kernel_rfl
  i127:=by kernel_rfl
  i143:=by kernel_rfl
  i145:=by kernel_rfl
  i167:=by kernel_rfl
  i168:=by kernel_rfl
  i171:=by kernel_rfl
  i173:=by kernel_rfl
  i175:=by kernel_rfl
  i210:=by kernel_rfl
  i212:=by kernel_rfl
  i232:=by kernel_rfl
  i233:=by kernel_rfl
  m15:=by kernel_rfl
  m16:=by kernel_rfl
  m17:=by kernel_rfl
  m18:=by kernel_rfl
  m19:=by kernel_rfl
  c0:=by kernel_rfl
  c2:=by kernel_rfl
  c3:=by kernel_rfl
  c4:=by kernel_rfl
  c5:=by kernel_rfl
  c9:=by kernel_rfl
  c20:=by kernel_rfl
  c21:=by kernel_rfl
  c37:=by kernel_rfl
  c46:=by kernel_rfl
  c51:=by kernel_rfl
  c53:=by kernel_rfl
  c75:=by kernel_rfl
  c76:=by kernel_rfl
  c80:=by kernel_rfl
  c85:=by kernel_rfl
  c127:=by kernel_rfl
  c143:=by kernel_rfl
  c145:=by kernel_rfl
  c167:=by kernel_rfl
  c168:=by kernel_rfl
  c171:=by kernel_rfl
  c173:=by kernel_rfl
  c175:=by kernel_rfl
  c210:=by kernel_rfl
  c212:=by kernel_rfl
  c213:=by kernel_rfl
  c232:=by kernel_rfl
  c233:=by kernel_rfl}
open Go.RowKit in
theorem Tryz.strconv_Atoi_ok (s : ByteArray) (hmax : s.size ≤ 9223372036854775806) (v : Int) (h : Lib.atoiAll s.data.toList = .ok v) (w : World) :
    Calls Tryz.prog 172 #[.string s] w fun e w'=>e = .returned (.tuple #[.int .i64 v,.nilIface])∧(w'=w∨∃ t,w'=Lib.bytesWorld w 5 t):=Any.strconv_Atoi_ok Tryz.laysC172 s hmax v h w
open Go.RowKit in
open Go.RowKit in
def Tryz.lays145_ren:Go.Shelf.Ren:=⟨fun | 145=>158 | 220=>170 | 219=>183 | 217=>204 | 225=>205 | 224=>206 | 267=>207 | 266=>222 | 314=>223 | n=>n,fun | 9=>9 | 4=>4 | 59=>259 | 3=>3 | 5=>5 | 46=>62 | 146=>323 | 51=>207 | n=>n,fun | 1=>2 | n=>n⟩
theorem Tryz.lays145:Go.Proofs.Lays.n145 Tryz.prog Tryz.lays145_ren:={
  mixed:=by kernel_rfl
  f145:=Tryz.func158.trans (congrArg some (by kernel_rfl))
  f217:=Tryz.func204.trans (congrArg some (by kernel_rfl))
  f219:=Tryz.func183.trans (congrArg some (by kernel_rfl))
  f220:=Tryz.func170.trans (congrArg some (by kernel_rfl))
  f224:=Tryz.func206.trans (congrArg some (by kernel_rfl))
  f225:=Tryz.func205.trans (congrArg some (by kernel_rfl))
  f266:=Tryz.func222.trans (congrArg some (by kernel_rfl))
  f267:=Tryz.func207.trans (congrArg some (by kernel_rfl))
  f314:=Tryz.func223.trans (congrArg some (by kernel_rfl))
  t3:=Tryz.underlying3
  a3:=Tryz.isAgg3
  z3:=Tryz.sizeOf3
  v3:=Tryz.zeroValue3
  t4:=Tryz.underlying4
  a4:=Tryz.isAgg4
  z4:=Tryz.sizeOf4
  v4:=Tryz.zeroValue4
  t5:=Tryz.underlying5
  a5:=Tryz.isAgg5
  z5:=Tryz.sizeOf5
  v5:=Tryz.zeroValue5
  t9:=Tryz.underlying9
  a9:=Tryz.isAgg9
  z9:=Tryz.sizeOf9
  v9:=Tryz.zeroValue9
  t46:=Tryz.underlying62
  a46:=Tryz.isAgg62
  z46:=Tryz.sizeOf62
  v46:=Tryz.zeroValue62
  t51:=Tryz.underlying207
  a51:=Tryz.isAgg207
  z51:=Tryz.sizeOf207
  v51:=Tryz.zeroValue207
  t59:=Tryz.underlying259
  a59:=Tryz.isAgg259
  z59:=Tryz.sizeOf259
  v59:=Tryz.zeroValue259
  t146:=Tryz.underlying323
  a146:=Tryz.isAgg323
  z146:=Tryz.sizeOf323
  v146:=Tryz.zeroValue323
  g1:=by kernel_rfl}
open Go.RowKit Go.Lib in
theorem Tryz.strings_Cut (s sep : ByteArray) (m : Int) (w : World) (hs : s.size < 4294967281) (hm : w.cell? ⟨2, 0, none⟩ = some (.int .i64 m)) :
    Calls Tryz.prog 158 #[.string s,.string sep] w fun e w'=>e = .returned (.tuple #[.string ⟨(Lib.cut s.data.toList sep.data.toList).1.toArray⟩,.string ⟨(Lib.cut s.data.toList sep.data.toList).2.1.toArray⟩,.bool (Lib.cut s.data.toList sep.data.toList).2.2])∧∃ n,w'=w.drewN n:=Any.strings_Cut Tryz.lays145 s sep m w hs hm
def Tryz.laysM145_ren:Go.Shelf.Ren:=⟨fun | 145=>158 | 220=>170 | 219=>183 | 217=>204 | 225=>205 | 224=>206 | 267=>207 | 266=>222 | 314=>223 | n=>n,fun | 9=>9 | 4=>4 | 59=>259 | 3=>3 | 5=>5 | 46=>62 | 146=>323 | 51=>207 | n=>n,fun | 1=>2 | n=>n⟩
theorem Tryz.laysM145:Go.Proofs.LaysM.n145 Tryz.prog Tryz.laysM145_ren:={
  mixed:=by kernel_rfl
  f145:=Tryz.func158.trans (congrArg some (by kernel_rfl))
  f217:=Tryz.func204.trans (congrArg some (by kernel_rfl))
  f219:=Tryz.func183.trans (congrArg some (by kernel_rfl))
  f220:=Tryz.func170.trans (congrArg some (by kernel_rfl))
  f224:=Tryz.func206.trans (congrArg some (by kernel_rfl))
  f225:=Tryz.func205.trans (congrArg some (by kernel_rfl))
  f266:=Tryz.func222.trans (congrArg some (by kernel_rfl))
  f267:=Tryz.func207.trans (congrArg some (by kernel_rfl))
  f314:=Tryz.func223.trans (congrArg some (by kernel_rfl))
  t3:=Tryz.underlying3
  a3:=Tryz.isAgg3
  z3:=Tryz.sizeOf3
  v3:=Tryz.zeroValue3
  t4:=Tryz.underlying4
  a4:=Tryz.isAgg4
  z4:=Tryz.sizeOf4
  v4:=Tryz.zeroValue4
  t5:=Tryz.underlying5
  a5:=Tryz.isAgg5
  z5:=Tryz.sizeOf5
  v5:=Tryz.zeroValue5
  t9:=Tryz.underlying9
  a9:=Tryz.isAgg9
  z9:=Tryz.sizeOf9
  v9:=Tryz.zeroValue9
  t46:=Tryz.underlying62
  a46:=Tryz.isAgg62
  z46:=Tryz.sizeOf62
  v46:=Tryz.zeroValue62
  t51:=Tryz.underlying207
  a51:=Tryz.isAgg207
  z51:=Tryz.sizeOf207
  v51:=Tryz.zeroValue207
  t59:=Tryz.underlying259
  a59:=Tryz.isAgg259
  z59:=Tryz.sizeOf259
  v59:=Tryz.zeroValue259
  t146:=Tryz.underlying323
  a146:=Tryz.isAgg323
  z146:=Tryz.sizeOf323
  v146:=Tryz.zeroValue323
  g1:=by kernel_rfl
  i3:=by kernel_rfl
  i4:=by kernel_rfl
  i5:=by kernel_rfl
  i9:=by kernel_rfl
  i46:=by kernel_rfl
  i51:=by kernel_rfl
  i59:=by kernel_rfl
  i146:=by kernel_rfl
  m1:=by kernel_rfl
  s1_3:=fun w h=>Go.Proofs.cell_of_shapedOpen_int (zero:=#[.int .i64 0]) (t:=3) h (of_decide_eq_true (by kernel_rfl)) (by kernel_rfl) rfl (by kernel_rfl) (by kernel_rfl) Tryz.underlying3}
open Go.RowKit Go.Lib in
def Tryz.lays146_ren:Go.Shelf.Ren:=⟨fun | 146=>144 | 221=>157 | 268=>167 | 138=>168 | 143=>169 | 195=>180 | 197=>181 | 218=>182 | 219=>183 | 260=>203 | 217=>204 | 225=>205 | 224=>206 | 267=>207 | 266=>222 | 314=>223 | n=>n,fun | 9=>9 | 31=>189 | 3=>3 | 4=>4 | 0=>0 | 105=>280 | 21=>21 | 5=>5 | 46=>62 | 119=>319 | 139=>322 | 138=>321 | 146=>323 | 51=>207 | n=>n,fun | 1=>2 | 3=>4 | 4=>5 | n=>n⟩
theorem Tryz.lays146:Go.Proofs.Lays.n146 Tryz.prog Tryz.lays146_ren:={
  mixed:=by kernel_rfl
  f138:=Tryz.func168.trans (congrArg some (by kernel_rfl))
  f143:=Tryz.func169.trans (congrArg some (by kernel_rfl))
  f146:=Tryz.func144.trans (congrArg some (by kernel_rfl))
  f195:=Tryz.func180.trans (congrArg some (by kernel_rfl))
  f197:=Tryz.func181.trans (congrArg some (by kernel_rfl))
  f217:=Tryz.func204.trans (congrArg some (by kernel_rfl))
  f218:=Tryz.func182.trans (congrArg some (by kernel_rfl))
  f219:=Tryz.func183.trans (congrArg some (by kernel_rfl))
  f221:=Tryz.func157.trans (congrArg some (by kernel_rfl))
  f224:=Tryz.func206.trans (congrArg some (by kernel_rfl))
  f225:=Tryz.func205.trans (congrArg some (by kernel_rfl))
  f260:=Tryz.func203.trans (congrArg some (by kernel_rfl))
  f266:=Tryz.func222.trans (congrArg some (by kernel_rfl))
  f267:=Tryz.func207.trans (congrArg some (by kernel_rfl))
  f268:=Tryz.func167.trans (congrArg some (by kernel_rfl))
  f314:=Tryz.func223.trans (congrArg some (by kernel_rfl))
  t0:=Tryz.underlying0
  a0:=Tryz.isAgg0
  z0:=Tryz.sizeOf0
  v0:=Tryz.zeroValue0
  t3:=Tryz.underlying3
  a3:=Tryz.isAgg3
  z3:=Tryz.sizeOf3
  v3:=Tryz.zeroValue3
  t4:=Tryz.underlying4
  a4:=Tryz.isAgg4
  z4:=Tryz.sizeOf4
  v4:=Tryz.zeroValue4
  t5:=Tryz.underlying5
  a5:=Tryz.isAgg5
  z5:=Tryz.sizeOf5
  v5:=Tryz.zeroValue5
  t9:=Tryz.underlying9
  a9:=Tryz.isAgg9
  z9:=Tryz.sizeOf9
  v9:=Tryz.zeroValue9
  t21:=Tryz.underlying21
  a21:=Tryz.isAgg21
  z21:=Tryz.sizeOf21
  v21:=Tryz.zeroValue21
  t31:=Tryz.underlying189
  a31:=Tryz.isAgg189
  z31:=Tryz.sizeOf189
  v31:=Tryz.zeroValue189
  t46:=Tryz.underlying62
  a46:=Tryz.isAgg62
  z46:=Tryz.sizeOf62
  v46:=Tryz.zeroValue62
  t51:=Tryz.underlying207
  a51:=Tryz.isAgg207
  z51:=Tryz.sizeOf207
  v51:=Tryz.zeroValue207
  t105:=Tryz.underlying280
  a105:=Tryz.isAgg280
  z105:=Tryz.sizeOf280
  v105:=Tryz.zeroValue280
  t119:=Tryz.underlying319
  a119:=Tryz.isAgg319
  z119:=Tryz.sizeOf319
  t138:=Tryz.underlying321
  a138:=Tryz.isAgg321
  z138:=Tryz.sizeOf321
  v138:=Tryz.zeroValue321
  t139:=Tryz.underlying322
  a139:=Tryz.isAgg322
  z139:=Tryz.sizeOf322
  v139:=Tryz.zeroValue322
  t146:=Tryz.underlying323
  a146:=Tryz.isAgg323
  z146:=Tryz.sizeOf323
  v146:=Tryz.zeroValue323
  g1:=by kernel_rfl
  g3:=by kernel_rfl
  g4:=by kernel_rfl}
open Go.RowKit Go.Lib in
theorem Tryz.strings_Split (s sep : ByteArray) (m : Int) (w : World) (hs : s.size < 4294967281) (hm : w.cell? ⟨2, 0, none⟩ = some (.int .i64 m)) (h1 : 1 ≤ sep.size) :
    Calls Tryz.prog 144 #[.string s,.string sep] w fun e w' =>
      e = .returned (.slice (some ⟨w.heap.size,0,none⟩) (Lib.countB s sep+1) (Lib.countB s sep+1))∧w'=w.alloc (.cells ((Lib.splitB sep 0 (Lib.countB s sep) s).map Value.string).toArray 9):=Any.strings_Split Tryz.lays146 (by kernel_rfl) s sep m w hs hm h1
def Tryz.lays229_ren:Go.Shelf.Ren:=⟨fun | 229=>127 | n=>n,fun | 9=>9 | 40=>200 | 31=>189 | 152=>241 | 3=>3 | 0=>0 | 4=>4 | 21=>21 | 154=>243 | n=>n,fun | n=>n⟩
theorem Tryz.lays229:Go.Proofs.Lays.n229 Tryz.prog Tryz.lays229_ren:={
  mixed:=by kernel_rfl
  f229:=Tryz.func127.trans (congrArg some (by kernel_rfl))
  t0:=Tryz.underlying0
  a0:=Tryz.isAgg0
  z0:=Tryz.sizeOf0
  v0:=Tryz.zeroValue0
  t3:=Tryz.underlying3
  a3:=Tryz.isAgg3
  z3:=Tryz.sizeOf3
  v3:=Tryz.zeroValue3
  t4:=Tryz.underlying4
  a4:=Tryz.isAgg4
  z4:=Tryz.sizeOf4
  v4:=Tryz.zeroValue4
  t9:=Tryz.underlying9
  a9:=Tryz.isAgg9
  z9:=Tryz.sizeOf9
  v9:=Tryz.zeroValue9
  t21:=Tryz.underlying21
  a21:=Tryz.isAgg21
  z21:=Tryz.sizeOf21
  v21:=Tryz.zeroValue21
  t31:=Tryz.underlying189
  a31:=Tryz.isAgg189
  z31:=Tryz.sizeOf189
  v31:=Tryz.zeroValue189
  t40:=Tryz.underlying200
  a40:=Tryz.isAgg200
  z40:=Tryz.sizeOf200
  v40:=Tryz.zeroValue200
  t152:=Tryz.underlying241
  a152:=Tryz.isAgg241
  z152:=Tryz.sizeOf241
  v152:=Tryz.zeroValue241
  t154:=Tryz.underlying243
  a154:=Tryz.isAgg243
  z154:=Tryz.sizeOf243
  v154:=Tryz.zeroValue243}
open Go.RowKit Go.Lib in
theorem Tryz.strings_FieldsFunc_runes (g : Nat) (lb : Array Value) (eg : ∀ args w, (callFunc g args).run Tryz.prog w = .ok (.enter g args) w) (p : Nat → Bool) (s : ByteArray) (w : World) (hs : s.size ≤ 4294967296) (hp : PredAtRunes Tryz.prog g lb p w) :
    Calls Tryz.prog 127 #[.string s,.func (.func g) #[] lb] w fun e w'=>∃ A,e = .returned (.slice (some ⟨A,0,none⟩) (Lib.goFieldsP p s).length (Lib.goFieldsP p s).length)∧w.heap.size≤A ∧
      w'.ownsRow w.heap.size 9 1 (.slice (some ⟨A,0,none⟩) (Lib.goFieldsP p s).length (Lib.goFieldsP p s).length) (Lib.goFieldsP p s).length ((Lib.goFieldsP p s).map Value.string)∧Below w.heap.size w w':=Any.strings_FieldsFunc_runes Tryz.lays229 g lb eg p s w hs hp (by kernel_rfl) (by kernel_rfl)
def Tryz.lays160_ren:Go.Shelf.Ren:=⟨fun | 160=>171 | 232=>185 | 231=>184 | 227=>186 | 234=>188 | 233=>187 | 236=>190 | 235=>189 | 228=>208 | 271=>210 | 151=>209 | 197=>181 | 120=>225 | 152=>224 | 260=>203 | 137=>234 | 119=>235 | 224=>206 | 225=>205 | 217=>204 | 266=>222 | n=>n,fun | 9=>9 | 4=>4 | 3=>3 | 5=>5 | 117=>286 | 116=>285 | 0=>0 | 124=>289 | 21=>21 | 105=>280 | 46=>62 | 119=>319 | 139=>322 | 138=>321 | n=>n,fun | 3=>4 | 4=>5 | n=>n⟩
theorem Tryz.lays160:Go.Proofs.Lays.n160 Tryz.prog Tryz.lays160_ren:={
  mixed:=by kernel_rfl
  f119:=Tryz.func235.trans (congrArg some (by kernel_rfl))
  f120:=Tryz.func225.trans (congrArg some (by kernel_rfl))
  f137:=Tryz.func234.trans (congrArg some (by kernel_rfl))
  f151:=Tryz.func209.trans (congrArg some (by kernel_rfl))
  f152:=Tryz.func224.trans (congrArg some (by kernel_rfl))
  f160:=Tryz.func171.trans (congrArg some (by kernel_rfl))
  f197:=Tryz.func181.trans (congrArg some (by kernel_rfl))
  f217:=Tryz.func204.trans (congrArg some (by kernel_rfl))
  f224:=Tryz.func206.trans (congrArg some (by kernel_rfl))
  f225:=Tryz.func205.trans (congrArg some (by kernel_rfl))
  f227:=Tryz.func186.trans (congrArg some (by kernel_rfl))
  f228:=Tryz.func208.trans (congrArg some (by kernel_rfl))
  f231:=Tryz.func184.trans (congrArg some (by kernel_rfl))
  f232:=Tryz.func185.trans (congrArg some (by kernel_rfl))
  f233:=Tryz.func187.trans (congrArg some (by kernel_rfl))
  f234:=Tryz.func188.trans (congrArg some (by kernel_rfl))
  f235:=Tryz.func189.trans (congrArg some (by kernel_rfl))
  f236:=Tryz.func190.trans (congrArg some (by kernel_rfl))
  f260:=Tryz.func203.trans (congrArg some (by kernel_rfl))
  f266:=Tryz.func222.trans (congrArg some (by kernel_rfl))
  f271:=Tryz.func210.trans (congrArg some (by kernel_rfl))
  t0:=Tryz.underlying0
  a0:=Tryz.isAgg0
  z0:=Tryz.sizeOf0
  v0:=Tryz.zeroValue0
  t3:=Tryz.underlying3
  a3:=Tryz.isAgg3
  z3:=Tryz.sizeOf3
  v3:=Tryz.zeroValue3
  t4:=Tryz.underlying4
  a4:=Tryz.isAgg4
  z4:=Tryz.sizeOf4
  v4:=Tryz.zeroValue4
  t5:=Tryz.underlying5
  a5:=Tryz.isAgg5
  z5:=Tryz.sizeOf5
  v5:=Tryz.zeroValue5
  t9:=Tryz.underlying9
  a9:=Tryz.isAgg9
  z9:=Tryz.sizeOf9
  v9:=Tryz.zeroValue9
  t21:=Tryz.underlying21
  a21:=Tryz.isAgg21
  z21:=Tryz.sizeOf21
  v21:=Tryz.zeroValue21
  t46:=Tryz.underlying62
  a46:=Tryz.isAgg62
  z46:=Tryz.sizeOf62
  v46:=Tryz.zeroValue62
  t105:=Tryz.underlying280
  a105:=Tryz.isAgg280
  z105:=Tryz.sizeOf280
  v105:=Tryz.zeroValue280
  t116:=Tryz.underlying285
  a116:=Tryz.isAgg285
  z116:=Tryz.sizeOf285
  t117:=Tryz.underlying286
  a117:=Tryz.isAgg286
  z117:=Tryz.sizeOf286
  v117:=Tryz.zeroValue286
  t119:=Tryz.underlying319
  a119:=Tryz.isAgg319
  z119:=Tryz.sizeOf319
  t124:=Tryz.underlying289
  a124:=Tryz.isAgg289
  z124:=Tryz.sizeOf289
  v124:=Tryz.zeroValue289
  t138:=Tryz.underlying321
  a138:=Tryz.isAgg321
  z138:=Tryz.sizeOf321
  v138:=Tryz.zeroValue321
  t139:=Tryz.underlying322
  a139:=Tryz.isAgg322
  z139:=Tryz.sizeOf322
  v139:=Tryz.zeroValue322
  g3:=by kernel_rfl
  g4:=by kernel_rfl}
open Go.RowKit Go.Lib in
theorem Tryz.strings_Trim_ascii (s cutset : ByteArray) (w : World) (hs : s.size ≤ 9223372036854775807) (hcs : cutset.size < 4294967281)
    (hascii:∀ (j:Nat) b,cutset.data.toList[j]? = some b→b.toNat<128) :
    Calls Tryz.prog 171 #[.string s,.string cutset] w fun e w'=>e = .returned (.string ⟨(Lib.trimS s.data.toList cutset.data.toList).toArray⟩)∧Below w.heap.size w w' :=
  Any.strings_Trim_ascii Tryz.lays160 (fun _=>by kernel_rfl) (by kernel_rfl) s cutset w hs hcs hascii
def Tryz.lays7_29_ren:Go.Shelf.Ren:=⟨fun | 29=>132 | n=>n,fun | 22=>152 | 3=>3 | 4=>4 | 25=>62 | 54=>250 | 0=>0 | 5=>5 | n=>n,fun | 1=>1 | n=>n⟩
theorem Tryz.lays7_29:Go.Proofs.Lays7.n29 Tryz.prog Tryz.lays7_29_ren:={
  mixed:=by kernel_rfl
  f29:=Tryz.func132.trans (congrArg some (by kernel_rfl))
  t0:=Tryz.underlying0
  a0:=Tryz.isAgg0
  z0:=Tryz.sizeOf0
  v0:=Tryz.zeroValue0
  i0:=by kernel_rfl
  t3:=Tryz.underlying3
  a3:=Tryz.isAgg3
  z3:=Tryz.sizeOf3
  v3:=Tryz.zeroValue3
  i3:=by kernel_rfl
  t4:=Tryz.underlying4
  a4:=Tryz.isAgg4
  z4:=Tryz.sizeOf4
  v4:=Tryz.zeroValue4
  i4:=by kernel_rfl
  t5:=Tryz.underlying5
  a5:=Tryz.isAgg5
  z5:=Tryz.sizeOf5
  v5:=Tryz.zeroValue5
  i5:=by kernel_rfl
  t22:=Tryz.underlying152
  a22:=Tryz.isAgg152
  z22:=Tryz.sizeOf152
  v22:=Tryz.zeroValue152
  i22:=by kernel_rfl
  t25:=Tryz.underlying62
  a25:=Tryz.isAgg62
  z25:=Tryz.sizeOf62
  v25:=Tryz.zeroValue62
  i25:=by kernel_rfl
  t54:=Tryz.underlying250
  a54:=Tryz.isAgg250
  z54:=Tryz.sizeOf250
  g1:=by kernel_rfl}
open Go.RowKit Go.Lib in
theorem Tryz.bits_TrailingZeros64 (x : Nat) (hx : x < 18446744073709551616) (w : World) (hT : x ≠ 0 → TabAt (Tryz.lays7_29_ren.g 1) Lib.deBruijn64tab w) :
    Calls Tryz.prog 132 #[.int .u64 x] w fun e w'=>e = .returned (.int .i64 (Lib.ctz 64 x))∧w'=w:=Any7.bits_TrailingZeros64 Tryz.lays7_29 x hx w hT
end Go.Proofs
