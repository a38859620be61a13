import Derived.Shelf.Strings.SlTrimAscii
import Derived.Shelf.Spec.TrailingZeros
import Derived.Shelf.Small.Bits
import Derived.Shelf.Small.Wraps
import Derived.Shelf.Strconv.Atoi
import Derived.Shelf.Strconv.Itoa0
import Derived.Shelf.Strconv.Itoa1
import Derived.Shelf.LaysM
import Derived.Shelf.Strconv.Itoa2
import Derived.Shelf.Strconv.Itoa3
import Derived.Shelf.Strconv.AtoiErrFast
import Derived.Shelf.Strconv.ParseIntEmpty
import Derived.Shelf.Strconv.AtoiFail
import Derived.Shelf.Strconv.Clone
import Derived.Shelf.Strconv.SyntaxError
import Derived.Shelf.LaysC
import Derived.Shelf.Strconv.ToError
import Derived.Shelf.Strconv.Lower
import Derived.Shelf.Strconv.ParseUint10
import Derived.Shelf.Strconv.ParseUint10Empty
import Derived.Shelf.Strconv.ParseUint10Any
import Derived.Shelf.Strconv.ParseInt10
import Derived.Shelf.Strconv.AtoiLong
import Derived.Shelf.Strconv.AtoiInnerAll
import Derived.Shelf.Strconv.RangeError
import Derived.Shelf.Strconv.ToErrorRange
import Derived.Shelf.Strconv.AtoiAll
import Derived.Shelf.Strconv.ErrVarAll
import Derived.Shelf.Strconv.ParseUintEmpty
import Derived.Shelf.Strconv.ParseUint10b64
import Derived.Shelf.Strconv.ParseUint10b32
import Derived.Shelf.Strconv.ParseUint10b16
import Derived.Shelf.Strconv.ParseUint10b8
import Derived.Shelf.Strconv.ParseUint10At
import Derived.Shelf.Strconv.ParseInt10At64
import Derived.Shelf.Strconv.ParseInt10At32
import Derived.Shelf.Strconv.ParseInt10At16
import Derived.Shelf.Strconv.ParseInt10At8
import Derived.Shelf.Strconv.ParseInt10All
import Derived.Shelf.Sort.Plain
import Derived.Shelf.Strings.Prefix
import Derived.Shelf.Bits.Mul64
import Derived.Shelf.Slices.In.SortNone
import Derived.Test.YtjpmdkgonlmddaaGreatDoorProg
set_option linter.unusedVariables false
namespace Go.Proofs
open Go.Shelf
def Tryz.ma:Go.Shelf.Ren:=⟨fun|103=>136|210=>176|206=>210|n=>n,fun|9=>9|4=>4|24=>229|3=>3|n=>n,fun|n=>n⟩
theorem Tryz.sr:Go.Proofs.Lays.n103 Tryz.prog Tryz.ma:={
 mixed:=by kernel_rfl
 f103:=Tryz.func136.trans (congrArg some (by kernel_rfl))
 f206:=Tryz.func210.trans (congrArg some (by kernel_rfl))
 f210:=Tryz.func176.trans (congrArg some (by kernel_rfl))
 t3:=Tryz.underlying3
 a3:=Tryz.isAgg3
 z3:=Tryz.sizeOf3
 v3:=Tryz.zeroValue3
 t4:=Tryz.underlying4
 a4:=Tryz.isAgg4
 z4:=Tryz.sizeOf4
 v4:=Tryz.zeroValue4
 t9:=Tryz.underlying9
 a9:=Tryz.isAgg9
 z9:=Tryz.sizeOf9
 v9:=Tryz.zeroValue9
 t24:=Tryz.underlying229
 a24:=Tryz.isAgg229
 z24:=Tryz.sizeOf229
 v24:=Tryz.zeroValue229}
open Go.RowKit in
theorem Tryz.strings_CutPrefix(s p:ByteArray)(w:World):
 Calls Tryz.prog 136 #[.string s,.string p] w fun e w'=>e=.returned (.tuple #[.string ⟨(Lib.trimPrefix s.data.toList p.data.toList).toArray⟩,.bool (Lib.hasPrefix s.data.toList p.data.toList)])∧w'=w:=Any.strings_CutPrefix Tryz.sr s p w
def Tryz.ly:Go.Shelf.Ren:=⟨fun|171=>92|243=>141|246=>190|283=>222|284=>223|285=>224|286=>225|129=>189|317=>239|318=>240|319=>241|320=>242|337=>261|338=>262|n=>n,fun|3=>3|9=>9|2=>2|4=>4|171=>303|0=>0|53=>118|37=>80|5=>5|173=>305|212=>324|51=>48|20=>20|213=>325|46=>54|232=>352|233=>353|n=>n,fun|17=>2|18=>3|19=>4|n=>n⟩
theorem Tryz.pS:Go.Proofs.LaysM.n171 Tryz.prog Tryz.ly:={
 mixed:=by kernel_rfl
 f129:=Tryz.func189.trans (congrArg some (by kernel_rfl))
 f171:=Tryz.func92.trans (congrArg some (by kernel_rfl))
 f243:=Tryz.func141.trans (congrArg some (by kernel_rfl))
 f246:=Tryz.func190.trans (congrArg some (by kernel_rfl))
 f283:=Tryz.func222.trans (congrArg some (by kernel_rfl))
 f284:=Tryz.func223.trans (congrArg some (by kernel_rfl))
 f285:=Tryz.func224.trans (congrArg some (by kernel_rfl))
 f286:=Tryz.func225.trans (congrArg some (by kernel_rfl))
 f317:=Tryz.func239.trans (congrArg some (by kernel_rfl))
 f318:=Tryz.func240.trans (congrArg some (by kernel_rfl))
 f319:=Tryz.func241.trans (congrArg some (by kernel_rfl))
 f320:=Tryz.func242.trans (congrArg some (by kernel_rfl))
 f337:=Tryz.func261.trans (congrArg some (by kernel_rfl))
 f338:=Tryz.func262.trans (congrArg some (by kernel_rfl))
 t0:=Tryz.underlying0
 a0:=Tryz.isAgg0
 z0:=Tryz.sizeOf0
 v0:=Tryz.zeroValue0
 t2:=Tryz.underlying2
 a2:=Tryz.isAgg2
 z2:=Tryz.sizeOf2
 v2:=Tryz.zeroValue2
 t3:=Tryz.underlying3
 a3:=Tryz.isAgg3
 z3:=Tryz.sizeOf3
 v3:=Tryz.zeroValue3
 t4:=Tryz.underlying4
 a4:=Tryz.isAgg4
 z4:=Tryz.sizeOf4
 v4:=Tryz.zeroValue4
 t5:=Tryz.underlying5
 a5:=Tryz.isAgg5
 z5:=Tryz.sizeOf5
 v5:=Tryz.zeroValue5
 t9:=Tryz.underlying9
 a9:=Tryz.isAgg9
 z9:=Tryz.sizeOf9
 v9:=Tryz.zeroValue9
 t20:=Tryz.underlying20
 a20:=Tryz.isAgg20
 z20:=Tryz.sizeOf20
 v20:=Tryz.zeroValue20
 t37:=Tryz.underlying80
 a37:=Tryz.isAgg80
 z37:=Tryz.sizeOf80
 v37:=Tryz.zeroValue80
 t46:=Tryz.underlying54
 a46:=Tryz.isAgg54
 z46:=Tryz.sizeOf54
 v46:=Tryz.zeroValue54
 t51:=Tryz.underlying48
 a51:=Tryz.isAgg48
 z51:=Tryz.sizeOf48
 v51:=Tryz.zeroValue48
 t53:=Tryz.underlying118
 a53:=Tryz.isAgg118
 z53:=Tryz.sizeOf118
 v53:=Tryz.zeroValue118
 t171:=Tryz.underlying303
 a171:=Tryz.isAgg303
 z171:=Tryz.sizeOf303
 v171:=Tryz.zeroValue303
 t173:=Tryz.underlying305
 a173:=Tryz.isAgg305
 z173:=Tryz.sizeOf305
 v173:=Tryz.zeroValue305
 t212:=Tryz.underlying324
 a212:=Tryz.isAgg324
 z212:=Tryz.sizeOf324
 v212:=Tryz.zeroValue324
 t213:=Tryz.underlying325
 a213:=Tryz.isAgg325
 z213:=Tryz.sizeOf325
 t232:=Tryz.underlying352
 a232:=Tryz.isAgg352
 z232:=Tryz.sizeOf352
 v232:=Tryz.zeroValue352
 t233:=Tryz.underlying353
 a233:=Tryz.isAgg353
 z233:=Tryz.sizeOf353
 v233:=Tryz.zeroValue353
 g17:=by kernel_rfl
 g18:=by kernel_rfl
 g19:=by kernel_rfl
 i0:=by kernel_rfl
 i2:=by kernel_rfl
 i3:=by kernel_rfl
 i4:=by kernel_rfl
 i5:=by kernel_rfl
 i9:=by kernel_rfl
 i20:=by kernel_rfl
 i37:=by kernel_rfl
 i46:=by kernel_rfl
 i51:=by kernel_rfl
 i53:=by kernel_rfl
 i171:=by kernel_rfl
 i173:=by kernel_rfl
 i212:=by kernel_rfl
 i232:=by kernel_rfl
 i233:=by kernel_rfl
 m17:=by kernel_rfl
 m18:=by kernel_rfl
 m19:=by kernel_rfl}
open Go.RowKit Go.Sort Go.Lib in
theorem Tryz.strconv_Itoa(n:Int)(h0: -9223372036854775808≤n)(h1:n≤9223372036854775807)(w:World)(htab:Lib.TabIs Tryz.prog w "internal/strconv.uint64pow10" .u64 Lib.pow10Tab):
 Calls Tryz.prog 92 #[.int .i64 n] w fun e w'=>e=.returned (.string ⟨(Lib.itoa n).toArray⟩)∧∃k os,w'=grow (w.drewN k) os:=Any.strconv_Itoa Tryz.pS n h0 h1 w htab
def Tryz.lz:Go.Shelf.Ren:=⟨fun|172=>137|244=>177|245=>178|247=>211|279=>212|280=>213|281=>214|282=>215|287=>235|316=>236|171=>92|205=>237|321=>259|322=>260|243=>141|246=>190|283=>222|284=>223|285=>224|286=>225|129=>189|317=>239|318=>240|319=>241|320=>242|337=>261|338=>262|n=>n,fun|9=>9|3=>3|75=>232|76=>233|4=>4|5=>5|167=>291|37=>80|0=>0|85=>292|2=>2|168=>294|53=>118|175=>314|46=>54|210=>318|127=>342|145=>345|143=>343|21=>21|171=>303|173=>305|212=>324|51=>48|20=>20|213=>325|232=>352|233=>353|80=>363|n=>n,fun|15=>0|16=>1|17=>2|18=>3|19=>4|n=>n⟩
theorem Tryz.jY:Go.Proofs.LaysC.n172 Tryz.prog Tryz.lz:={
 mixed:=by kernel_rfl
 f129:=Tryz.func189.trans (congrArg some (by kernel_rfl))
 f171:=Tryz.func92.trans (congrArg some (by kernel_rfl))
 f172:=Tryz.func137.trans (congrArg some (by kernel_rfl))
 f205:=Tryz.func237.trans (congrArg some (by kernel_rfl))
 f243:=Tryz.func141.trans (congrArg some (by kernel_rfl))
 f244:=Tryz.func177.trans (congrArg some (by kernel_rfl))
 f245:=Tryz.func178.trans (congrArg some (by kernel_rfl))
 f246:=Tryz.func190.trans (congrArg some (by kernel_rfl))
 f247:=Tryz.func211.trans (congrArg some (by kernel_rfl))
 f279:=Tryz.func212.trans (congrArg some (by kernel_rfl))
 f280:=Tryz.func213.trans (congrArg some (by kernel_rfl))
 f281:=Tryz.func214.trans (congrArg some (by kernel_rfl))
 f282:=Tryz.func215.trans (congrArg some (by kernel_rfl))
 f283:=Tryz.func222.trans (congrArg some (by kernel_rfl))
 f284:=Tryz.func223.trans (congrArg some (by kernel_rfl))
 f285:=Tryz.func224.trans (congrArg some (by kernel_rfl))
 f286:=Tryz.func225.trans (congrArg some (by kernel_rfl))
 f287:=Tryz.func235.trans (congrArg some (by kernel_rfl))
 f316:=Tryz.func236.trans (congrArg some (by kernel_rfl))
 f317:=Tryz.func239.trans (congrArg some (by kernel_rfl))
 f318:=Tryz.func240.trans (congrArg some (by kernel_rfl))
 f319:=Tryz.func241.trans (congrArg some (by kernel_rfl))
 f320:=Tryz.func242.trans (congrArg some (by kernel_rfl))
 f321:=Tryz.func259.trans (congrArg some (by kernel_rfl))
 f322:=Tryz.func260.trans (congrArg some (by kernel_rfl))
 f337:=Tryz.func261.trans (congrArg some (by kernel_rfl))
 f338:=Tryz.func262.trans (congrArg some (by kernel_rfl))
 t0:=Tryz.underlying0
 a0:=Tryz.isAgg0
 z0:=Tryz.sizeOf0
 v0:=Tryz.zeroValue0
 t2:=Tryz.underlying2
 a2:=Tryz.isAgg2
 z2:=Tryz.sizeOf2
 v2:=Tryz.zeroValue2
 t3:=Tryz.underlying3
 a3:=Tryz.isAgg3
 z3:=Tryz.sizeOf3
 v3:=Tryz.zeroValue3
 t4:=Tryz.underlying4
 a4:=Tryz.isAgg4
 z4:=Tryz.sizeOf4
 v4:=Tryz.zeroValue4
 t5:=Tryz.underlying5
 a5:=Tryz.isAgg5
 z5:=Tryz.sizeOf5
 v5:=Tryz.zeroValue5
 t9:=Tryz.underlying9
 a9:=Tryz.isAgg9
 z9:=Tryz.sizeOf9
 v9:=Tryz.zeroValue9
 t20:=Tryz.underlying20
 a20:=Tryz.isAgg20
 z20:=Tryz.sizeOf20
 v20:=Tryz.zeroValue20
 t21:=Tryz.underlying21
 a21:=Tryz.isAgg21
 z21:=Tryz.sizeOf21
 v21:=Tryz.zeroValue21
 t37:=Tryz.underlying80
 a37:=Tryz.isAgg80
 z37:=Tryz.sizeOf80
 v37:=Tryz.zeroValue80
 t46:=Tryz.underlying54
 a46:=Tryz.isAgg54
 z46:=Tryz.sizeOf54
 v46:=Tryz.zeroValue54
 t51:=Tryz.underlying48
 a51:=Tryz.isAgg48
 z51:=Tryz.sizeOf48
 v51:=Tryz.zeroValue48
 t53:=Tryz.underlying118
 a53:=Tryz.isAgg118
 z53:=Tryz.sizeOf118
 v53:=Tryz.zeroValue118
 t75:=Tryz.underlying232
 a75:=Tryz.isAgg232
 z75:=Tryz.sizeOf232
 v75:=Tryz.zeroValue232
 t76:=Tryz.underlying233
 a76:=Tryz.isAgg233
 z76:=Tryz.sizeOf233
 v76:=Tryz.zeroValue233
 t85:=Tryz.underlying292
 a85:=Tryz.isAgg292
 z85:=Tryz.sizeOf292
 v85:=Tryz.zeroValue292
 t127:=Tryz.underlying342
 a127:=Tryz.isAgg342
 z127:=Tryz.sizeOf342
 v127:=Tryz.zeroValue342
 t143:=Tryz.underlying343
 a143:=Tryz.isAgg343
 z143:=Tryz.sizeOf343
 v143:=Tryz.zeroValue343
 t145:=Tryz.underlying345
 a145:=Tryz.isAgg345
 z145:=Tryz.sizeOf345
 v145:=Tryz.zeroValue345
 t167:=Tryz.underlying291
 a167:=Tryz.isAgg291
 z167:=Tryz.sizeOf291
 v167:=Tryz.zeroValue291
 t168:=Tryz.underlying294
 a168:=Tryz.isAgg294
 z168:=Tryz.sizeOf294
 v168:=Tryz.zeroValue294
 t171:=Tryz.underlying303
 a171:=Tryz.isAgg303
 z171:=Tryz.sizeOf303
 v171:=Tryz.zeroValue303
 t173:=Tryz.underlying305
 a173:=Tryz.isAgg305
 z173:=Tryz.sizeOf305
 v173:=Tryz.zeroValue305
 t175:=Tryz.underlying314
 a175:=Tryz.isAgg314
 z175:=Tryz.sizeOf314
 v175:=Tryz.zeroValue314
 t210:=Tryz.underlying318
 a210:=Tryz.isAgg318
 z210:=Tryz.sizeOf318
 v210:=Tryz.zeroValue318
 t212:=Tryz.underlying324
 a212:=Tryz.isAgg324
 z212:=Tryz.sizeOf324
 v212:=Tryz.zeroValue324
 t213:=Tryz.underlying325
 a213:=Tryz.isAgg325
 z213:=Tryz.sizeOf325
 t232:=Tryz.underlying352
 a232:=Tryz.isAgg352
 z232:=Tryz.sizeOf352
 v232:=Tryz.zeroValue352
 t233:=Tryz.underlying353
 a233:=Tryz.isAgg353
 z233:=Tryz.sizeOf353
 v233:=Tryz.zeroValue353
 g15:=by kernel_rfl
 g16:=by kernel_rfl
 g17:=by kernel_rfl
 g18:=by kernel_rfl
 g19:=by kernel_rfl
 t80:=Tryz.underlying363
 a80:=Tryz.isAgg363
 z80:=Tryz.sizeOf363
 v80:=Tryz.zeroValue363
 i0:=by kernel_rfl
 i2:=by kernel_rfl
 i3:=by kernel_rfl
 i4:=by kernel_rfl
 i5:=by kernel_rfl
 i9:=by kernel_rfl
 i20:=by kernel_rfl
 i21:=by kernel_rfl
 i37:=by kernel_rfl
 i46:=by kernel_rfl
 i51:=by kernel_rfl
 i53:=by kernel_rfl
 i75:=by kernel_rfl
 i76:=by kernel_rfl
 i80:=by kernel_rfl
 i85:=by kernel_rfl
 i127:=by kernel_rfl
 i143:=by kernel_rfl
 i145:=by kernel_rfl
 i167:=by kernel_rfl
 i168:=by kernel_rfl
 i171:=by kernel_rfl
 i173:=by kernel_rfl
 i175:=by kernel_rfl
 i210:=by kernel_rfl
 i212:=by kernel_rfl
 i232:=by kernel_rfl
 i233:=by kernel_rfl
 m15:=by kernel_rfl
 m16:=by kernel_rfl
 m17:=by kernel_rfl
 m18:=by kernel_rfl
 m19:=by kernel_rfl
 c0:=by kernel_rfl
 c2:=by kernel_rfl
 c3:=by kernel_rfl
 c4:=by kernel_rfl
 c5:=by kernel_rfl
 c9:=by kernel_rfl
 c20:=by kernel_rfl
 c21:=by kernel_rfl
 c37:=by kernel_rfl
 c46:=by kernel_rfl
 c51:=by kernel_rfl
 c53:=by kernel_rfl
 c75:=by kernel_rfl
 c76:=by kernel_rfl
 c80:=by kernel_rfl
 c85:=by kernel_rfl
 c127:=by kernel_rfl
 c143:=by kernel_rfl
 c145:=by kernel_rfl
 c167:=by kernel_rfl
 c168:=by kernel_rfl
 c171:=by kernel_rfl
 c173:=by kernel_rfl
 c175:=by kernel_rfl
 c210:=by kernel_rfl
 c212:=by kernel_rfl
 c213:=by kernel_rfl
 c232:=by kernel_rfl
 c233:=by kernel_rfl}
open Go.RowKit in
theorem Tryz.strconv_Atoi_ok(s:ByteArray)(hmax:s.size≤9223372036854775806)(v:Int)(h:Lib.atoiAll s.data.toList=.ok v)(w:World):
 Calls Tryz.prog 137 #[.string s] w fun e w'=>e=.returned (.tuple #[.int .i64 v,.nilIface])∧(w'=w∨∃t,w'=Lib.bytesWorld w 5 t):=Any.strconv_Atoi_ok Tryz.jY s hmax v h w
open Go.RowKit in
theorem Tryz.iR(s:ByteArray)(hlim:s.size≤281474976710656)(h1:∀n,Lib.atoiAll s.data.toList≠.ok n)(h2:Lib.atoiAll s.data.toList≠.range)(ev:Value)(w:World)(hv:w.cell? ⟨0,0,none⟩=some ev)(hev:ev=.nilIface∨∃te pe,ev=.iface te pe):
 Calls Tryz.prog 137 #[.string s] w fun e w'=>∃N,e=.returned (.tuple #[.int .i64 (0),.iface 294 (.pointer (some ⟨N,0,none⟩))])∧w.heap.size≤N∧w'.heap[N]? =some (.cells #[.string ⟨#[65,116,111,105]⟩,.string s,ev] 318 (0,0))∧Below w.heap.size w w':=Any.strconv_Atoi_syntax Tryz.jY s hlim (by cases e:Lib.atoiAll s.data.toList<;>first|rfl|exact absurd e (h1 _)|exact absurd e h2) ev w hv hev
open Go.RowKit in
theorem Tryz.strconv_Atoi_range(s:ByteArray)(hlim:s.size≤281474976710656)(h:Lib.atoiAll s.data.toList=.range)(ev:Value)(w:World)(hv:w.cell? ⟨1,0,none⟩=some ev)(hev:ev=.nilIface∨∃te pe,ev=.iface te pe):
 Calls Tryz.prog 137 #[.string s] w fun e w'=>∃N,e=.returned (.tuple #[.int .i64 (Lib.atoiSat s.data.toList),.iface 294 (.pointer (some ⟨N,0,none⟩))])∧w.heap.size≤N∧w'.heap[N]? =some (.cells #[.string ⟨#[65,116,111,105]⟩,.string s,ev] 318 (0,0))∧Below w.heap.size w w':=Any.strconv_Atoi_range Tryz.jY s hlim h ev w hv hev
def Tryz.l9:Go.Shelf.Ren:=⟨fun|189=>90|125=>139|257=>138|128=>188|129=>189|294=>179|295=>180|296=>181|297=>182|298=>183|299=>184|216=>185|300=>186|301=>187|328=>216|329=>217|330=>218|331=>219|332=>220|215=>221|343=>238|n=>n,fun|28=>32|3=>3|46=>54|0=>0|51=>48|53=>118|4=>4|183=>268|182=>267|131=>83|5=>5|9=>9|218=>297|222=>301|228=>320|229=>321|n=>n,fun|n=>n⟩
theorem Tryz.nQ:Go.Proofs.Lays.n189 Tryz.prog Tryz.l9:={
 mixed:=by kernel_rfl
 f125:=Tryz.func139.trans (congrArg some (by kernel_rfl))
 f128:=Tryz.func188.trans (congrArg some (by kernel_rfl))
 f129:=Tryz.func189.trans (congrArg some (by kernel_rfl))
 f189:=Tryz.func90.trans (congrArg some (by kernel_rfl))
 f215:=Tryz.func221.trans (congrArg some (by kernel_rfl))
 f216:=Tryz.func185.trans (congrArg some (by kernel_rfl))
 f257:=Tryz.func138.trans (congrArg some (by kernel_rfl))
 f294:=Tryz.func179.trans (congrArg some (by kernel_rfl))
 f295:=Tryz.func180.trans (congrArg some (by kernel_rfl))
 f296:=Tryz.func181.trans (congrArg some (by kernel_rfl))
 f297:=Tryz.func182.trans (congrArg some (by kernel_rfl))
 f298:=Tryz.func183.trans (congrArg some (by kernel_rfl))
 f299:=Tryz.func184.trans (congrArg some (by kernel_rfl))
 f300:=Tryz.func186.trans (congrArg some (by kernel_rfl))
 f301:=Tryz.func187.trans (congrArg some (by kernel_rfl))
 f328:=Tryz.func216.trans (congrArg some (by kernel_rfl))
 f329:=Tryz.func217.trans (congrArg some (by kernel_rfl))
 f330:=Tryz.func218.trans (congrArg some (by kernel_rfl))
 f331:=Tryz.func219.trans (congrArg some (by kernel_rfl))
 f332:=Tryz.func220.trans (congrArg some (by kernel_rfl))
 f343:=Tryz.func238.trans (congrArg some (by kernel_rfl))
 t0:=Tryz.underlying0
 a0:=Tryz.isAgg0
 z0:=Tryz.sizeOf0
 v0:=Tryz.zeroValue0
 t3:=Tryz.underlying3
 a3:=Tryz.isAgg3
 z3:=Tryz.sizeOf3
 v3:=Tryz.zeroValue3
 t4:=Tryz.underlying4
 a4:=Tryz.isAgg4
 z4:=Tryz.sizeOf4
 v4:=Tryz.zeroValue4
 t5:=Tryz.underlying5
 a5:=Tryz.isAgg5
 z5:=Tryz.sizeOf5
 v5:=Tryz.zeroValue5
 t9:=Tryz.underlying9
 a9:=Tryz.isAgg9
 z9:=Tryz.sizeOf9
 v9:=Tryz.zeroValue9
 t28:=Tryz.underlying32
 a28:=Tryz.isAgg32
 z28:=Tryz.sizeOf32
 v28:=Tryz.zeroValue32
 t46:=Tryz.underlying54
 a46:=Tryz.isAgg54
 z46:=Tryz.sizeOf54
 v46:=Tryz.zeroValue54
 t51:=Tryz.underlying48
 a51:=Tryz.isAgg48
 z51:=Tryz.sizeOf48
 v51:=Tryz.zeroValue48
 t53:=Tryz.underlying118
 a53:=Tryz.isAgg118
 z53:=Tryz.sizeOf118
 v53:=Tryz.zeroValue118
 t131:=Tryz.underlying83
 a131:=Tryz.isAgg83
 z131:=Tryz.sizeOf83
 v131:=Tryz.zeroValue83
 t182:=Tryz.underlying267
 a182:=Tryz.isAgg267
 z182:=Tryz.sizeOf267
 v182:=Tryz.zeroValue267
 t183:=Tryz.underlying268
 a183:=Tryz.isAgg268
 z183:=Tryz.sizeOf268
 v183:=Tryz.zeroValue268
 t218:=Tryz.underlying297
 a218:=Tryz.isAgg297
 z218:=Tryz.sizeOf297
 v218:=Tryz.zeroValue297
 t222:=Tryz.underlying301
 a222:=Tryz.isAgg301
 z222:=Tryz.sizeOf301
 v222:=Tryz.zeroValue301
 t228:=Tryz.underlying320
 a228:=Tryz.isAgg320
 z228:=Tryz.sizeOf320
 v228:=Tryz.zeroValue320
 t229:=Tryz.underlying321
 a229:=Tryz.isAgg321
 z229:=Tryz.sizeOf321
 v229:=Tryz.zeroValue321}
open Go.Sort Go.RowKit in
theorem Tryz.slices_Sort_int(bd off cap:Nat)(zs:List Int)(w:World)(hH:Holds (Value.int .i64) w bd off zs.toArray)(gh:bd<w.heap.size)(hsz:zs.length<4611686018427387904):
 Calls Tryz.prog 90 #[.slice (some ⟨bd,off,none⟩) zs.length cap] w fun e w'=>
  e=.returned (.tuple #[])∧∃n os,w'=grow (putRow (Value.int .i64) (Sort.ahead w n) bd off (zs.mergeSort fun x y=>decide (x≤y)).toArray) os:=Any.slices_Sort_int Tryz.nQ bd off cap zs w hH gh hsz
def Tryz.l6:Go.Shelf.Ren:=⟨fun|190=>135|125=>139|258=>175|128=>188|129=>189|302=>201|303=>202|304=>203|305=>204|306=>205|307=>206|308=>207|309=>208|310=>209|333=>231|329=>217|330=>218|334=>232|335=>233|336=>234|344=>258|n=>n,fun|31=>181|9=>9|3=>3|46=>54|0=>0|51=>48|53=>118|4=>4|183=>268|182=>267|131=>83|5=>5|218=>297|222=>301|228=>320|229=>321|n=>n,fun|n=>n⟩
theorem Tryz.nP:Go.Proofs.Lays.n190 Tryz.prog Tryz.l6:={
 mixed:=by kernel_rfl
 f125:=Tryz.func139.trans (congrArg some (by kernel_rfl))
 f128:=Tryz.func188.trans (congrArg some (by kernel_rfl))
 f129:=Tryz.func189.trans (congrArg some (by kernel_rfl))
 f190:=Tryz.func135.trans (congrArg some (by kernel_rfl))
 f258:=Tryz.func175.trans (congrArg some (by kernel_rfl))
 f302:=Tryz.func201.trans (congrArg some (by kernel_rfl))
 f303:=Tryz.func202.trans (congrArg some (by kernel_rfl))
 f304:=Tryz.func203.trans (congrArg some (by kernel_rfl))
 f305:=Tryz.func204.trans (congrArg some (by kernel_rfl))
 f306:=Tryz.func205.trans (congrArg some (by kernel_rfl))
 f307:=Tryz.func206.trans (congrArg some (by kernel_rfl))
 f308:=Tryz.func207.trans (congrArg some (by kernel_rfl))
 f309:=Tryz.func208.trans (congrArg some (by kernel_rfl))
 f310:=Tryz.func209.trans (congrArg some (by kernel_rfl))
 f329:=Tryz.func217.trans (congrArg some (by kernel_rfl))
 f330:=Tryz.func218.trans (congrArg some (by kernel_rfl))
 f333:=Tryz.func231.trans (congrArg some (by kernel_rfl))
 f334:=Tryz.func232.trans (congrArg some (by kernel_rfl))
 f335:=Tryz.func233.trans (congrArg some (by kernel_rfl))
 f336:=Tryz.func234.trans (congrArg some (by kernel_rfl))
 f344:=Tryz.func258.trans (congrArg some (by kernel_rfl))
 t0:=Tryz.underlying0
 a0:=Tryz.isAgg0
 z0:=Tryz.sizeOf0
 v0:=Tryz.zeroValue0
 t3:=Tryz.underlying3
 a3:=Tryz.isAgg3
 z3:=Tryz.sizeOf3
 v3:=Tryz.zeroValue3
 t4:=Tryz.underlying4
 a4:=Tryz.isAgg4
 z4:=Tryz.sizeOf4
 v4:=Tryz.zeroValue4
 t5:=Tryz.underlying5
 a5:=Tryz.isAgg5
 z5:=Tryz.sizeOf5
 v5:=Tryz.zeroValue5
 t9:=Tryz.underlying9
 a9:=Tryz.isAgg9
 z9:=Tryz.sizeOf9
 v9:=Tryz.zeroValue9
 t31:=Tryz.underlying181
 a31:=Tryz.isAgg181
 z31:=Tryz.sizeOf181
 v31:=Tryz.zeroValue181
 t46:=Tryz.underlying54
 a46:=Tryz.isAgg54
 z46:=Tryz.sizeOf54
 v46:=Tryz.zeroValue54
 t51:=Tryz.underlying48
 a51:=Tryz.isAgg48
 z51:=Tryz.sizeOf48
 v51:=Tryz.zeroValue48
 t53:=Tryz.underlying118
 a53:=Tryz.isAgg118
 z53:=Tryz.sizeOf118
 v53:=Tryz.zeroValue118
 t131:=Tryz.underlying83
 a131:=Tryz.isAgg83
 z131:=Tryz.sizeOf83
 v131:=Tryz.zeroValue83
 t182:=Tryz.underlying267
 a182:=Tryz.isAgg267
 z182:=Tryz.sizeOf267
 v182:=Tryz.zeroValue267
 t183:=Tryz.underlying268
 a183:=Tryz.isAgg268
 z183:=Tryz.sizeOf268
 v183:=Tryz.zeroValue268
 t218:=Tryz.underlying297
 a218:=Tryz.isAgg297
 z218:=Tryz.sizeOf297
 v218:=Tryz.zeroValue297
 t222:=Tryz.underlying301
 a222:=Tryz.isAgg301
 z222:=Tryz.sizeOf301
 v222:=Tryz.zeroValue301
 t228:=Tryz.underlying320
 a228:=Tryz.isAgg320
 z228:=Tryz.sizeOf320
 v228:=Tryz.zeroValue320
 t229:=Tryz.underlying321
 a229:=Tryz.isAgg321
 z229:=Tryz.sizeOf321
 v229:=Tryz.zeroValue321}
open Go.Sort Go.RowKit in
theorem Tryz.slices_Sort_string(bd off cap:Nat)(ss:List (List UInt8))(w:World)(hH:Holds encStr w bd off ss.toArray)(gh:bd<w.heap.size)(hsz:ss.length<4611686018427387904):
 Calls Tryz.prog 135 #[.slice (some ⟨bd,off,none⟩) ss.length cap] w fun e w'=>
  e=.returned (.tuple #[])∧∃n os,w'=grow (putRow encStr (Sort.ahead w n) bd off (ss.mergeSort fun x y=>decide (x≤y)).toArray) os:=Any.slices_Sort_string Tryz.nP bd off cap ss w hH gh hsz
open Go.RowKit Go.Sort in
theorem Tryz.slices_Sort_string_none(p:Option Addr)(cap:Nat)(w:World):
 Calls Tryz.prog 135 #[.slice p 0 cap] w fun e w'=>e=.returned (.tuple #[])∧w'=w:=Any.slices_Sort_string_none Tryz.nP p cap w
open Go.RowKit Go.Sort in
theorem Tryz.slices_Sort_int_none(p:Option Addr)(cap:Nat)(w:World):
 Calls Tryz.prog 90 #[.slice p 0 cap] w fun e w'=>e=.returned (.tuple #[])∧w'=w:=Any.slices_Sort_int_none Tryz.nQ p cap w
end Go.Proofs
