/-
  DERIVED: THE SHELF's CONTRACTS AT THIS DUMP, IN PLAIN WORDS (tools/lay-plain.mjs out of 'TryzSh.lean', which tools/lay-shelf.mjs wrote): THE SAME DECLARATIONS UNDER THE SAME NAMES: 'import', 'namespace', 'open', 'def', 'theorem' AND NOTHING ELSE: no command of the shelf's: FOR A HAND-IN. Each laying: the table of numbers ('.._ren') and one theorem, a field a fact of the dump's own or the kernel's comparison; each contract: ONE APPLICATION.
-/
import Derived.Shelf.Strings.SlTrimAscii
import Derived.Shelf.Spec.TrailingZeros
import Derived.Shelf.Strings.Builder1
import Derived.Shelf.Strings.Builder2
import Derived.Shelf.Strings.OnBuilder
import Derived.Shelf.Strings.Trim
import Derived.Shelf.Small.Utf8
import Derived.Shelf.Small.Strs
import Derived.Shelf.Utf8.RuneCount
import Derived.Shelf.Strconv.Atoi
import Derived.Shelf.Strconv.Itoa0
import Derived.Shelf.Strconv.Itoa1
import Derived.Shelf.LaysM
import Derived.Shelf.Strconv.Itoa2
import Derived.Shelf.Strconv.Itoa3
import Derived.Shelf.Strconv.AtoiErrFast
import Derived.Shelf.Strconv.ParseIntEmpty
import Derived.Shelf.Strconv.AtoiFail
import Derived.Shelf.Strconv.Clone
import Derived.Shelf.Strconv.SyntaxError
import Derived.Shelf.LaysC
import Derived.Shelf.Strconv.ToError
import Derived.Shelf.Strconv.Lower
import Derived.Shelf.Strconv.ParseUint10
import Derived.Shelf.Strconv.ParseUint10Empty
import Derived.Shelf.Strconv.ParseUint10Any
import Derived.Shelf.Strconv.ParseInt10
import Derived.Shelf.Strconv.AtoiLong
import Derived.Shelf.Strconv.AtoiInnerAll
import Derived.Shelf.Strconv.RangeError
import Derived.Shelf.Strconv.ToErrorRange
import Derived.Shelf.Strconv.AtoiAll
import Derived.Shelf.Strconv.ErrVarAll
import Derived.Shelf.Strconv.ParseUintEmpty
import Derived.Shelf.Strconv.ParseUint10b64
import Derived.Shelf.Strconv.ParseUint10b32
import Derived.Shelf.Strconv.ParseUint10b16
import Derived.Shelf.Strconv.ParseUint10b8
import Derived.Shelf.Strconv.ParseUint10At
import Derived.Shelf.Strconv.ParseInt10At64
import Derived.Shelf.Strconv.ParseInt10At32
import Derived.Shelf.Strconv.ParseInt10At16
import Derived.Shelf.Strconv.ParseInt10At8
import Derived.Shelf.Strconv.ParseInt10All
import Derived.Shelf.Strings.Search1
import Derived.Shelf.Strings.Search2
import Derived.Shelf.Strings.Search3
import Derived.Shelf.Strings.Cut
import Derived.Shelf.Strings.Count
import Derived.Shelf.Strings.Shaped
import Derived.Shelf.Strings.Split
import Derived.Shelf.Strings.SplitShaped
import Derived.Shelf.Unicode.Decode
import Derived.Shelf.Strings.Runes
import Derived.Shelf.Strings.RuneCount
import Derived.Shelf.Strings.AsciiSet
import Derived.Shelf.Strings.Explode
import Derived.Shelf.Unicode.DecodeSlow
import Derived.Shelf.Unicode.DecodeAny
import Derived.Shelf.Unicode.DecodeLast
import Derived.Shelf.Strings.FieldsFuncAny
import Derived.Test.YtceclaaopomcnaaGreatDoorProg
namespace Go.Proofs
open Go.Shelf
def Tryz.lays156_ren : Go.Shelf.Ren := ⟨fun | 156 => 15 | 165 => 29 | 166 => 30 | 169 => 31 | 240 => 42 | 241 => 43 | 276 => 51 | 277 => 52 | n => n, fun | 31 => 37 | 9 => 9 | 3 => 3 | 4 => 4 | 0 => 0 | 20 => 20 | 72 => 60 | 76 => 64 | 70 => 57 | 37 => 58 | 75 => 63 | 127 => 80 | 164 => 89 | 5 => 5 | 80 => 66 | n => n, fun | n => n⟩
theorem Tryz.lays156 : Go.Proofs.Lays.n156 Tryz.prog Tryz.lays156_ren := {
  mixed := by kernel_rfl
  f156 := Tryz.func15.trans (congrArg some (by kernel_rfl))
  f165 := Tryz.func29.trans (congrArg some (by kernel_rfl))
  f166 := Tryz.func30.trans (congrArg some (by kernel_rfl))
  f169 := Tryz.func31.trans (congrArg some (by kernel_rfl))
  f240 := Tryz.func42.trans (congrArg some (by kernel_rfl))
  f241 := Tryz.func43.trans (congrArg some (by kernel_rfl))
  f276 := Tryz.func51.trans (congrArg some (by kernel_rfl))
  f277 := Tryz.func52.trans (congrArg some (by kernel_rfl))
  t0 := Tryz.underlying0
  a0 := Tryz.isAgg0
  z0 := Tryz.sizeOf0
  v0 := Tryz.zeroValue0
  t3 := Tryz.underlying3
  a3 := Tryz.isAgg3
  z3 := Tryz.sizeOf3
  v3 := Tryz.zeroValue3
  t4 := Tryz.underlying4
  a4 := Tryz.isAgg4
  z4 := Tryz.sizeOf4
  v4 := Tryz.zeroValue4
  t9 := Tryz.underlying9
  a9 := Tryz.isAgg9
  z9 := Tryz.sizeOf9
  v9 := Tryz.zeroValue9
  t20 := Tryz.underlying20
  a20 := Tryz.isAgg20
  z20 := Tryz.sizeOf20
  v20 := Tryz.zeroValue20
  t31 := Tryz.underlying37
  a31 := Tryz.isAgg37
  z31 := Tryz.sizeOf37
  v31 := Tryz.zeroValue37
  t37 := Tryz.underlying58
  a37 := Tryz.isAgg58
  z37 := Tryz.sizeOf58
  v37 := Tryz.zeroValue58
  t70 := Tryz.underlying57
  a70 := Tryz.isAgg57
  z70 := Tryz.sizeOf57
  v70 := Tryz.zeroValue57
  t72 := Tryz.underlying60
  a72 := Tryz.isAgg60
  z72 := Tryz.sizeOf60
  v72 := Tryz.zeroValue60
  t75 := Tryz.underlying63
  a75 := Tryz.isAgg63
  z75 := Tryz.sizeOf63
  v75 := Tryz.zeroValue63
  t76 := Tryz.underlying64
  a76 := Tryz.isAgg64
  z76 := Tryz.sizeOf64
  v76 := Tryz.zeroValue64
  t127 := Tryz.underlying80
  a127 := Tryz.isAgg80
  z127 := Tryz.sizeOf80
  v127 := Tryz.zeroValue80
  t164 := Tryz.underlying89
  a164 := Tryz.isAgg89
  z164 := Tryz.sizeOf89
  v164 := Tryz.zeroValue89 }
theorem Tryz.Builder_Extra_156 : Builder.Extra Tryz.prog Tryz.lays156_ren := {
  sizeBuilder := by kernel_rfl
  liesBuilder := by kernel_rfl
  t5 := Tryz.underlying5
  a5 := Tryz.isAgg5
  z5 := Tryz.sizeOf5
  v5 := Tryz.zeroValue5
  infoByte := by kernel_rfl
  cellsByte := by kernel_rfl
  sizeByte := by kernel_rfl
  neB5 := by decide }
open Go.RowKit in
/-- No element: the empty string; the world is as it was. (Whatever the slice's address and capacity: a nil slice too.) (LAID: no walk: one application.) -/
theorem Tryz.strings_Join_none (a : Option Addr) (c : Nat) (sep : ByteArray) (w : World) :
    Calls Tryz.prog 15 #[.slice a 0 c, .string sep] w fun e w' => e = .returned (.string ⟨#[]⟩) ∧ w' = w := Any.strings_Join_none Tryz.lays156 Tryz.Builder_Extra_156 a c sep w
open Go.RowKit in
/-- strings.Join: "Join concatenates the elements of its first argument to create a single string. The separator string sep is placed between elements in the resulting string.": HOWEVER MANY ELEMENTS. Below the heap's end the world is as it was. (LAID: no walk: one application.) -/
theorem Tryz.strings_Join (bk o c : Nat) (xs : List ByteArray) (sep : ByteArray) (w : World) (hcells : ∀ (j : Nat) x, xs[j]? = some x → w.cell? ⟨bk, o + j, none⟩ = some (.string x)) (hbk : bk < w.heap.size) (hN : xs.length ≤ 140737488355328) (hcap : xs.length ≤ c) (hlen : (Lib.join (xs.map (·.data.toList)) sep.data.toList).length ≤ 140737488355328) :
    Calls Tryz.prog 15 #[.slice (some ⟨bk, o, none⟩) xs.length c, .string sep] w fun e w' => e = .returned (.string ⟨(Lib.join (xs.map (·.data.toList)) sep.data.toList).toArray⟩) ∧ Below w.heap.size w w' := Any.strings_Join Tryz.lays156 Tryz.Builder_Extra_156 bk o c xs sep w hcells hbk hN hcap hlen
def Tryz.laysM171_ren : Go.Shelf.Ren := ⟨fun | 171 => 28 | 243 => 41 | 246 => 50 | 283 => 59 | 284 => 60 | 285 => 61 | 286 => 62 | 129 => 77 | 317 => 76 | 318 => 78 | 319 => 79 | 320 => 80 | 337 => 94 | 338 => 27 | n => n, fun | 3 => 3 | 9 => 9 | 2 => 2 | 4 => 4 | 171 => 95 | 0 => 0 | 53 => 22 | 37 => 58 | 5 => 5 | 173 => 97 | 212 => 112 | 51 => 113 | 20 => 20 | 213 => 114 | 46 => 68 | 232 => 138 | 233 => 79 | n => n, fun | 17 => 3 | 18 => 8 | 19 => 1 | n => n⟩
theorem Tryz.laysM171 : Go.Proofs.LaysM.n171 Tryz.prog Tryz.laysM171_ren := {
  mixed := by kernel_rfl
  f129 := Tryz.func77.trans (congrArg some (by kernel_rfl))
  f171 := Tryz.func28.trans (congrArg some (by kernel_rfl))
  f243 := Tryz.func41.trans (congrArg some (by kernel_rfl))
  f246 := Tryz.func50.trans (congrArg some (by kernel_rfl))
  f283 := Tryz.func59.trans (congrArg some (by kernel_rfl))
  f284 := Tryz.func60.trans (congrArg some (by kernel_rfl))
  f285 := Tryz.func61.trans (congrArg some (by kernel_rfl))
  f286 := Tryz.func62.trans (congrArg some (by kernel_rfl))
  f317 := Tryz.func76.trans (congrArg some (by kernel_rfl))
  f318 := Tryz.func78.trans (congrArg some (by kernel_rfl))
  f319 := Tryz.func79.trans (congrArg some (by kernel_rfl))
  f320 := Tryz.func80.trans (congrArg some (by kernel_rfl))
  f337 := Tryz.func94.trans (congrArg some (by kernel_rfl))
  f338 := Tryz.func27.trans (congrArg some (by kernel_rfl))
  t0 := Tryz.underlying0
  a0 := Tryz.isAgg0
  z0 := Tryz.sizeOf0
  v0 := Tryz.zeroValue0
  t2 := Tryz.underlying2
  a2 := Tryz.isAgg2
  z2 := Tryz.sizeOf2
  v2 := Tryz.zeroValue2
  t3 := Tryz.underlying3
  a3 := Tryz.isAgg3
  z3 := Tryz.sizeOf3
  v3 := Tryz.zeroValue3
  t4 := Tryz.underlying4
  a4 := Tryz.isAgg4
  z4 := Tryz.sizeOf4
  v4 := Tryz.zeroValue4
  t5 := Tryz.underlying5
  a5 := Tryz.isAgg5
  z5 := Tryz.sizeOf5
  v5 := Tryz.zeroValue5
  t9 := Tryz.underlying9
  a9 := Tryz.isAgg9
  z9 := Tryz.sizeOf9
  v9 := Tryz.zeroValue9
  t20 := Tryz.underlying20
  a20 := Tryz.isAgg20
  z20 := Tryz.sizeOf20
  v20 := Tryz.zeroValue20
  t37 := Tryz.underlying58
  a37 := Tryz.isAgg58
  z37 := Tryz.sizeOf58
  v37 := Tryz.zeroValue58
  t46 := Tryz.underlying68
  a46 := Tryz.isAgg68
  z46 := Tryz.sizeOf68
  v46 := Tryz.zeroValue68
  t51 := Tryz.underlying113
  a51 := Tryz.isAgg113
  z51 := Tryz.sizeOf113
  v51 := Tryz.zeroValue113
  t53 := Tryz.underlying22
  a53 := Tryz.isAgg22
  z53 := Tryz.sizeOf22
  v53 := Tryz.zeroValue22
  t171 := Tryz.underlying95
  a171 := Tryz.isAgg95
  z171 := Tryz.sizeOf95
  v171 := Tryz.zeroValue95
  t173 := Tryz.underlying97
  a173 := Tryz.isAgg97
  z173 := Tryz.sizeOf97
  v173 := Tryz.zeroValue97
  t212 := Tryz.underlying112
  a212 := Tryz.isAgg112
  z212 := Tryz.sizeOf112
  v212 := Tryz.zeroValue112
  t213 := Tryz.underlying114
  a213 := Tryz.isAgg114
  z213 := Tryz.sizeOf114
  t232 := Tryz.underlying138
  a232 := Tryz.isAgg138
  z232 := Tryz.sizeOf138
  v232 := Tryz.zeroValue138
  t233 := Tryz.underlying79
  a233 := Tryz.isAgg79
  z233 := Tryz.sizeOf79
  v233 := Tryz.zeroValue79
  g17 := by kernel_rfl
  g18 := by kernel_rfl
  g19 := by kernel_rfl
  i0 := by kernel_rfl
  i2 := by kernel_rfl
  i3 := by kernel_rfl
  i4 := by kernel_rfl
  i5 := by kernel_rfl
  i9 := by kernel_rfl
  i20 := by kernel_rfl
  i37 := by kernel_rfl
  i46 := by kernel_rfl
  i51 := by kernel_rfl
  i53 := by kernel_rfl
  i171 := by kernel_rfl
  i173 := by kernel_rfl
  i212 := by kernel_rfl
  i232 := by kernel_rfl
  i233 := by kernel_rfl
  m17 := by kernel_rfl
  m18 := by kernel_rfl
  m19 := by kernel_rfl }
open Go.RowKit Go.Sort Go.Lib in
/-- strconv.Itoa: "Itoa is equivalent to FormatInt(int64(i), 10).": i's DECIMAL NUMERAL ('Lib.itoa': a '-' where i is negative, then the digits), FOR EVERY int. The world behind the call: the world before it, new blocks behind the heap (the library's 'var a [24]byte'), draws. (LAID: no walk: one application.) -/
theorem Tryz.strconv_Itoa (n : Int) (h0 : -9223372036854775808 ≤ n) (h1 : n ≤ 9223372036854775807) (w : World) (htab : Lib.TabIs Tryz.prog w "internal/strconv.uint64pow10" .u64 Lib.pow10Tab) :
    Calls Tryz.prog 28 #[.int .i64 n] w fun e w' => e = .returned (.string ⟨(Lib.itoa n).toArray⟩) ∧ ∃ k os, w' = grow (w.drewN k) os := Any.strconv_Itoa Tryz.laysM171 n h0 h1 w htab
def Tryz.lays171_ren : Go.Shelf.Ren := ⟨fun | 171 => 28 | 243 => 41 | 246 => 50 | 283 => 59 | 284 => 60 | 285 => 61 | 286 => 62 | 129 => 77 | 317 => 76 | 318 => 78 | 319 => 79 | 320 => 80 | 337 => 94 | 338 => 27 | n => n, fun | 3 => 3 | 9 => 9 | 2 => 2 | 4 => 4 | 171 => 95 | 0 => 0 | 53 => 22 | 37 => 58 | 5 => 5 | 173 => 97 | 212 => 112 | 51 => 113 | 20 => 20 | 213 => 114 | 46 => 68 | 232 => 138 | 233 => 79 | n => n, fun | 17 => 3 | 18 => 8 | 19 => 1 | n => n⟩
theorem Tryz.lays171 : Go.Proofs.Lays.n171 Tryz.prog Tryz.lays171_ren := {
  mixed := by kernel_rfl
  f129 := Tryz.func77.trans (congrArg some (by kernel_rfl))
  f171 := Tryz.func28.trans (congrArg some (by kernel_rfl))
  f243 := Tryz.func41.trans (congrArg some (by kernel_rfl))
  f246 := Tryz.func50.trans (congrArg some (by kernel_rfl))
  f283 := Tryz.func59.trans (congrArg some (by kernel_rfl))
  f284 := Tryz.func60.trans (congrArg some (by kernel_rfl))
  f285 := Tryz.func61.trans (congrArg some (by kernel_rfl))
  f286 := Tryz.func62.trans (congrArg some (by kernel_rfl))
  f317 := Tryz.func76.trans (congrArg some (by kernel_rfl))
  f318 := Tryz.func78.trans (congrArg some (by kernel_rfl))
  f319 := Tryz.func79.trans (congrArg some (by kernel_rfl))
  f320 := Tryz.func80.trans (congrArg some (by kernel_rfl))
  f337 := Tryz.func94.trans (congrArg some (by kernel_rfl))
  f338 := Tryz.func27.trans (congrArg some (by kernel_rfl))
  t0 := Tryz.underlying0
  a0 := Tryz.isAgg0
  z0 := Tryz.sizeOf0
  v0 := Tryz.zeroValue0
  t2 := Tryz.underlying2
  a2 := Tryz.isAgg2
  z2 := Tryz.sizeOf2
  v2 := Tryz.zeroValue2
  t3 := Tryz.underlying3
  a3 := Tryz.isAgg3
  z3 := Tryz.sizeOf3
  v3 := Tryz.zeroValue3
  t4 := Tryz.underlying4
  a4 := Tryz.isAgg4
  z4 := Tryz.sizeOf4
  v4 := Tryz.zeroValue4
  t5 := Tryz.underlying5
  a5 := Tryz.isAgg5
  z5 := Tryz.sizeOf5
  v5 := Tryz.zeroValue5
  t9 := Tryz.underlying9
  a9 := Tryz.isAgg9
  z9 := Tryz.sizeOf9
  v9 := Tryz.zeroValue9
  t20 := Tryz.underlying20
  a20 := Tryz.isAgg20
  z20 := Tryz.sizeOf20
  v20 := Tryz.zeroValue20
  t37 := Tryz.underlying58
  a37 := Tryz.isAgg58
  z37 := Tryz.sizeOf58
  v37 := Tryz.zeroValue58
  t46 := Tryz.underlying68
  a46 := Tryz.isAgg68
  z46 := Tryz.sizeOf68
  v46 := Tryz.zeroValue68
  t51 := Tryz.underlying113
  a51 := Tryz.isAgg113
  z51 := Tryz.sizeOf113
  v51 := Tryz.zeroValue113
  t53 := Tryz.underlying22
  a53 := Tryz.isAgg22
  z53 := Tryz.sizeOf22
  v53 := Tryz.zeroValue22
  t171 := Tryz.underlying95
  a171 := Tryz.isAgg95
  z171 := Tryz.sizeOf95
  v171 := Tryz.zeroValue95
  t173 := Tryz.underlying97
  a173 := Tryz.isAgg97
  z173 := Tryz.sizeOf97
  v173 := Tryz.zeroValue97
  t212 := Tryz.underlying112
  a212 := Tryz.isAgg112
  z212 := Tryz.sizeOf112
  v212 := Tryz.zeroValue112
  t213 := Tryz.underlying114
  a213 := Tryz.isAgg114
  z213 := Tryz.sizeOf114
  t232 := Tryz.underlying138
  a232 := Tryz.isAgg138
  z232 := Tryz.sizeOf138
  v232 := Tryz.zeroValue138
  t233 := Tryz.underlying79
  a233 := Tryz.isAgg79
  z233 := Tryz.sizeOf79
  v233 := Tryz.zeroValue79
  g17 := by kernel_rfl
  g18 := by kernel_rfl
  g19 := by kernel_rfl }
open Go.RowKit Go.Sort Go.Lib in
/-- THE ROAD WITHOUT THE TABLE: 0 <= i < 100: NO PREMISE ON THE WORLD, AND THE WORLD IS AS IT WAS: a row that keeps its argument in that range need list no table ('laid = []'). (LAID: no walk: one application.) -/
theorem Tryz.strconv_Itoa_small (i : Nat) (hi : i < 100) (w : World) :
    Calls Tryz.prog 28 #[.int .i64 i] w fun e w' => e = .returned (.string ⟨(Lib.decDigits i).toArray⟩) ∧ w' = w := Any.strconv_Itoa_small Tryz.lays171 i hi w
def Tryz.laysC172_ren : Go.Shelf.Ren := ⟨fun | 172 => 58 | 244 => 74 | 245 => 75 | 247 => 89 | 279 => 90 | 280 => 91 | 281 => 92 | 282 => 93 | 287 => 99 | 316 => 100 | 171 => 28 | 205 => 101 | 321 => 104 | 322 => 105 | 243 => 41 | 246 => 50 | 283 => 59 | 284 => 60 | 285 => 61 | 286 => 62 | 129 => 77 | 317 => 76 | 318 => 78 | 319 => 79 | 320 => 80 | 337 => 94 | 338 => 27 | n => n, fun | 9 => 9 | 3 => 3 | 75 => 63 | 76 => 64 | 4 => 4 | 5 => 5 | 167 => 118 | 37 => 58 | 0 => 0 | 85 => 119 | 2 => 2 | 168 => 121 | 53 => 22 | 175 => 132 | 46 => 68 | 210 => 136 | 127 => 80 | 145 => 143 | 143 => 141 | 21 => 21 | 171 => 95 | 173 => 97 | 212 => 112 | 51 => 113 | 20 => 20 | 213 => 114 | 232 => 138 | 233 => 79 | 80 => 66 | n => n, fun | 15 => 6 | 16 => 7 | 17 => 3 | 18 => 8 | 19 => 1 | n => n⟩
theorem Tryz.laysC172 : Go.Proofs.LaysC.n172 Tryz.prog Tryz.laysC172_ren := {
  mixed := by kernel_rfl
  f129 := Tryz.func77.trans (congrArg some (by kernel_rfl))
  f171 := Tryz.func28.trans (congrArg some (by kernel_rfl))
  f172 := Tryz.func58.trans (congrArg some (by kernel_rfl))
  f205 := Tryz.func101.trans (congrArg some (by kernel_rfl))
  f243 := Tryz.func41.trans (congrArg some (by kernel_rfl))
  f244 := Tryz.func74.trans (congrArg some (by kernel_rfl))
  f245 := Tryz.func75.trans (congrArg some (by kernel_rfl))
  f246 := Tryz.func50.trans (congrArg some (by kernel_rfl))
  f247 := Tryz.func89.trans (congrArg some (by kernel_rfl))
  f279 := Tryz.func90.trans (congrArg some (by kernel_rfl))
  f280 := Tryz.func91.trans (congrArg some (by kernel_rfl))
  f281 := Tryz.func92.trans (congrArg some (by kernel_rfl))
  f282 := Tryz.func93.trans (congrArg some (by kernel_rfl))
  f283 := Tryz.func59.trans (congrArg some (by kernel_rfl))
  f284 := Tryz.func60.trans (congrArg some (by kernel_rfl))
  f285 := Tryz.func61.trans (congrArg some (by kernel_rfl))
  f286 := Tryz.func62.trans (congrArg some (by kernel_rfl))
  f287 := Tryz.func99.trans (congrArg some (by kernel_rfl))
  f316 := Tryz.func100.trans (congrArg some (by kernel_rfl))
  f317 := Tryz.func76.trans (congrArg some (by kernel_rfl))
  f318 := Tryz.func78.trans (congrArg some (by kernel_rfl))
  f319 := Tryz.func79.trans (congrArg some (by kernel_rfl))
  f320 := Tryz.func80.trans (congrArg some (by kernel_rfl))
  f321 := Tryz.func104.trans (congrArg some (by kernel_rfl))
  f322 := Tryz.func105.trans (congrArg some (by kernel_rfl))
  f337 := Tryz.func94.trans (congrArg some (by kernel_rfl))
  f338 := Tryz.func27.trans (congrArg some (by kernel_rfl))
  t0 := Tryz.underlying0
  a0 := Tryz.isAgg0
  z0 := Tryz.sizeOf0
  v0 := Tryz.zeroValue0
  t2 := Tryz.underlying2
  a2 := Tryz.isAgg2
  z2 := Tryz.sizeOf2
  v2 := Tryz.zeroValue2
  t3 := Tryz.underlying3
  a3 := Tryz.isAgg3
  z3 := Tryz.sizeOf3
  v3 := Tryz.zeroValue3
  t4 := Tryz.underlying4
  a4 := Tryz.isAgg4
  z4 := Tryz.sizeOf4
  v4 := Tryz.zeroValue4
  t5 := Tryz.underlying5
  a5 := Tryz.isAgg5
  z5 := Tryz.sizeOf5
  v5 := Tryz.zeroValue5
  t9 := Tryz.underlying9
  a9 := Tryz.isAgg9
  z9 := Tryz.sizeOf9
  v9 := Tryz.zeroValue9
  t20 := Tryz.underlying20
  a20 := Tryz.isAgg20
  z20 := Tryz.sizeOf20
  v20 := Tryz.zeroValue20
  t21 := Tryz.underlying21
  a21 := Tryz.isAgg21
  z21 := Tryz.sizeOf21
  v21 := Tryz.zeroValue21
  t37 := Tryz.underlying58
  a37 := Tryz.isAgg58
  z37 := Tryz.sizeOf58
  v37 := Tryz.zeroValue58
  t46 := Tryz.underlying68
  a46 := Tryz.isAgg68
  z46 := Tryz.sizeOf68
  v46 := Tryz.zeroValue68
  t51 := Tryz.underlying113
  a51 := Tryz.isAgg113
  z51 := Tryz.sizeOf113
  v51 := Tryz.zeroValue113
  t53 := Tryz.underlying22
  a53 := Tryz.isAgg22
  z53 := Tryz.sizeOf22
  v53 := Tryz.zeroValue22
  t75 := Tryz.underlying63
  a75 := Tryz.isAgg63
  z75 := Tryz.sizeOf63
  v75 := Tryz.zeroValue63
  t76 := Tryz.underlying64
  a76 := Tryz.isAgg64
  z76 := Tryz.sizeOf64
  v76 := Tryz.zeroValue64
  t85 := Tryz.underlying119
  a85 := Tryz.isAgg119
  z85 := Tryz.sizeOf119
  v85 := Tryz.zeroValue119
  t127 := Tryz.underlying80
  a127 := Tryz.isAgg80
  z127 := Tryz.sizeOf80
  v127 := Tryz.zeroValue80
  t143 := Tryz.underlying141
  a143 := Tryz.isAgg141
  z143 := Tryz.sizeOf141
  v143 := Tryz.zeroValue141
  t145 := Tryz.underlying143
  a145 := Tryz.isAgg143
  z145 := Tryz.sizeOf143
  v145 := Tryz.zeroValue143
  t167 := Tryz.underlying118
  a167 := Tryz.isAgg118
  z167 := Tryz.sizeOf118
  v167 := Tryz.zeroValue118
  t168 := Tryz.underlying121
  a168 := Tryz.isAgg121
  z168 := Tryz.sizeOf121
  v168 := Tryz.zeroValue121
  t171 := Tryz.underlying95
  a171 := Tryz.isAgg95
  z171 := Tryz.sizeOf95
  v171 := Tryz.zeroValue95
  t173 := Tryz.underlying97
  a173 := Tryz.isAgg97
  z173 := Tryz.sizeOf97
  v173 := Tryz.zeroValue97
  t175 := Tryz.underlying132
  a175 := Tryz.isAgg132
  z175 := Tryz.sizeOf132
  v175 := Tryz.zeroValue132
  t210 := Tryz.underlying136
  a210 := Tryz.isAgg136
  z210 := Tryz.sizeOf136
  v210 := Tryz.zeroValue136
  t212 := Tryz.underlying112
  a212 := Tryz.isAgg112
  z212 := Tryz.sizeOf112
  v212 := Tryz.zeroValue112
  t213 := Tryz.underlying114
  a213 := Tryz.isAgg114
  z213 := Tryz.sizeOf114
  t232 := Tryz.underlying138
  a232 := Tryz.isAgg138
  z232 := Tryz.sizeOf138
  v232 := Tryz.zeroValue138
  t233 := Tryz.underlying79
  a233 := Tryz.isAgg79
  z233 := Tryz.sizeOf79
  v233 := Tryz.zeroValue79
  g15 := by kernel_rfl
  g16 := by kernel_rfl
  g17 := by kernel_rfl
  g18 := by kernel_rfl
  g19 := by kernel_rfl
  t80 := Tryz.underlying66
  a80 := Tryz.isAgg66
  z80 := Tryz.sizeOf66
  v80 := Tryz.zeroValue66
  i0 := by kernel_rfl
  i2 := by kernel_rfl
  i3 := by kernel_rfl
  i4 := by kernel_rfl
  i5 := by kernel_rfl
  i9 := by kernel_rfl
  i20 := by kernel_rfl
  i21 := by kernel_rfl
  i37 := by kernel_rfl
  i46 := by kernel_rfl
  i51 := by kernel_rfl
  i53 := by kernel_rfl
  i75 := by kernel_rfl
  i76 := by kernel_rfl
  i80 := by kernel_rfl
  i85 := by kernel_rfl
  i127 := by kernel_rfl
  i143 := by kernel_rfl
  i145 := by kernel_rfl
  i167 := by kernel_rfl
  i168 := by kernel_rfl
  i171 := by kernel_rfl
  i173 := by kernel_rfl
  i175 := by kernel_rfl
  i210 := by kernel_rfl
  i212 := by kernel_rfl
  i232 := by kernel_rfl
  i233 := by kernel_rfl
  m15 := by kernel_rfl
  m16 := by kernel_rfl
  m17 := by kernel_rfl
  m18 := by kernel_rfl
  m19 := by kernel_rfl
  c0 := by kernel_rfl
  c2 := by kernel_rfl
  c3 := by kernel_rfl
  c4 := by kernel_rfl
  c5 := by kernel_rfl
  c9 := by kernel_rfl
  c20 := by kernel_rfl
  c21 := by kernel_rfl
  c37 := by kernel_rfl
  c46 := by kernel_rfl
  c51 := by kernel_rfl
  c53 := by kernel_rfl
  c75 := by kernel_rfl
  c76 := by kernel_rfl
  c80 := by kernel_rfl
  c85 := by kernel_rfl
  c127 := by kernel_rfl
  c143 := by kernel_rfl
  c145 := by kernel_rfl
  c167 := by kernel_rfl
  c168 := by kernel_rfl
  c171 := by kernel_rfl
  c173 := by kernel_rfl
  c175 := by kernel_rfl
  c210 := by kernel_rfl
  c212 := by kernel_rfl
  c213 := by kernel_rfl
  c232 := by kernel_rfl
  c233 := by kernel_rfl }
open Go.RowKit in
/-- strconv.Atoi, AT EVERY STRING THAT SPELLS AN int ('Lib.atoiAll .. = .ok v'; of whatever length: leading zeros count): v, AND NO ERROR. The world: as it was, or with the one new row that '[]byte(..)' lays. (LAID: no walk: one application.) -/
theorem Tryz.strconv_Atoi_ok (s : ByteArray) (hmax : s.size ≤ 9223372036854775806) (v : Int) (h : Lib.atoiAll s.data.toList = .ok v) (w : World) :
    Calls Tryz.prog 58 #[.string s] w fun e w' => e = .returned (.tuple #[.int .i64 v, .nilIface]) ∧ (w' = w ∨ ∃ t, w' = Lib.bytesWorld w 5 t) := Any.strconv_Atoi_ok Tryz.laysC172 s hmax v h w
def Tryz.lays145_ren : Go.Shelf.Ren := ⟨fun | 145 => 48 | 220 => 56 | 219 => 66 | 217 => 82 | 225 => 83 | 224 => 84 | 267 => 85 | 266 => 95 | 314 => 96 | n => n, fun | 9 => 9 | 4 => 4 | 59 => 84 | 3 => 3 | 5 => 5 | 46 => 68 | 146 => 129 | 51 => 113 | n => n, fun | 1 => 2 | n => n⟩
theorem Tryz.lays145 : Go.Proofs.Lays.n145 Tryz.prog Tryz.lays145_ren := {
  mixed := by kernel_rfl
  f145 := Tryz.func48.trans (congrArg some (by kernel_rfl))
  f217 := Tryz.func82.trans (congrArg some (by kernel_rfl))
  f219 := Tryz.func66.trans (congrArg some (by kernel_rfl))
  f220 := Tryz.func56.trans (congrArg some (by kernel_rfl))
  f224 := Tryz.func84.trans (congrArg some (by kernel_rfl))
  f225 := Tryz.func83.trans (congrArg some (by kernel_rfl))
  f266 := Tryz.func95.trans (congrArg some (by kernel_rfl))
  f267 := Tryz.func85.trans (congrArg some (by kernel_rfl))
  f314 := Tryz.func96.trans (congrArg some (by kernel_rfl))
  t3 := Tryz.underlying3
  a3 := Tryz.isAgg3
  z3 := Tryz.sizeOf3
  v3 := Tryz.zeroValue3
  t4 := Tryz.underlying4
  a4 := Tryz.isAgg4
  z4 := Tryz.sizeOf4
  v4 := Tryz.zeroValue4
  t5 := Tryz.underlying5
  a5 := Tryz.isAgg5
  z5 := Tryz.sizeOf5
  v5 := Tryz.zeroValue5
  t9 := Tryz.underlying9
  a9 := Tryz.isAgg9
  z9 := Tryz.sizeOf9
  v9 := Tryz.zeroValue9
  t46 := Tryz.underlying68
  a46 := Tryz.isAgg68
  z46 := Tryz.sizeOf68
  v46 := Tryz.zeroValue68
  t51 := Tryz.underlying113
  a51 := Tryz.isAgg113
  z51 := Tryz.sizeOf113
  v51 := Tryz.zeroValue113
  t59 := Tryz.underlying84
  a59 := Tryz.isAgg84
  z59 := Tryz.sizeOf84
  v59 := Tryz.zeroValue84
  t146 := Tryz.underlying129
  a146 := Tryz.isAgg129
  z146 := Tryz.sizeOf129
  v146 := Tryz.zeroValue129
  g1 := by kernel_rfl }
open Go.RowKit Go.Lib in
/-- strings.Cut: "Cut slices s around the first instance of sep, returning the text before and after sep. The found result reports whether sep appears in s. If sep does not appear in s, cut returns s, "", false.": IT RETURNS 'Lib.cut s sep'; the world is as it was but for the count of draws. (LAID: no walk: one application.) -/
theorem Tryz.strings_Cut (s sep : ByteArray) (m : Int) (w : World) (hs : s.size < 4294967281) (hm : w.cell? ⟨2, 0, none⟩ = some (.int .i64 m)) :
    Calls Tryz.prog 48 #[.string s, .string sep] w fun e w' => e = .returned (.tuple #[.string ⟨(Lib.cut s.data.toList sep.data.toList).1.toArray⟩, .string ⟨(Lib.cut s.data.toList sep.data.toList).2.1.toArray⟩, .bool (Lib.cut s.data.toList sep.data.toList).2.2]) ∧ ∃ n, w' = w.drewN n := Any.strings_Cut Tryz.lays145 s sep m w hs hm
def Tryz.laysM145_ren : Go.Shelf.Ren := ⟨fun | 145 => 48 | 220 => 56 | 219 => 66 | 217 => 82 | 225 => 83 | 224 => 84 | 267 => 85 | 266 => 95 | 314 => 96 | n => n, fun | 9 => 9 | 4 => 4 | 59 => 84 | 3 => 3 | 5 => 5 | 46 => 68 | 146 => 129 | 51 => 113 | n => n, fun | 1 => 2 | n => n⟩
theorem Tryz.laysM145 : Go.Proofs.LaysM.n145 Tryz.prog Tryz.laysM145_ren := {
  mixed := by kernel_rfl
  f145 := Tryz.func48.trans (congrArg some (by kernel_rfl))
  f217 := Tryz.func82.trans (congrArg some (by kernel_rfl))
  f219 := Tryz.func66.trans (congrArg some (by kernel_rfl))
  f220 := Tryz.func56.trans (congrArg some (by kernel_rfl))
  f224 := Tryz.func84.trans (congrArg some (by kernel_rfl))
  f225 := Tryz.func83.trans (congrArg some (by kernel_rfl))
  f266 := Tryz.func95.trans (congrArg some (by kernel_rfl))
  f267 := Tryz.func85.trans (congrArg some (by kernel_rfl))
  f314 := Tryz.func96.trans (congrArg some (by kernel_rfl))
  t3 := Tryz.underlying3
  a3 := Tryz.isAgg3
  z3 := Tryz.sizeOf3
  v3 := Tryz.zeroValue3
  t4 := Tryz.underlying4
  a4 := Tryz.isAgg4
  z4 := Tryz.sizeOf4
  v4 := Tryz.zeroValue4
  t5 := Tryz.underlying5
  a5 := Tryz.isAgg5
  z5 := Tryz.sizeOf5
  v5 := Tryz.zeroValue5
  t9 := Tryz.underlying9
  a9 := Tryz.isAgg9
  z9 := Tryz.sizeOf9
  v9 := Tryz.zeroValue9
  t46 := Tryz.underlying68
  a46 := Tryz.isAgg68
  z46 := Tryz.sizeOf68
  v46 := Tryz.zeroValue68
  t51 := Tryz.underlying113
  a51 := Tryz.isAgg113
  z51 := Tryz.sizeOf113
  v51 := Tryz.zeroValue113
  t59 := Tryz.underlying84
  a59 := Tryz.isAgg84
  z59 := Tryz.sizeOf84
  v59 := Tryz.zeroValue84
  t146 := Tryz.underlying129
  a146 := Tryz.isAgg129
  z146 := Tryz.sizeOf129
  v146 := Tryz.zeroValue129
  g1 := by kernel_rfl
  i3 := by kernel_rfl
  i4 := by kernel_rfl
  i5 := by kernel_rfl
  i9 := by kernel_rfl
  i46 := by kernel_rfl
  i51 := by kernel_rfl
  i59 := by kernel_rfl
  i146 := by kernel_rfl
  m1 := by kernel_rfl
  s1_3 := fun w h => Go.Proofs.cell_of_shapedOpen_int (zero := #[.int .i64 0]) (t := 3) h (of_decide_eq_true (by kernel_rfl)) (by kernel_rfl) rfl (by kernel_rfl) (by kernel_rfl) Tryz.underlying3 }
open Go.RowKit Go.Lib in
theorem Tryz.strings_Cut_shaped (s sep : ByteArray) (w : World) (h : w.ShapedOpen Tryz.prog) (hs : s.size < 4294967281) :
    Calls Tryz.prog 48 #[.string s, .string sep] w fun e w' => e = .returned (.tuple #[.string ⟨(Lib.cut s.data.toList sep.data.toList).1.toArray⟩, .string ⟨(Lib.cut s.data.toList sep.data.toList).2.1.toArray⟩, .bool (Lib.cut s.data.toList sep.data.toList).2.2]) ∧ ∃ n, w' = w.drewN n := Any.strings_Cut_shaped Tryz.laysM145 s sep w h hs
def Tryz.lays146_ren : Go.Shelf.Ren := ⟨fun | 146 => 39 | 221 => 47 | 268 => 53 | 138 => 54 | 143 => 55 | 195 => 63 | 197 => 64 | 218 => 65 | 219 => 66 | 260 => 81 | 217 => 82 | 225 => 83 | 224 => 84 | 267 => 85 | 266 => 95 | 314 => 96 | n => n, fun | 9 => 9 | 31 => 37 | 3 => 3 | 4 => 4 | 0 => 0 | 105 => 100 | 21 => 21 | 5 => 5 | 46 => 68 | 119 => 125 | 139 => 128 | 138 => 127 | 146 => 129 | 51 => 113 | n => n, fun | 1 => 2 | 3 => 4 | 4 => 5 | n => n⟩
theorem Tryz.lays146 : Go.Proofs.Lays.n146 Tryz.prog Tryz.lays146_ren := {
  mixed := by kernel_rfl
  f138 := Tryz.func54.trans (congrArg some (by kernel_rfl))
  f143 := Tryz.func55.trans (congrArg some (by kernel_rfl))
  f146 := Tryz.func39.trans (congrArg some (by kernel_rfl))
  f195 := Tryz.func63.trans (congrArg some (by kernel_rfl))
  f197 := Tryz.func64.trans (congrArg some (by kernel_rfl))
  f217 := Tryz.func82.trans (congrArg some (by kernel_rfl))
  f218 := Tryz.func65.trans (congrArg some (by kernel_rfl))
  f219 := Tryz.func66.trans (congrArg some (by kernel_rfl))
  f221 := Tryz.func47.trans (congrArg some (by kernel_rfl))
  f224 := Tryz.func84.trans (congrArg some (by kernel_rfl))
  f225 := Tryz.func83.trans (congrArg some (by kernel_rfl))
  f260 := Tryz.func81.trans (congrArg some (by kernel_rfl))
  f266 := Tryz.func95.trans (congrArg some (by kernel_rfl))
  f267 := Tryz.func85.trans (congrArg some (by kernel_rfl))
  f268 := Tryz.func53.trans (congrArg some (by kernel_rfl))
  f314 := Tryz.func96.trans (congrArg some (by kernel_rfl))
  t0 := Tryz.underlying0
  a0 := Tryz.isAgg0
  z0 := Tryz.sizeOf0
  v0 := Tryz.zeroValue0
  t3 := Tryz.underlying3
  a3 := Tryz.isAgg3
  z3 := Tryz.sizeOf3
  v3 := Tryz.zeroValue3
  t4 := Tryz.underlying4
  a4 := Tryz.isAgg4
  z4 := Tryz.sizeOf4
  v4 := Tryz.zeroValue4
  t5 := Tryz.underlying5
  a5 := Tryz.isAgg5
  z5 := Tryz.sizeOf5
  v5 := Tryz.zeroValue5
  t9 := Tryz.underlying9
  a9 := Tryz.isAgg9
  z9 := Tryz.sizeOf9
  v9 := Tryz.zeroValue9
  t21 := Tryz.underlying21
  a21 := Tryz.isAgg21
  z21 := Tryz.sizeOf21
  v21 := Tryz.zeroValue21
  t31 := Tryz.underlying37
  a31 := Tryz.isAgg37
  z31 := Tryz.sizeOf37
  v31 := Tryz.zeroValue37
  t46 := Tryz.underlying68
  a46 := Tryz.isAgg68
  z46 := Tryz.sizeOf68
  v46 := Tryz.zeroValue68
  t51 := Tryz.underlying113
  a51 := Tryz.isAgg113
  z51 := Tryz.sizeOf113
  v51 := Tryz.zeroValue113
  t105 := Tryz.underlying100
  a105 := Tryz.isAgg100
  z105 := Tryz.sizeOf100
  v105 := Tryz.zeroValue100
  t119 := Tryz.underlying125
  a119 := Tryz.isAgg125
  z119 := Tryz.sizeOf125
  t138 := Tryz.underlying127
  a138 := Tryz.isAgg127
  z138 := Tryz.sizeOf127
  v138 := Tryz.zeroValue127
  t139 := Tryz.underlying128
  a139 := Tryz.isAgg128
  z139 := Tryz.sizeOf128
  v139 := Tryz.zeroValue128
  t146 := Tryz.underlying129
  a146 := Tryz.isAgg129
  z146 := Tryz.sizeOf129
  v146 := Tryz.zeroValue129
  g1 := by kernel_rfl
  g3 := by kernel_rfl
  g4 := by kernel_rfl }
open Go.RowKit Go.Lib in
/-- strings.Split. (LAID: no walk: one application.) -/
theorem Tryz.strings_Split (s sep : ByteArray) (m : Int) (w : World) (hs : s.size < 4294967281) (hm : w.cell? ⟨2, 0, none⟩ = some (.int .i64 m)) (h1 : 1 ≤ sep.size) :
    Calls Tryz.prog 39 #[.string s, .string sep] w fun e w' =>
      e = .returned (.slice (some ⟨w.heap.size, 0, none⟩) (Lib.countB s sep + 1) (Lib.countB s sep + 1)) ∧ w' = w.alloc (.cells ((Lib.splitB sep 0 (Lib.countB s sep) s).map Value.string).toArray 9) := Any.strings_Split Tryz.lays146 (by kernel_rfl) s sep m w hs hm h1
def Tryz.lays229_ren : Go.Shelf.Ren := ⟨fun | 229 => 23 | n => n, fun | 9 => 9 | 40 => 48 | 31 => 37 | 152 => 71 | 3 => 3 | 0 => 0 | 4 => 4 | 21 => 21 | 154 => 73 | n => n, fun | n => n⟩
theorem Tryz.lays229 : Go.Proofs.Lays.n229 Tryz.prog Tryz.lays229_ren := {
  mixed := by kernel_rfl
  f229 := Tryz.func23.trans (congrArg some (by kernel_rfl))
  t0 := Tryz.underlying0
  a0 := Tryz.isAgg0
  z0 := Tryz.sizeOf0
  v0 := Tryz.zeroValue0
  t3 := Tryz.underlying3
  a3 := Tryz.isAgg3
  z3 := Tryz.sizeOf3
  v3 := Tryz.zeroValue3
  t4 := Tryz.underlying4
  a4 := Tryz.isAgg4
  z4 := Tryz.sizeOf4
  v4 := Tryz.zeroValue4
  t9 := Tryz.underlying9
  a9 := Tryz.isAgg9
  z9 := Tryz.sizeOf9
  v9 := Tryz.zeroValue9
  t21 := Tryz.underlying21
  a21 := Tryz.isAgg21
  z21 := Tryz.sizeOf21
  v21 := Tryz.zeroValue21
  t31 := Tryz.underlying37
  a31 := Tryz.isAgg37
  z31 := Tryz.sizeOf37
  v31 := Tryz.zeroValue37
  t40 := Tryz.underlying48
  a40 := Tryz.isAgg48
  z40 := Tryz.sizeOf48
  v40 := Tryz.zeroValue48
  t152 := Tryz.underlying71
  a152 := Tryz.isAgg71
  z152 := Tryz.sizeOf71
  v152 := Tryz.zeroValue71
  t154 := Tryz.underlying73
  a154 := Tryz.isAgg73
  z154 := Tryz.sizeOf73
  v154 := Tryz.zeroValue73 }
open Go.RowKit Go.Lib in
theorem Tryz.strings_FieldsFunc_runes (g : Nat) (lb : Array Value) (eg : ∀ args w, (callFunc g args).run Tryz.prog w = .ok (.enter g args) w) (p : Nat → Bool) (s : ByteArray) (w : World) (hs : s.size ≤ 4294967296) (hp : PredAtRunes Tryz.prog g lb p w) :
    Calls Tryz.prog 23 #[.string s, .func (.func g) #[] lb] w fun e w' => ∃ A, e = .returned (.slice (some ⟨A, 0, none⟩) (Lib.goFieldsP p s).length (Lib.goFieldsP p s).length) ∧ w.heap.size ≤ A ∧
      w'.ownsRow w.heap.size 9 1 (.slice (some ⟨A, 0, none⟩) (Lib.goFieldsP p s).length (Lib.goFieldsP p s).length) (Lib.goFieldsP p s).length ((Lib.goFieldsP p s).map Value.string) ∧ Below w.heap.size w w' := Any.strings_FieldsFunc_runes Tryz.lays229 g lb eg p s w hs hp (by kernel_rfl) (by kernel_rfl)
def Tryz.lays160_ren : Go.Shelf.Ren := ⟨fun | 160 => 57 | 232 => 68 | 231 => 67 | 227 => 69 | 234 => 71 | 233 => 70 | 236 => 73 | 235 => 72 | 228 => 86 | 271 => 88 | 151 => 87 | 197 => 64 | 120 => 98 | 152 => 97 | 260 => 81 | 137 => 102 | 119 => 103 | 224 => 84 | 225 => 83 | 217 => 82 | 266 => 95 | n => n, fun | 9 => 9 | 4 => 4 | 3 => 3 | 5 => 5 | 117 => 106 | 116 => 105 | 0 => 0 | 124 => 109 | 21 => 21 | 105 => 100 | 46 => 68 | 119 => 125 | 139 => 128 | 138 => 127 | n => n, fun | 3 => 4 | 4 => 5 | n => n⟩
theorem Tryz.lays160 : Go.Proofs.Lays.n160 Tryz.prog Tryz.lays160_ren := {
  mixed := by kernel_rfl
  f119 := Tryz.func103.trans (congrArg some (by kernel_rfl))
  f120 := Tryz.func98.trans (congrArg some (by kernel_rfl))
  f137 := Tryz.func102.trans (congrArg some (by kernel_rfl))
  f151 := Tryz.func87.trans (congrArg some (by kernel_rfl))
  f152 := Tryz.func97.trans (congrArg some (by kernel_rfl))
  f160 := Tryz.func57.trans (congrArg some (by kernel_rfl))
  f197 := Tryz.func64.trans (congrArg some (by kernel_rfl))
  f217 := Tryz.func82.trans (congrArg some (by kernel_rfl))
  f224 := Tryz.func84.trans (congrArg some (by kernel_rfl))
  f225 := Tryz.func83.trans (congrArg some (by kernel_rfl))
  f227 := Tryz.func69.trans (congrArg some (by kernel_rfl))
  f228 := Tryz.func86.trans (congrArg some (by kernel_rfl))
  f231 := Tryz.func67.trans (congrArg some (by kernel_rfl))
  f232 := Tryz.func68.trans (congrArg some (by kernel_rfl))
  f233 := Tryz.func70.trans (congrArg some (by kernel_rfl))
  f234 := Tryz.func71.trans (congrArg some (by kernel_rfl))
  f235 := Tryz.func72.trans (congrArg some (by kernel_rfl))
  f236 := Tryz.func73.trans (congrArg some (by kernel_rfl))
  f260 := Tryz.func81.trans (congrArg some (by kernel_rfl))
  f266 := Tryz.func95.trans (congrArg some (by kernel_rfl))
  f271 := Tryz.func88.trans (congrArg some (by kernel_rfl))
  t0 := Tryz.underlying0
  a0 := Tryz.isAgg0
  z0 := Tryz.sizeOf0
  v0 := Tryz.zeroValue0
  t3 := Tryz.underlying3
  a3 := Tryz.isAgg3
  z3 := Tryz.sizeOf3
  v3 := Tryz.zeroValue3
  t4 := Tryz.underlying4
  a4 := Tryz.isAgg4
  z4 := Tryz.sizeOf4
  v4 := Tryz.zeroValue4
  t5 := Tryz.underlying5
  a5 := Tryz.isAgg5
  z5 := Tryz.sizeOf5
  v5 := Tryz.zeroValue5
  t9 := Tryz.underlying9
  a9 := Tryz.isAgg9
  z9 := Tryz.sizeOf9
  v9 := Tryz.zeroValue9
  t21 := Tryz.underlying21
  a21 := Tryz.isAgg21
  z21 := Tryz.sizeOf21
  v21 := Tryz.zeroValue21
  t46 := Tryz.underlying68
  a46 := Tryz.isAgg68
  z46 := Tryz.sizeOf68
  v46 := Tryz.zeroValue68
  t105 := Tryz.underlying100
  a105 := Tryz.isAgg100
  z105 := Tryz.sizeOf100
  v105 := Tryz.zeroValue100
  t116 := Tryz.underlying105
  a116 := Tryz.isAgg105
  z116 := Tryz.sizeOf105
  t117 := Tryz.underlying106
  a117 := Tryz.isAgg106
  z117 := Tryz.sizeOf106
  v117 := Tryz.zeroValue106
  t119 := Tryz.underlying125
  a119 := Tryz.isAgg125
  z119 := Tryz.sizeOf125
  t124 := Tryz.underlying109
  a124 := Tryz.isAgg109
  z124 := Tryz.sizeOf109
  v124 := Tryz.zeroValue109
  t138 := Tryz.underlying127
  a138 := Tryz.isAgg127
  z138 := Tryz.sizeOf127
  v138 := Tryz.zeroValue127
  t139 := Tryz.underlying128
  a139 := Tryz.isAgg128
  z139 := Tryz.sizeOf128
  v139 := Tryz.zeroValue128
  g3 := by kernel_rfl
  g4 := by kernel_rfl }
open Go.RowKit Go.Lib in
theorem Tryz.strings_Trim_ascii (s cutset : ByteArray) (w : World) (hs : s.size ≤ 9223372036854775807) (hcs : cutset.size < 4294967281)
    (hascii : ∀ (j : Nat) b, cutset.data.toList[j]? = some b → b.toNat < 128) :
    Calls Tryz.prog 57 #[.string s, .string cutset] w fun e w' => e = .returned (.string ⟨(Lib.trimS s.data.toList cutset.data.toList).toArray⟩) ∧ Below w.heap.size w w' :=
  Any.strings_Trim_ascii Tryz.lays160 (fun _ => by kernel_rfl) (by kernel_rfl) s cutset w hs hcs hascii
def Tryz.lays7_29_ren : Go.Shelf.Ren := ⟨fun | 29 => 27 | n => n, fun | 22 => 22 | 3 => 3 | 4 => 4 | 25 => 68 | 54 => 79 | 0 => 0 | 5 => 5 | n => n, fun | 1 => 1 | n => n⟩
theorem Tryz.lays7_29 : Go.Proofs.Lays7.n29 Tryz.prog Tryz.lays7_29_ren := {
  mixed := by kernel_rfl
  f29 := Tryz.func27.trans (congrArg some (by kernel_rfl))
  t0 := Tryz.underlying0
  a0 := Tryz.isAgg0
  z0 := Tryz.sizeOf0
  v0 := Tryz.zeroValue0
  i0 := by kernel_rfl
  t3 := Tryz.underlying3
  a3 := Tryz.isAgg3
  z3 := Tryz.sizeOf3
  v3 := Tryz.zeroValue3
  i3 := by kernel_rfl
  t4 := Tryz.underlying4
  a4 := Tryz.isAgg4
  z4 := Tryz.sizeOf4
  v4 := Tryz.zeroValue4
  i4 := by kernel_rfl
  t5 := Tryz.underlying5
  a5 := Tryz.isAgg5
  z5 := Tryz.sizeOf5
  v5 := Tryz.zeroValue5
  i5 := by kernel_rfl
  t22 := Tryz.underlying22
  a22 := Tryz.isAgg22
  z22 := Tryz.sizeOf22
  v22 := Tryz.zeroValue22
  i22 := by kernel_rfl
  t25 := Tryz.underlying68
  a25 := Tryz.isAgg68
  z25 := Tryz.sizeOf68
  v25 := Tryz.zeroValue68
  i25 := by kernel_rfl
  t54 := Tryz.underlying79
  a54 := Tryz.isAgg79
  z54 := Tryz.sizeOf79
  g1 := by kernel_rfl }
open Go.RowKit Go.Lib in
theorem Tryz.bits_TrailingZeros64 (x : Nat) (hx : x < 18446744073709551616) (w : World) (hT : x ≠ 0 → TabAt (Tryz.lays7_29_ren.g 1) Lib.deBruijn64tab w) :
    Calls Tryz.prog 27 #[.int .u64 x] w fun e w' => e = .returned (.int .i64 (Lib.ctz 64 x)) ∧ w' = w := Any7.bits_TrailingZeros64 Tryz.lays7_29 x hx w hT
end Go.Proofs
