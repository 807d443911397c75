/- HashjoinBucket: for all rows, key columns, numbers of parts and levels that hold together at most 1048576 values and letters, the law returns true. Condition: that bound (the Upto form). -/
import Derived.Shelf.Strings.Builder1
import Derived.Shelf.Strings.Builder2
import Derived.Shelf.Strings.OnBuilder
import Derived.Shelf.Strings.Trim
import Derived.Shelf.Small.Utf8
import Derived.Shelf.Small.Bits
import Derived.Shelf.Small.Strs
import Derived.Shelf.Utf8.RuneCount
import Derived.Shelf.Strconv.Atoi
import Derived.Shelf.Strconv.Itoa0
import Derived.Shelf.Strconv.Itoa1
import Derived.Shelf.LaysM
import Derived.Shelf.Strconv.Itoa2
import Derived.Shelf.Strconv.Itoa3
import Derived.Shelf.Strconv.Itoa4
import Derived.Shelf.Strconv.AtoiErrFast
import Derived.Shelf.Strconv.ParseIntEmpty
import Derived.Shelf.Strconv.AtoiFail
import Derived.Shelf.Strconv.Clone
import Derived.Shelf.Strconv.SyntaxError
import Derived.Shelf.LaysC
import Derived.Shelf.Strconv.ToError
import Derived.Shelf.Strconv.Lower
import Derived.Shelf.Strconv.ParseUint10
import Derived.Shelf.Strconv.ParseUint10Empty
import Derived.Shelf.Strconv.ParseUint10Any
import Derived.Shelf.Strconv.ParseInt10
import Derived.Shelf.Strconv.AtoiLong
import Derived.Shelf.Strconv.AtoiInnerAll
import Derived.Shelf.Strconv.RangeError
import Derived.Shelf.Strconv.ToErrorRange
import Derived.Shelf.Strconv.AtoiAll
import Derived.Shelf.Strconv.ErrVarAll
import Derived.Shelf.Strconv.ParseUintEmpty
import Derived.Shelf.Strconv.ParseUint10b64
import Derived.Shelf.Strconv.ParseUint10b32
import Derived.Shelf.Strconv.ParseUint10b16
import Derived.Shelf.Strconv.ParseUint10b8
import Derived.Shelf.Strconv.ParseUint10At
import Derived.Shelf.Strconv.ParseInt10At64
import Derived.Shelf.Strconv.ParseInt10At32
import Derived.Shelf.Strconv.ParseInt10At16
import Derived.Shelf.Strconv.ParseInt10At8
import Derived.Shelf.Strconv.ParseInt10All
import Derived.Shelf.Strconv.ParseIntPublic10
import Derived.Shelf.Strconv.ErrVarParseInt
import Derived.Shelf.Strings.Search1
import Derived.Shelf.Strings.Search2
import Derived.Shelf.Strings.Search3
import Derived.Shelf.Strings.Cut
import Derived.Shelf.Strings.Count
import Derived.Shelf.Strings.Shaped
import Derived.Shelf.GgClosure.StringsIndexFunc
import Derived.Ground.GgwProg
import Derived.Shelf.GgClosure.StringsIndexFuncTop
import Derived.Shelf.GgClosure.StringsRunes
import Derived.Shelf.Strings.Prefix
import Derived.Shelf.Strings.Split
import Derived.Shelf.Strings.Replace
import Derived.Shelf.Strings.SplitShaped
import Derived.Shelf.Unicode.Decode
import Derived.Shelf.Strings.Runes
import Derived.Shelf.Strings.RuneCount
import Derived.Shelf.Strings.AsciiSet
import Derived.Shelf.Unicode.DecodeSlow
import Derived.Shelf.Unicode.DecodeAny
import Derived.Shelf.Unicode.DecodeLast
import Derived.Ground.Names2Prog
import Derived.Shelf.Slices.SearchI
import Derived.Test.YtklniminnejicaaGreatDoorProg
set_option linter.all false
namespace Go.Proofs
open Go.Shelf
def Tryz.lays156_ren : Go.Shelf.Ren := ⟨fun | 156 => 164 | 165 => 188 | 166 => 189 | 169 => 190 | 240 => 229 | 241 => 230 | 276 => 250 | 277 => 251 | n => n, fun | 31 => 219 | 9 => 9 | 3 => 3 | 4 => 4 | 0 => 0 | 20 => 20 | 72 => 251 | 76 => 255 | 70 => 249 | 37 => 93 | 75 => 254 | 127 => 281 | 164 => 303 | 5 => 5 | 80 => 257 | n => n, fun | n => n⟩
theorem Tryz.lays156 : Go.Proofs.Lays.n156 Tryz.prog Tryz.lays156_ren := {
 mixed := by kernel_rfl
 f156 := Tryz.func164.trans (congrArg some (by kernel_rfl))
 f165 := Tryz.func188.trans (congrArg some (by kernel_rfl))
 f166 := Tryz.func189.trans (congrArg some (by kernel_rfl))
 f169 := Tryz.func190.trans (congrArg some (by kernel_rfl))
 f240 := Tryz.func229.trans (congrArg some (by kernel_rfl))
 f241 := Tryz.func230.trans (congrArg some (by kernel_rfl))
 f276 := Tryz.func250.trans (congrArg some (by kernel_rfl))
 f277 := Tryz.func251.trans (congrArg some (by kernel_rfl))
 t0 := Tryz.underlying0
 a0 := Tryz.isAgg0
 z0 := Tryz.sizeOf0
 v0 := Tryz.zeroValue0
 t3 := Tryz.underlying3
 a3 := Tryz.isAgg3
 z3 := Tryz.sizeOf3
 v3 := Tryz.zeroValue3
 t4 := Tryz.underlying4
 a4 := Tryz.isAgg4
 z4 := Tryz.sizeOf4
 v4 := Tryz.zeroValue4
 t9 := Tryz.underlying9
 a9 := Tryz.isAgg9
 z9 := Tryz.sizeOf9
 v9 := Tryz.zeroValue9
 t20 := Tryz.underlying20
 a20 := Tryz.isAgg20
 z20 := Tryz.sizeOf20
 v20 := Tryz.zeroValue20
 t31 := Tryz.underlying219
 a31 := Tryz.isAgg219
 z31 := Tryz.sizeOf219
 v31 := Tryz.zeroValue219
 t37 := Tryz.underlying93
 a37 := Tryz.isAgg93
 z37 := Tryz.sizeOf93
 v37 := Tryz.zeroValue93
 t70 := Tryz.underlying249
 a70 := Tryz.isAgg249
 z70 := Tryz.sizeOf249
 v70 := Tryz.zeroValue249
 t72 := Tryz.underlying251
 a72 := Tryz.isAgg251
 z72 := Tryz.sizeOf251
 v72 := Tryz.zeroValue251
 t75 := Tryz.underlying254
 a75 := Tryz.isAgg254
 z75 := Tryz.sizeOf254
 v75 := Tryz.zeroValue254
 t76 := Tryz.underlying255
 a76 := Tryz.isAgg255
 z76 := Tryz.sizeOf255
 v76 := Tryz.zeroValue255
 t127 := Tryz.underlying281
 a127 := Tryz.isAgg281
 z127 := Tryz.sizeOf281
 v127 := Tryz.zeroValue281
 t164 := Tryz.underlying303
 a164 := Tryz.isAgg303
 z164 := Tryz.sizeOf303
 v164 := Tryz.zeroValue303 }
theorem Tryz.Builder_Extra_156 : Builder.Extra Tryz.prog Tryz.lays156_ren := {
 sizeBuilder := by kernel_rfl
 liesBuilder := by kernel_rfl
 t5 := Tryz.underlying5
 a5 := Tryz.isAgg5
 z5 := Tryz.sizeOf5
 v5 := Tryz.zeroValue5
 infoByte := by kernel_rfl
 cellsByte := by kernel_rfl
 sizeByte := by kernel_rfl
 neB5 := by decide }
open Go.RowKit in
theorem Tryz.strings_Join_none (a : Option Addr) (c : Nat) (sep : ByteArray) (w : World) :
 Calls Tryz.prog 164 #[.slice a 0 c, .string sep] w fun e w' => e = .returned (.string ⟨#[]⟩) ∧ w' = w := Any.strings_Join_none Tryz.lays156 Tryz.Builder_Extra_156 a c sep w
open Go.RowKit in
theorem Tryz.strings_Join (bk o c : Nat) (xs : List ByteArray) (sep : ByteArray) (w : World) (hcells : ∀ (j : Nat) x, xs[j]? = some x → w.cell? ⟨bk, o + j, none⟩ = some (.string x)) (hbk : bk < w.heap.size) (hN : xs.length ≤ 140737488355328) (hcap : xs.length ≤ c) (hlen : (Lib.join (xs.map (·.data.toList)) sep.data.toList).length ≤ 140737488355328) :
 Calls Tryz.prog 164 #[.slice (some ⟨bk, o, none⟩) xs.length c, .string sep] w fun e w' => e = .returned (.string ⟨(Lib.join (xs.map (·.data.toList)) sep.data.toList).toArray⟩) ∧ Below w.heap.size w w' := Any.strings_Join Tryz.lays156 Tryz.Builder_Extra_156 bk o c xs sep w hcells hbk hN hcap hlen
def Tryz.lays160_ren : Go.Shelf.Ren := ⟨fun | 160 => 304 | 232 => 309 | 231 => 308 | 227 => 310 | 234 => 312 | 233 => 311 | 236 => 314 | 235 => 313 | 228 => 315 | 271 => 317 | 151 => 316 | 197 => 270 | 120 => 319 | 152 => 318 | 260 => 288 | 137 => 320 | 119 => 321 | 224 => 299 | 225 => 298 | 217 => 297 | 266 => 305 | n => n, fun | 9 => 9 | 4 => 4 | 3 => 3 | 5 => 5 | 117 => 356 | 116 => 355 | 0 => 0 | 124 => 359 | 21 => 21 | 105 => 321 | 46 => 89 | 119 => 343 | 139 => 346 | 138 => 345 | n => n, fun | 3 => 6 | 4 => 7 | n => n⟩
theorem Tryz.lays160 : Go.Proofs.Lays.n160 Tryz.prog Tryz.lays160_ren := {
 mixed := by kernel_rfl
 f119 := Tryz.func321.trans (congrArg some (by kernel_rfl))
 f120 := Tryz.func319.trans (congrArg some (by kernel_rfl))
 f137 := Tryz.func320.trans (congrArg some (by kernel_rfl))
 f151 := Tryz.func316.trans (congrArg some (by kernel_rfl))
 f152 := Tryz.func318.trans (congrArg some (by kernel_rfl))
 f160 := Tryz.func304.trans (congrArg some (by kernel_rfl))
 f197 := Tryz.func270.trans (congrArg some (by kernel_rfl))
 f217 := Tryz.func297.trans (congrArg some (by kernel_rfl))
 f224 := Tryz.func299.trans (congrArg some (by kernel_rfl))
 f225 := Tryz.func298.trans (congrArg some (by kernel_rfl))
 f227 := Tryz.func310.trans (congrArg some (by kernel_rfl))
 f228 := Tryz.func315.trans (congrArg some (by kernel_rfl))
 f231 := Tryz.func308.trans (congrArg some (by kernel_rfl))
 f232 := Tryz.func309.trans (congrArg some (by kernel_rfl))
 f233 := Tryz.func311.trans (congrArg some (by kernel_rfl))
 f234 := Tryz.func312.trans (congrArg some (by kernel_rfl))
 f235 := Tryz.func313.trans (congrArg some (by kernel_rfl))
 f236 := Tryz.func314.trans (congrArg some (by kernel_rfl))
 f260 := Tryz.func288.trans (congrArg some (by kernel_rfl))
 f266 := Tryz.func305.trans (congrArg some (by kernel_rfl))
 f271 := Tryz.func317.trans (congrArg some (by kernel_rfl))
 t0 := Tryz.underlying0
 a0 := Tryz.isAgg0
 z0 := Tryz.sizeOf0
 v0 := Tryz.zeroValue0
 t3 := Tryz.underlying3
 a3 := Tryz.isAgg3
 z3 := Tryz.sizeOf3
 v3 := Tryz.zeroValue3
 t4 := Tryz.underlying4
 a4 := Tryz.isAgg4
 z4 := Tryz.sizeOf4
 v4 := Tryz.zeroValue4
 t5 := Tryz.underlying5
 a5 := Tryz.isAgg5
 z5 := Tryz.sizeOf5
 v5 := Tryz.zeroValue5
 t9 := Tryz.underlying9
 a9 := Tryz.isAgg9
 z9 := Tryz.sizeOf9
 v9 := Tryz.zeroValue9
 t21 := Tryz.underlying21
 a21 := Tryz.isAgg21
 z21 := Tryz.sizeOf21
 v21 := Tryz.zeroValue21
 t46 := Tryz.underlying89
 a46 := Tryz.isAgg89
 z46 := Tryz.sizeOf89
 v46 := Tryz.zeroValue89
 t105 := Tryz.underlying321
 a105 := Tryz.isAgg321
 z105 := Tryz.sizeOf321
 v105 := Tryz.zeroValue321
 t116 := Tryz.underlying355
 a116 := Tryz.isAgg355
 z116 := Tryz.sizeOf355
 t117 := Tryz.underlying356
 a117 := Tryz.isAgg356
 z117 := Tryz.sizeOf356
 v117 := Tryz.zeroValue356
 t119 := Tryz.underlying343
 a119 := Tryz.isAgg343
 z119 := Tryz.sizeOf343
 t124 := Tryz.underlying359
 a124 := Tryz.isAgg359
 z124 := Tryz.sizeOf359
 v124 := Tryz.zeroValue359
 t138 := Tryz.underlying345
 a138 := Tryz.isAgg345
 z138 := Tryz.sizeOf345
 v138 := Tryz.zeroValue345
 t139 := Tryz.underlying346
 a139 := Tryz.isAgg346
 z139 := Tryz.sizeOf346
 v139 := Tryz.zeroValue346
 g3 := by kernel_rfl
 g4 := by kernel_rfl }
def Tryz.lays106_ren : Go.Shelf.Ren := ⟨fun | 106 => 83 | 213 => 124 | 265 => 154 | n => n, fun | 9 => 9 | 3 => 3 | n => n, fun | n => n⟩
theorem Tryz.lays106 : Go.Proofs.Lays.n106 Tryz.prog Tryz.lays106_ren := {
 mixed := by kernel_rfl
 f106 := Tryz.func83.trans (congrArg some (by kernel_rfl))
 f213 := Tryz.func124.trans (congrArg some (by kernel_rfl))
 f265 := Tryz.func154.trans (congrArg some (by kernel_rfl))
 t3 := Tryz.underlying3
 a3 := Tryz.isAgg3
 z3 := Tryz.sizeOf3
 v3 := Tryz.zeroValue3
 t9 := Tryz.underlying9
 a9 := Tryz.isAgg9
 z9 := Tryz.sizeOf9
 v9 := Tryz.zeroValue9 }
open Go.RowKit in
theorem Tryz.strings_Compare (a b : ByteArray) (w : World) :
 Calls Tryz.prog 83 #[.string a, .string b] w fun e w' => e = .returned (.int .i64 (Lib.compareBytes a.data.toList b.data.toList)) ∧ w' = w := Any.strings_Compare Tryz.lays106 a b w
def Tryz.laysM171_ren : Go.Shelf.Ren := ⟨fun | 171 => 163 | 243 => 187 | 246 => 212 | 283 => 244 | 284 => 245 | 285 => 246 | 286 => 247 | 129 => 200 | 317 => 264 | 318 => 265 | 319 => 266 | 320 => 267 | 337 => 283 | 338 => 284 | n => n, fun | 3 => 3 | 9 => 9 | 2 => 2 | 4 => 4 | 171 => 298 | 0 => 0 | 53 => 56 | 37 => 93 | 5 => 5 | 173 => 300 | 212 => 319 | 51 => 266 | 20 => 20 | 213 => 320 | 46 => 89 | 232 => 341 | 233 => 342 | n => n, fun | 17 => 1 | 18 => 4 | 19 => 5 | n => n⟩
theorem Tryz.laysM171 : Go.Proofs.LaysM.n171 Tryz.prog Tryz.laysM171_ren := {
 mixed := by kernel_rfl
 f129 := Tryz.func200.trans (congrArg some (by kernel_rfl))
 f171 := Tryz.func163.trans (congrArg some (by kernel_rfl))
 f243 := Tryz.func187.trans (congrArg some (by kernel_rfl))
 f246 := Tryz.func212.trans (congrArg some (by kernel_rfl))
 f283 := Tryz.func244.trans (congrArg some (by kernel_rfl))
 f284 := Tryz.func245.trans (congrArg some (by kernel_rfl))
 f285 := Tryz.func246.trans (congrArg some (by kernel_rfl))
 f286 := Tryz.func247.trans (congrArg some (by kernel_rfl))
 f317 := Tryz.func264.trans (congrArg some (by kernel_rfl))
 f318 := Tryz.func265.trans (congrArg some (by kernel_rfl))
 f319 := Tryz.func266.trans (congrArg some (by kernel_rfl))
 f320 := Tryz.func267.trans (congrArg some (by kernel_rfl))
 f337 := Tryz.func283.trans (congrArg some (by kernel_rfl))
 f338 := Tryz.func284.trans (congrArg some (by kernel_rfl))
 t0 := Tryz.underlying0
 a0 := Tryz.isAgg0
 z0 := Tryz.sizeOf0
 v0 := Tryz.zeroValue0
 t2 := Tryz.underlying2
 a2 := Tryz.isAgg2
 z2 := Tryz.sizeOf2
 v2 := Tryz.zeroValue2
 t3 := Tryz.underlying3
 a3 := Tryz.isAgg3
 z3 := Tryz.sizeOf3
 v3 := Tryz.zeroValue3
 t4 := Tryz.underlying4
 a4 := Tryz.isAgg4
 z4 := Tryz.sizeOf4
 v4 := Tryz.zeroValue4
 t5 := Tryz.underlying5
 a5 := Tryz.isAgg5
 z5 := Tryz.sizeOf5
 v5 := Tryz.zeroValue5
 t9 := Tryz.underlying9
 a9 := Tryz.isAgg9
 z9 := Tryz.sizeOf9
 v9 := Tryz.zeroValue9
 t20 := Tryz.underlying20
 a20 := Tryz.isAgg20
 z20 := Tryz.sizeOf20
 v20 := Tryz.zeroValue20
 t37 := Tryz.underlying93
 a37 := Tryz.isAgg93
 z37 := Tryz.sizeOf93
 v37 := Tryz.zeroValue93
 t46 := Tryz.underlying89
 a46 := Tryz.isAgg89
 z46 := Tryz.sizeOf89
 v46 := Tryz.zeroValue89
 t51 := Tryz.underlying266
 a51 := Tryz.isAgg266
 z51 := Tryz.sizeOf266
 v51 := Tryz.zeroValue266
 t53 := Tryz.underlying56
 a53 := Tryz.isAgg56
 z53 := Tryz.sizeOf56
 v53 := Tryz.zeroValue56
 t171 := Tryz.underlying298
 a171 := Tryz.isAgg298
 z171 := Tryz.sizeOf298
 v171 := Tryz.zeroValue298
 t173 := Tryz.underlying300
 a173 := Tryz.isAgg300
 z173 := Tryz.sizeOf300
 v173 := Tryz.zeroValue300
 t212 := Tryz.underlying319
 a212 := Tryz.isAgg319
 z212 := Tryz.sizeOf319
 v212 := Tryz.zeroValue319
 t213 := Tryz.underlying320
 a213 := Tryz.isAgg320
 z213 := Tryz.sizeOf320
 t232 := Tryz.underlying341
 a232 := Tryz.isAgg341
 z232 := Tryz.sizeOf341
 v232 := Tryz.zeroValue341
 t233 := Tryz.underlying342
 a233 := Tryz.isAgg342
 z233 := Tryz.sizeOf342
 v233 := Tryz.zeroValue342
 g17 := by kernel_rfl
 g18 := by kernel_rfl
 g19 := by kernel_rfl
 i0 := by kernel_rfl
 i2 := by kernel_rfl
 i3 := by kernel_rfl
 i4 := by kernel_rfl
 i5 := by kernel_rfl
 i9 := by kernel_rfl
 i20 := by kernel_rfl
 i37 := by kernel_rfl
 i46 := by kernel_rfl
 i51 := by kernel_rfl
 i53 := by kernel_rfl
 i171 := by kernel_rfl
 i173 := by kernel_rfl
 i212 := by kernel_rfl
 i232 := by kernel_rfl
 i233 := by kernel_rfl
 m17 := by kernel_rfl
 m18 := by kernel_rfl
 m19 := by kernel_rfl }
open Go.RowKit Go.Sort Go.Lib in
theorem Tryz.strconv_Itoa (n : Int) (h0 : -9223372036854775808 ≤ n) (h1 : n ≤ 9223372036854775807) (w : World) (htab : Lib.TabIs Tryz.prog w "internal/strconv.uint64pow10" .u64 Lib.pow10Tab) :
 Calls Tryz.prog 163 #[.int .i64 n] w fun e w' => e = .returned (.string ⟨(Lib.itoa n).toArray⟩) ∧ ∃ k os, w' = grow (w.drewN k) os := Any.strconv_Itoa Tryz.laysM171 n h0 h1 w htab
def Tryz.laysM173_ren : Go.Shelf.Ren := ⟨fun | 173 => 176 | 246 => 212 | 283 => 244 | 284 => 245 | 285 => 246 | 286 => 247 | 129 => 200 | 317 => 264 | 318 => 265 | 319 => 266 | 320 => 267 | 337 => 283 | 338 => 284 | n => n, fun | 2 => 2 | 3 => 3 | 9 => 9 | 4 => 4 | 171 => 298 | 0 => 0 | 53 => 56 | 37 => 93 | 5 => 5 | 173 => 300 | 212 => 319 | 51 => 266 | 20 => 20 | 213 => 320 | 46 => 89 | 232 => 341 | 233 => 342 | n => n, fun | 17 => 1 | 18 => 4 | 19 => 5 | n => n⟩
theorem Tryz.laysM173 : Go.Proofs.LaysM.n173 Tryz.prog Tryz.laysM173_ren := {
 mixed := by kernel_rfl
 f129 := Tryz.func200.trans (congrArg some (by kernel_rfl))
 f173 := Tryz.func176.trans (congrArg some (by kernel_rfl))
 f246 := Tryz.func212.trans (congrArg some (by kernel_rfl))
 f283 := Tryz.func244.trans (congrArg some (by kernel_rfl))
 f284 := Tryz.func245.trans (congrArg some (by kernel_rfl))
 f285 := Tryz.func246.trans (congrArg some (by kernel_rfl))
 f286 := Tryz.func247.trans (congrArg some (by kernel_rfl))
 f317 := Tryz.func264.trans (congrArg some (by kernel_rfl))
 f318 := Tryz.func265.trans (congrArg some (by kernel_rfl))
 f319 := Tryz.func266.trans (congrArg some (by kernel_rfl))
 f320 := Tryz.func267.trans (congrArg some (by kernel_rfl))
 f337 := Tryz.func283.trans (congrArg some (by kernel_rfl))
 f338 := Tryz.func284.trans (congrArg some (by kernel_rfl))
 t0 := Tryz.underlying0
 a0 := Tryz.isAgg0
 z0 := Tryz.sizeOf0
 v0 := Tryz.zeroValue0
 t2 := Tryz.underlying2
 a2 := Tryz.isAgg2
 z2 := Tryz.sizeOf2
 v2 := Tryz.zeroValue2
 t3 := Tryz.underlying3
 a3 := Tryz.isAgg3
 z3 := Tryz.sizeOf3
 v3 := Tryz.zeroValue3
 t4 := Tryz.underlying4
 a4 := Tryz.isAgg4
 z4 := Tryz.sizeOf4
 v4 := Tryz.zeroValue4
 t5 := Tryz.underlying5
 a5 := Tryz.isAgg5
 z5 := Tryz.sizeOf5
 v5 := Tryz.zeroValue5
 t9 := Tryz.underlying9
 a9 := Tryz.isAgg9
 z9 := Tryz.sizeOf9
 v9 := Tryz.zeroValue9
 t20 := Tryz.underlying20
 a20 := Tryz.isAgg20
 z20 := Tryz.sizeOf20
 v20 := Tryz.zeroValue20
 t37 := Tryz.underlying93
 a37 := Tryz.isAgg93
 z37 := Tryz.sizeOf93
 v37 := Tryz.zeroValue93
 t46 := Tryz.underlying89
 a46 := Tryz.isAgg89
 z46 := Tryz.sizeOf89
 v46 := Tryz.zeroValue89
 t51 := Tryz.underlying266
 a51 := Tryz.isAgg266
 z51 := Tryz.sizeOf266
 v51 := Tryz.zeroValue266
 t53 := Tryz.underlying56
 a53 := Tryz.isAgg56
 z53 := Tryz.sizeOf56
 v53 := Tryz.zeroValue56
 t171 := Tryz.underlying298
 a171 := Tryz.isAgg298
 z171 := Tryz.sizeOf298
 v171 := Tryz.zeroValue298
 t173 := Tryz.underlying300
 a173 := Tryz.isAgg300
 z173 := Tryz.sizeOf300
 v173 := Tryz.zeroValue300
 t212 := Tryz.underlying319
 a212 := Tryz.isAgg319
 z212 := Tryz.sizeOf319
 v212 := Tryz.zeroValue319
 t213 := Tryz.underlying320
 a213 := Tryz.isAgg320
 z213 := Tryz.sizeOf320
 t232 := Tryz.underlying341
 a232 := Tryz.isAgg341
 z232 := Tryz.sizeOf341
 v232 := Tryz.zeroValue341
 t233 := Tryz.underlying342
 a233 := Tryz.isAgg342
 z233 := Tryz.sizeOf342
 v233 := Tryz.zeroValue342
 g17 := by kernel_rfl
 g18 := by kernel_rfl
 g19 := by kernel_rfl
 i0 := by kernel_rfl
 i2 := by kernel_rfl
 i3 := by kernel_rfl
 i4 := by kernel_rfl
 i5 := by kernel_rfl
 i9 := by kernel_rfl
 i20 := by kernel_rfl
 i37 := by kernel_rfl
 i46 := by kernel_rfl
 i51 := by kernel_rfl
 i53 := by kernel_rfl
 i171 := by kernel_rfl
 i173 := by kernel_rfl
 i212 := by kernel_rfl
 i232 := by kernel_rfl
 i233 := by kernel_rfl
 m17 := by kernel_rfl
 m18 := by kernel_rfl
 m19 := by kernel_rfl }
open Go.RowKit Go.Sort Go.Lib in
theorem Tryz.strconv_FormatInt_10 (n : Int) (h0 : -9223372036854775808 ≤ n) (h1 : n ≤ 9223372036854775807) (w : World) (htab : Lib.TabIs Tryz.prog w "internal/strconv.uint64pow10" .u64 Lib.pow10Tab) :
 Calls Tryz.prog 176 #[.int .i64 n, .int .i64 10] w fun e w' => e = .returned (.string ⟨(Lib.itoa n).toArray⟩) ∧ ∃ k os, w' = grow (w.drewN k) os := Any.strconv_FormatInt_10 Tryz.laysM173 n h0 h1 w htab
def Tryz.laysC172_ren : Go.Shelf.Ren := ⟨fun | 172 => 280 | 244 => 294 | 245 => 256 | 247 => 255 | 279 => 272 | 280 => 273 | 281 => 274 | 282 => 275 | 287 => 271 | 316 => 291 | 171 => 163 | 205 => 292 | 321 => 289 | 322 => 290 | 243 => 187 | 246 => 212 | 283 => 244 | 284 => 245 | 285 => 246 | 286 => 247 | 129 => 200 | 317 => 264 | 318 => 265 | 319 => 266 | 320 => 267 | 337 => 283 | 338 => 284 | n => n, fun | 9 => 9 | 3 => 3 | 75 => 254 | 76 => 255 | 4 => 4 | 5 => 5 | 167 => 323 | 37 => 93 | 0 => 0 | 85 => 290 | 2 => 2 | 168 => 326 | 53 => 56 | 175 => 324 | 46 => 89 | 210 => 337 | 127 => 281 | 145 => 349 | 143 => 347 | 21 => 21 | 171 => 298 | 173 => 300 | 212 => 319 | 51 => 266 | 20 => 20 | 213 => 320 | 232 => 341 | 233 => 342 | 80 => 257 | n => n, fun | 15 => 2 | 16 => 3 | 17 => 1 | 18 => 4 | 19 => 5 | n => n⟩
theorem Tryz.laysC172 : Go.Proofs.LaysC.n172 Tryz.prog Tryz.laysC172_ren := {
 mixed := by kernel_rfl
 f129 := Tryz.func200.trans (congrArg some (by kernel_rfl))
 f171 := Tryz.func163.trans (congrArg some (by kernel_rfl))
 f172 := Tryz.func280.trans (congrArg some (by kernel_rfl))
 f205 := Tryz.func292.trans (congrArg some (by kernel_rfl))
 f243 := Tryz.func187.trans (congrArg some (by kernel_rfl))
 f244 := Tryz.func294.trans (congrArg some (by kernel_rfl))
 f245 := Tryz.func256.trans (congrArg some (by kernel_rfl))
 f246 := Tryz.func212.trans (congrArg some (by kernel_rfl))
 f247 := Tryz.func255.trans (congrArg some (by kernel_rfl))
 f279 := Tryz.func272.trans (congrArg some (by kernel_rfl))
 f280 := Tryz.func273.trans (congrArg some (by kernel_rfl))
 f281 := Tryz.func274.trans (congrArg some (by kernel_rfl))
 f282 := Tryz.func275.trans (congrArg some (by kernel_rfl))
 f283 := Tryz.func244.trans (congrArg some (by kernel_rfl))
 f284 := Tryz.func245.trans (congrArg some (by kernel_rfl))
 f285 := Tryz.func246.trans (congrArg some (by kernel_rfl))
 f286 := Tryz.func247.trans (congrArg some (by kernel_rfl))
 f287 := Tryz.func271.trans (congrArg some (by kernel_rfl))
 f316 := Tryz.func291.trans (congrArg some (by kernel_rfl))
 f317 := Tryz.func264.trans (congrArg some (by kernel_rfl))
 f318 := Tryz.func265.trans (congrArg some (by kernel_rfl))
 f319 := Tryz.func266.trans (congrArg some (by kernel_rfl))
 f320 := Tryz.func267.trans (congrArg some (by kernel_rfl))
 f321 := Tryz.func289.trans (congrArg some (by kernel_rfl))
 f322 := Tryz.func290.trans (congrArg some (by kernel_rfl))
 f337 := Tryz.func283.trans (congrArg some (by kernel_rfl))
 f338 := Tryz.func284.trans (congrArg some (by kernel_rfl))
 t0 := Tryz.underlying0
 a0 := Tryz.isAgg0
 z0 := Tryz.sizeOf0
 v0 := Tryz.zeroValue0
 t2 := Tryz.underlying2
 a2 := Tryz.isAgg2
 z2 := Tryz.sizeOf2
 v2 := Tryz.zeroValue2
 t3 := Tryz.underlying3
 a3 := Tryz.isAgg3
 z3 := Tryz.sizeOf3
 v3 := Tryz.zeroValue3
 t4 := Tryz.underlying4
 a4 := Tryz.isAgg4
 z4 := Tryz.sizeOf4
 v4 := Tryz.zeroValue4
 t5 := Tryz.underlying5
 a5 := Tryz.isAgg5
 z5 := Tryz.sizeOf5
 v5 := Tryz.zeroValue5
 t9 := Tryz.underlying9
 a9 := Tryz.isAgg9
 z9 := Tryz.sizeOf9
 v9 := Tryz.zeroValue9
 t20 := Tryz.underlying20
 a20 := Tryz.isAgg20
 z20 := Tryz.sizeOf20
 v20 := Tryz.zeroValue20
 t21 := Tryz.underlying21
 a21 := Tryz.isAgg21
 z21 := Tryz.sizeOf21
 v21 := Tryz.zeroValue21
 t37 := Tryz.underlying93
 a37 := Tryz.isAgg93
 z37 := Tryz.sizeOf93
 v37 := Tryz.zeroValue93
 t46 := Tryz.underlying89
 a46 := Tryz.isAgg89
 z46 := Tryz.sizeOf89
 v46 := Tryz.zeroValue89
 t51 := Tryz.underlying266
 a51 := Tryz.isAgg266
 z51 := Tryz.sizeOf266
 v51 := Tryz.zeroValue266
 t53 := Tryz.underlying56
 a53 := Tryz.isAgg56
 z53 := Tryz.sizeOf56
 v53 := Tryz.zeroValue56
 t75 := Tryz.underlying254
 a75 := Tryz.isAgg254
 z75 := Tryz.sizeOf254
 v75 := Tryz.zeroValue254
 t76 := Tryz.underlying255
 a76 := Tryz.isAgg255
 z76 := Tryz.sizeOf255
 v76 := Tryz.zeroValue255
 t85 := Tryz.underlying290
 a85 := Tryz.isAgg290
 z85 := Tryz.sizeOf290
 v85 := Tryz.zeroValue290
 t127 := Tryz.underlying281
 a127 := Tryz.isAgg281
 z127 := Tryz.sizeOf281
 v127 := Tryz.zeroValue281
 t143 := Tryz.underlying347
 a143 := Tryz.isAgg347
 z143 := Tryz.sizeOf347
 v143 := Tryz.zeroValue347
 t145 := Tryz.underlying349
 a145 := Tryz.isAgg349
 z145 := Tryz.sizeOf349
 v145 := Tryz.zeroValue349
 t167 := Tryz.underlying323
 a167 := Tryz.isAgg323
 z167 := Tryz.sizeOf323
 v167 := Tryz.zeroValue323
 t168 := Tryz.underlying326
 a168 := Tryz.isAgg326
 z168 := Tryz.sizeOf326
 v168 := Tryz.zeroValue326
 t171 := Tryz.underlying298
 a171 := Tryz.isAgg298
 z171 := Tryz.sizeOf298
 v171 := Tryz.zeroValue298
 t173 := Tryz.underlying300
 a173 := Tryz.isAgg300
 z173 := Tryz.sizeOf300
 v173 := Tryz.zeroValue300
 t175 := Tryz.underlying324
 a175 := Tryz.isAgg324
 z175 := Tryz.sizeOf324
 v175 := Tryz.zeroValue324
 t210 := Tryz.underlying337
 a210 := Tryz.isAgg337
 z210 := Tryz.sizeOf337
 v210 := Tryz.zeroValue337
 t212 := Tryz.underlying319
 a212 := Tryz.isAgg319
 z212 := Tryz.sizeOf319
 v212 := Tryz.zeroValue319
 t213 := Tryz.underlying320
 a213 := Tryz.isAgg320
 z213 := Tryz.sizeOf320
 t232 := Tryz.underlying341
 a232 := Tryz.isAgg341
 z232 := Tryz.sizeOf341
 v232 := Tryz.zeroValue341
 t233 := Tryz.underlying342
 a233 := Tryz.isAgg342
 z233 := Tryz.sizeOf342
 v233 := Tryz.zeroValue342
 g15 := by kernel_rfl
 g16 := by kernel_rfl
 g17 := by kernel_rfl
 g18 := by kernel_rfl
 g19 := by kernel_rfl
 t80 := Tryz.underlying257
 a80 := Tryz.isAgg257
 z80 := Tryz.sizeOf257
 v80 := Tryz.zeroValue257
 i0 := by kernel_rfl
 i2 := by kernel_rfl
 i3 := by kernel_rfl
 i4 := by kernel_rfl
 i5 := by kernel_rfl
 i9 := by kernel_rfl
 i20 := by kernel_rfl
 i21 := by kernel_rfl
 i37 := by kernel_rfl
 i46 := by kernel_rfl
 i51 := by kernel_rfl
 i53 := by kernel_rfl
 i75 := by kernel_rfl
 i76 := by kernel_rfl
 i80 := by kernel_rfl
 i85 := by kernel_rfl
 i127 := by kernel_rfl
 i143 := by kernel_rfl
 i145 := by kernel_rfl
 i167 := by kernel_rfl
 i168 := by kernel_rfl
 i171 := by kernel_rfl
 i173 := by kernel_rfl
 i175 := by kernel_rfl
 i210 := by kernel_rfl
 i212 := by kernel_rfl
 i232 := by kernel_rfl
 i233 := by kernel_rfl
 m15 := by kernel_rfl
 m16 := by kernel_rfl
 m17 := by kernel_rfl
 m18 := by kernel_rfl
 m19 := by kernel_rfl
 c0 := by kernel_rfl
 c2 := by kernel_rfl
 c3 := by kernel_rfl
 c4 := by kernel_rfl
 c5 := by kernel_rfl
 c9 := by kernel_rfl
 c20 := by kernel_rfl
 c21 := by kernel_rfl
 c37 := by kernel_rfl
 c46 := by kernel_rfl
 c51 := by kernel_rfl
 c53 := by kernel_rfl
 c75 := by kernel_rfl
 c76 := by kernel_rfl
 c80 := by kernel_rfl
 c85 := by kernel_rfl
 c127 := by kernel_rfl
 c143 := by kernel_rfl
 c145 := by kernel_rfl
 c167 := by kernel_rfl
 c168 := by kernel_rfl
 c171 := by kernel_rfl
 c173 := by kernel_rfl
 c175 := by kernel_rfl
 c210 := by kernel_rfl
 c212 := by kernel_rfl
 c213 := by kernel_rfl
 c232 := by kernel_rfl
 c233 := by kernel_rfl }
open Go.RowKit in
theorem Tryz.strconv_Atoi_ok (s : ByteArray) (hmax : s.size ≤ 9223372036854775806) (v : Int) (h : Lib.atoiAll s.data.toList = .ok v) (w : World) :
 Calls Tryz.prog 280 #[.string s] w fun e w' => e = .returned (.tuple #[.int .i64 v, .nilIface]) ∧ (w' = w ∨ ∃ t, w' = Lib.bytesWorld w 5 t) := Any.strconv_Atoi_ok Tryz.laysC172 s hmax v h w
open Go.RowKit in
theorem Tryz.strconv_Atoi_syntax (s : ByteArray) (hlim : s.size ≤ 281474976710656) (h : Lib.atoiAll s.data.toList = Lib.atoiAll []) (ev : Value) (w : World) (hv : w.cell? ⟨2, 0, none⟩ = some ev) (hev : ev = .nilIface ∨ ∃ te pe, ev = .iface te pe) :
 Calls Tryz.prog 280 #[.string s] w fun e w' => ∃ N, e = .returned (.tuple #[.int .i64 (0), .iface 326 (.pointer (some ⟨N, 0, none⟩))]) ∧ w.heap.size ≤ N ∧ w'.heap[N]? = some (.cells #[.string ⟨#[65, 116, 111, 105]⟩, .string s, ev] 337 (0, 0)) ∧ Below w.heap.size w w' := Any.strconv_Atoi_syntax Tryz.laysC172 s hlim h ev w hv hev
open Go.RowKit in
theorem Tryz.strconv_Atoi_range (s : ByteArray) (hlim : s.size ≤ 281474976710656) (h : Lib.atoiAll s.data.toList = .range) (ev : Value) (w : World) (hv : w.cell? ⟨3, 0, none⟩ = some ev) (hev : ev = .nilIface ∨ ∃ te pe, ev = .iface te pe) :
 Calls Tryz.prog 280 #[.string s] w fun e w' => ∃ N, e = .returned (.tuple #[.int .i64 (Lib.atoiSat s.data.toList), .iface 326 (.pointer (some ⟨N, 0, none⟩))]) ∧ w.heap.size ≤ N ∧ w'.heap[N]? = some (.cells #[.string ⟨#[65, 116, 111, 105]⟩, .string s, ev] 337 (0, 0)) ∧ Below w.heap.size w w' := Any.strconv_Atoi_range Tryz.laysC172 s hlim h ev w hv hev
def Tryz.laysC174_ren : Go.Shelf.Ren := ⟨fun | 174 => 240 | 247 => 255 | 245 => 256 | 287 => 271 | 279 => 272 | 280 => 273 | 281 => 274 | 282 => 275 | 321 => 289 | 322 => 290 | 316 => 291 | 171 => 163 | 205 => 292 | 243 => 187 | 246 => 212 | 283 => 244 | 284 => 245 | 285 => 246 | 286 => 247 | 129 => 200 | 317 => 264 | 318 => 265 | 319 => 266 | 320 => 267 | 337 => 283 | 338 => 284 | n => n, fun | 9 => 9 | 3 => 3 | 2 => 2 | 75 => 254 | 85 => 290 | 4 => 4 | 167 => 323 | 5 => 5 | 53 => 56 | 175 => 324 | 46 => 89 | 168 => 326 | 37 => 93 | 0 => 0 | 210 => 337 | 21 => 21 | 127 => 281 | 145 => 349 | 143 => 347 | 171 => 298 | 173 => 300 | 212 => 319 | 51 => 266 | 20 => 20 | 213 => 320 | 232 => 341 | 233 => 342 | 80 => 257 | n => n, fun | 15 => 2 | 16 => 3 | 17 => 1 | 18 => 4 | 19 => 5 | n => n⟩
theorem Tryz.laysC174 : Go.Proofs.LaysC.n174 Tryz.prog Tryz.laysC174_ren := {
 mixed := by kernel_rfl
 f129 := Tryz.func200.trans (congrArg some (by kernel_rfl))
 f171 := Tryz.func163.trans (congrArg some (by kernel_rfl))
 f174 := Tryz.func240.trans (congrArg some (by kernel_rfl))
 f205 := Tryz.func292.trans (congrArg some (by kernel_rfl))
 f243 := Tryz.func187.trans (congrArg some (by kernel_rfl))
 f245 := Tryz.func256.trans (congrArg some (by kernel_rfl))
 f246 := Tryz.func212.trans (congrArg some (by kernel_rfl))
 f247 := Tryz.func255.trans (congrArg some (by kernel_rfl))
 f279 := Tryz.func272.trans (congrArg some (by kernel_rfl))
 f280 := Tryz.func273.trans (congrArg some (by kernel_rfl))
 f281 := Tryz.func274.trans (congrArg some (by kernel_rfl))
 f282 := Tryz.func275.trans (congrArg some (by kernel_rfl))
 f283 := Tryz.func244.trans (congrArg some (by kernel_rfl))
 f284 := Tryz.func245.trans (congrArg some (by kernel_rfl))
 f285 := Tryz.func246.trans (congrArg some (by kernel_rfl))
 f286 := Tryz.func247.trans (congrArg some (by kernel_rfl))
 f287 := Tryz.func271.trans (congrArg some (by kernel_rfl))
 f316 := Tryz.func291.trans (congrArg some (by kernel_rfl))
 f317 := Tryz.func264.trans (congrArg some (by kernel_rfl))
 f318 := Tryz.func265.trans (congrArg some (by kernel_rfl))
 f319 := Tryz.func266.trans (congrArg some (by kernel_rfl))
 f320 := Tryz.func267.trans (congrArg some (by kernel_rfl))
 f321 := Tryz.func289.trans (congrArg some (by kernel_rfl))
 f322 := Tryz.func290.trans (congrArg some (by kernel_rfl))
 f337 := Tryz.func283.trans (congrArg some (by kernel_rfl))
 f338 := Tryz.func284.trans (congrArg some (by kernel_rfl))
 t0 := Tryz.underlying0
 a0 := Tryz.isAgg0
 z0 := Tryz.sizeOf0
 v0 := Tryz.zeroValue0
 t2 := Tryz.underlying2
 a2 := Tryz.isAgg2
 z2 := Tryz.sizeOf2
 v2 := Tryz.zeroValue2
 t3 := Tryz.underlying3
 a3 := Tryz.isAgg3
 z3 := Tryz.sizeOf3
 v3 := Tryz.zeroValue3
 t4 := Tryz.underlying4
 a4 := Tryz.isAgg4
 z4 := Tryz.sizeOf4
 v4 := Tryz.zeroValue4
 t5 := Tryz.underlying5
 a5 := Tryz.isAgg5
 z5 := Tryz.sizeOf5
 v5 := Tryz.zeroValue5
 t9 := Tryz.underlying9
 a9 := Tryz.isAgg9
 z9 := Tryz.sizeOf9
 v9 := Tryz.zeroValue9
 t20 := Tryz.underlying20
 a20 := Tryz.isAgg20
 z20 := Tryz.sizeOf20
 v20 := Tryz.zeroValue20
 t21 := Tryz.underlying21
 a21 := Tryz.isAgg21
 z21 := Tryz.sizeOf21
 v21 := Tryz.zeroValue21
 t37 := Tryz.underlying93
 a37 := Tryz.isAgg93
 z37 := Tryz.sizeOf93
 v37 := Tryz.zeroValue93
 t46 := Tryz.underlying89
 a46 := Tryz.isAgg89
 z46 := Tryz.sizeOf89
 v46 := Tryz.zeroValue89
 t51 := Tryz.underlying266
 a51 := Tryz.isAgg266
 z51 := Tryz.sizeOf266
 v51 := Tryz.zeroValue266
 t53 := Tryz.underlying56
 a53 := Tryz.isAgg56
 z53 := Tryz.sizeOf56
 v53 := Tryz.zeroValue56
 t75 := Tryz.underlying254
 a75 := Tryz.isAgg254
 z75 := Tryz.sizeOf254
 v75 := Tryz.zeroValue254
 t85 := Tryz.underlying290
 a85 := Tryz.isAgg290
 z85 := Tryz.sizeOf290
 v85 := Tryz.zeroValue290
 t127 := Tryz.underlying281
 a127 := Tryz.isAgg281
 z127 := Tryz.sizeOf281
 v127 := Tryz.zeroValue281
 t143 := Tryz.underlying347
 a143 := Tryz.isAgg347
 z143 := Tryz.sizeOf347
 v143 := Tryz.zeroValue347
 t145 := Tryz.underlying349
 a145 := Tryz.isAgg349
 z145 := Tryz.sizeOf349
 v145 := Tryz.zeroValue349
 t167 := Tryz.underlying323
 a167 := Tryz.isAgg323
 z167 := Tryz.sizeOf323
 v167 := Tryz.zeroValue323
 t168 := Tryz.underlying326
 a168 := Tryz.isAgg326
 z168 := Tryz.sizeOf326
 v168 := Tryz.zeroValue326
 t171 := Tryz.underlying298
 a171 := Tryz.isAgg298
 z171 := Tryz.sizeOf298
 v171 := Tryz.zeroValue298
 t173 := Tryz.underlying300
 a173 := Tryz.isAgg300
 z173 := Tryz.sizeOf300
 v173 := Tryz.zeroValue300
 t175 := Tryz.underlying324
 a175 := Tryz.isAgg324
 z175 := Tryz.sizeOf324
 v175 := Tryz.zeroValue324
 t210 := Tryz.underlying337
 a210 := Tryz.isAgg337
 z210 := Tryz.sizeOf337
 v210 := Tryz.zeroValue337
 t212 := Tryz.underlying319
 a212 := Tryz.isAgg319
 z212 := Tryz.sizeOf319
 v212 := Tryz.zeroValue319
 t213 := Tryz.underlying320
 a213 := Tryz.isAgg320
 z213 := Tryz.sizeOf320
 t232 := Tryz.underlying341
 a232 := Tryz.isAgg341
 z232 := Tryz.sizeOf341
 v232 := Tryz.zeroValue341
 t233 := Tryz.underlying342
 a233 := Tryz.isAgg342
 z233 := Tryz.sizeOf342
 v233 := Tryz.zeroValue342
 g15 := by kernel_rfl
 g16 := by kernel_rfl
 g17 := by kernel_rfl
 g18 := by kernel_rfl
 g19 := by kernel_rfl
 t80 := Tryz.underlying257
 a80 := Tryz.isAgg257
 z80 := Tryz.sizeOf257
 v80 := Tryz.zeroValue257
 i0 := by kernel_rfl
 i2 := by kernel_rfl
 i3 := by kernel_rfl
 i4 := by kernel_rfl
 i5 := by kernel_rfl
 i9 := by kernel_rfl
 i20 := by kernel_rfl
 i21 := by kernel_rfl
 i37 := by kernel_rfl
 i46 := by kernel_rfl
 i51 := by kernel_rfl
 i53 := by kernel_rfl
 i75 := by kernel_rfl
 i80 := by kernel_rfl
 i85 := by kernel_rfl
 i127 := by kernel_rfl
 i143 := by kernel_rfl
 i145 := by kernel_rfl
 i167 := by kernel_rfl
 i168 := by kernel_rfl
 i171 := by kernel_rfl
 i173 := by kernel_rfl
 i175 := by kernel_rfl
 i210 := by kernel_rfl
 i212 := by kernel_rfl
 i232 := by kernel_rfl
 i233 := by kernel_rfl
 m15 := by kernel_rfl
 m16 := by kernel_rfl
 m17 := by kernel_rfl
 m18 := by kernel_rfl
 m19 := by kernel_rfl
 c0 := by kernel_rfl
 c2 := by kernel_rfl
 c3 := by kernel_rfl
 c4 := by kernel_rfl
 c5 := by kernel_rfl
 c9 := by kernel_rfl
 c20 := by kernel_rfl
 c21 := by kernel_rfl
 c37 := by kernel_rfl
 c46 := by kernel_rfl
 c51 := by kernel_rfl
 c53 := by kernel_rfl
 c75 := by kernel_rfl
 c80 := by kernel_rfl
 c85 := by kernel_rfl
 c127 := by kernel_rfl
 c143 := by kernel_rfl
 c145 := by kernel_rfl
 c167 := by kernel_rfl
 c168 := by kernel_rfl
 c171 := by kernel_rfl
 c173 := by kernel_rfl
 c175 := by kernel_rfl
 c210 := by kernel_rfl
 c212 := by kernel_rfl
 c213 := by kernel_rfl
 c232 := by kernel_rfl
 c233 := by kernel_rfl }
open Go.RowKit in
theorem Tryz.strconv_ParseInt_10_at64_ok (s : ByteArray) (hmax : s.size ≤ 9223372036854775806) (v : Int) (h : Lib.parseIntB 64 s.data.toList = .ok v) (w : World) :
 Calls Tryz.prog 240 #[.string s, .int .i64 10, .int .i64 64] w fun e w' => e = .returned (.tuple #[.int .i64 v, .nilIface]) ∧ (w' = w ∨ ∃ t, w' = Lib.bytesWorld w 5 t) := Any.strconv_ParseInt_10_at64_ok Tryz.laysC174 s hmax v h w
open Go.RowKit in
theorem Tryz.strconv_ParseInt_10_at64_syntax (s : ByteArray) (hlim : s.size ≤ 281474976710656) (h : Lib.parseIntB 64 s.data.toList = Lib.atoiAll []) (ev : Value) (w : World) (hv : w.cell? ⟨2, 0, none⟩ = some ev) (hev : ev = .nilIface ∨ ∃ te pe, ev = .iface te pe) :
 Calls Tryz.prog 240 #[.string s, .int .i64 10, .int .i64 64] w fun e w' => ∃ N, e = .returned (.tuple #[.int .i64 (0), .iface 326 (.pointer (some ⟨N, 0, none⟩))]) ∧ w.heap.size ≤ N ∧ w'.heap[N]? = some (.cells #[.string ⟨#[80, 97, 114, 115, 101, 73, 110, 116]⟩, .string s, ev] 337 (0, 0)) ∧ Below w.heap.size w w' := Any.strconv_ParseInt_10_at64_syntax Tryz.laysC174 s hlim h ev w hv hev
open Go.RowKit in
theorem Tryz.strconv_ParseInt_10_at64_range (s : ByteArray) (hlim : s.size ≤ 281474976710656) (h : Lib.parseIntB 64 s.data.toList = .range) (ev : Value) (w : World) (hv : w.cell? ⟨3, 0, none⟩ = some ev) (hev : ev = .nilIface ∨ ∃ te pe, ev = .iface te pe) :
 Calls Tryz.prog 240 #[.string s, .int .i64 10, .int .i64 64] w fun e w' => ∃ N, e = .returned (.tuple #[.int .i64 (Lib.intSat 64 s.data.toList), .iface 326 (.pointer (some ⟨N, 0, none⟩))]) ∧ w.heap.size ≤ N ∧ w'.heap[N]? = some (.cells #[.string ⟨#[80, 97, 114, 115, 101, 73, 110, 116]⟩, .string s, ev] 337 (0, 0)) ∧ Below w.heap.size w w' := Any.strconv_ParseInt_10_at64_range Tryz.laysC174 s hlim h ev w hv hev
def Tryz.lays144_ren : Go.Shelf.Ren := ⟨fun | 144 => 302 | 143 => 269 | 219 => 287 | 217 => 297 | 225 => 298 | 224 => 299 | 267 => 300 | 266 => 305 | 314 => 306 | n => n, fun | 9 => 9 | 4 => 4 | 3 => 3 | 5 => 5 | 46 => 89 | 146 => 351 | 51 => 266 | n => n, fun | 1 => 0 | n => n⟩
theorem Tryz.lays144 : Go.Proofs.Lays.n144 Tryz.prog Tryz.lays144_ren := {
 mixed := by kernel_rfl
 f143 := Tryz.func269.trans (congrArg some (by kernel_rfl))
 f144 := Tryz.func302.trans (congrArg some (by kernel_rfl))
 f217 := Tryz.func297.trans (congrArg some (by kernel_rfl))
 f219 := Tryz.func287.trans (congrArg some (by kernel_rfl))
 f224 := Tryz.func299.trans (congrArg some (by kernel_rfl))
 f225 := Tryz.func298.trans (congrArg some (by kernel_rfl))
 f266 := Tryz.func305.trans (congrArg some (by kernel_rfl))
 f267 := Tryz.func300.trans (congrArg some (by kernel_rfl))
 f314 := Tryz.func306.trans (congrArg some (by kernel_rfl))
 t3 := Tryz.underlying3
 a3 := Tryz.isAgg3
 z3 := Tryz.sizeOf3
 v3 := Tryz.zeroValue3
 t4 := Tryz.underlying4
 a4 := Tryz.isAgg4
 z4 := Tryz.sizeOf4
 v4 := Tryz.zeroValue4
 t5 := Tryz.underlying5
 a5 := Tryz.isAgg5
 z5 := Tryz.sizeOf5
 v5 := Tryz.zeroValue5
 t9 := Tryz.underlying9
 a9 := Tryz.isAgg9
 z9 := Tryz.sizeOf9
 v9 := Tryz.zeroValue9
 t46 := Tryz.underlying89
 a46 := Tryz.isAgg89
 z46 := Tryz.sizeOf89
 v46 := Tryz.zeroValue89
 t51 := Tryz.underlying266
 a51 := Tryz.isAgg266
 z51 := Tryz.sizeOf266
 v51 := Tryz.zeroValue266
 t146 := Tryz.underlying351
 a146 := Tryz.isAgg351
 z146 := Tryz.sizeOf351
 v146 := Tryz.zeroValue351
 g1 := by kernel_rfl }
open Go.RowKit Go.Lib in
theorem Tryz.strings_Contains (s sub : ByteArray) (m : Int) (w : World) (hs : s.size < 4294967281) (hm : w.cell? ⟨0, 0, none⟩ = some (.int .i64 m)) :
 Calls Tryz.prog 302 #[.string s, .string sub] w fun e w' => e = .returned (.bool (Lib.contains s.data.toList sub.data.toList)) ∧ w' = w := Any.strings_Contains Tryz.lays144 s sub m w hs hm
def Tryz.lays145_ren : Go.Shelf.Ren := ⟨fun | 145 => 258 | 220 => 276 | 219 => 287 | 217 => 297 | 225 => 298 | 224 => 299 | 267 => 300 | 266 => 305 | 314 => 306 | n => n, fun | 9 => 9 | 4 => 4 | 59 => 313 | 3 => 3 | 5 => 5 | 46 => 89 | 146 => 351 | 51 => 266 | n => n, fun | 1 => 0 | n => n⟩
theorem Tryz.lays145 : Go.Proofs.Lays.n145 Tryz.prog Tryz.lays145_ren := {
 mixed := by kernel_rfl
 f145 := Tryz.func258.trans (congrArg some (by kernel_rfl))
 f217 := Tryz.func297.trans (congrArg some (by kernel_rfl))
 f219 := Tryz.func287.trans (congrArg some (by kernel_rfl))
 f220 := Tryz.func276.trans (congrArg some (by kernel_rfl))
 f224 := Tryz.func299.trans (congrArg some (by kernel_rfl))
 f225 := Tryz.func298.trans (congrArg some (by kernel_rfl))
 f266 := Tryz.func305.trans (congrArg some (by kernel_rfl))
 f267 := Tryz.func300.trans (congrArg some (by kernel_rfl))
 f314 := Tryz.func306.trans (congrArg some (by kernel_rfl))
 t3 := Tryz.underlying3
 a3 := Tryz.isAgg3
 z3 := Tryz.sizeOf3
 v3 := Tryz.zeroValue3
 t4 := Tryz.underlying4
 a4 := Tryz.isAgg4
 z4 := Tryz.sizeOf4
 v4 := Tryz.zeroValue4
 t5 := Tryz.underlying5
 a5 := Tryz.isAgg5
 z5 := Tryz.sizeOf5
 v5 := Tryz.zeroValue5
 t9 := Tryz.underlying9
 a9 := Tryz.isAgg9
 z9 := Tryz.sizeOf9
 v9 := Tryz.zeroValue9
 t46 := Tryz.underlying89
 a46 := Tryz.isAgg89
 z46 := Tryz.sizeOf89
 v46 := Tryz.zeroValue89
 t51 := Tryz.underlying266
 a51 := Tryz.isAgg266
 z51 := Tryz.sizeOf266
 v51 := Tryz.zeroValue266
 t59 := Tryz.underlying313
 a59 := Tryz.isAgg313
 z59 := Tryz.sizeOf313
 v59 := Tryz.zeroValue313
 t146 := Tryz.underlying351
 a146 := Tryz.isAgg351
 z146 := Tryz.sizeOf351
 v146 := Tryz.zeroValue351
 g1 := by kernel_rfl }
open Go.RowKit Go.Lib in
theorem Tryz.strings_Cut (s sep : ByteArray) (m : Int) (w : World) (hs : s.size < 4294967281) (hm : w.cell? ⟨0, 0, none⟩ = some (.int .i64 m)) :
 Calls Tryz.prog 258 #[.string s, .string sep] w fun e w' => e = .returned (.tuple #[.string ⟨(Lib.cut s.data.toList sep.data.toList).1.toArray⟩, .string ⟨(Lib.cut s.data.toList sep.data.toList).2.1.toArray⟩, .bool (Lib.cut s.data.toList sep.data.toList).2.2]) ∧ ∃ n, w' = w.drewN n := Any.strings_Cut Tryz.lays145 s sep m w hs hm
def Tryz.lays155_ren : Go.Shelf.Ren := ⟨fun | 155 => 228 | 154 => 249 | 138 => 268 | 165 => 188 | 143 => 269 | 166 => 189 | 197 => 270 | 169 => 190 | 195 => 285 | 218 => 286 | 240 => 229 | 241 => 230 | 219 => 287 | 260 => 288 | 276 => 250 | 277 => 251 | 217 => 297 | 225 => 298 | 224 => 299 | 267 => 300 | 266 => 305 | 314 => 306 | n => n, fun | 9 => 9 | 3 => 3 | 4 => 4 | 72 => 251 | 0 => 0 | 76 => 255 | 105 => 321 | 21 => 21 | 5 => 5 | 70 => 249 | 20 => 20 | 37 => 93 | 75 => 254 | 127 => 281 | 164 => 303 | 46 => 89 | 119 => 343 | 139 => 346 | 138 => 345 | 146 => 351 | 51 => 266 | 80 => 257 | n => n, fun | 1 => 0 | 3 => 6 | 4 => 7 | n => n⟩
theorem Tryz.lays155 : Go.Proofs.Lays.n155 Tryz.prog Tryz.lays155_ren := {
 mixed := by kernel_rfl
 f138 := Tryz.func268.trans (congrArg some (by kernel_rfl))
 f143 := Tryz.func269.trans (congrArg some (by kernel_rfl))
 f154 := Tryz.func249.trans (congrArg some (by kernel_rfl))
 f155 := Tryz.func228.trans (congrArg some (by kernel_rfl))
 f165 := Tryz.func188.trans (congrArg some (by kernel_rfl))
 f166 := Tryz.func189.trans (congrArg some (by kernel_rfl))
 f169 := Tryz.func190.trans (congrArg some (by kernel_rfl))
 f195 := Tryz.func285.trans (congrArg some (by kernel_rfl))
 f197 := Tryz.func270.trans (congrArg some (by kernel_rfl))
 f217 := Tryz.func297.trans (congrArg some (by kernel_rfl))
 f218 := Tryz.func286.trans (congrArg some (by kernel_rfl))
 f219 := Tryz.func287.trans (congrArg some (by kernel_rfl))
 f224 := Tryz.func299.trans (congrArg some (by kernel_rfl))
 f225 := Tryz.func298.trans (congrArg some (by kernel_rfl))
 f240 := Tryz.func229.trans (congrArg some (by kernel_rfl))
 f241 := Tryz.func230.trans (congrArg some (by kernel_rfl))
 f260 := Tryz.func288.trans (congrArg some (by kernel_rfl))
 f266 := Tryz.func305.trans (congrArg some (by kernel_rfl))
 f267 := Tryz.func300.trans (congrArg some (by kernel_rfl))
 f276 := Tryz.func250.trans (congrArg some (by kernel_rfl))
 f277 := Tryz.func251.trans (congrArg some (by kernel_rfl))
 f314 := Tryz.func306.trans (congrArg some (by kernel_rfl))
 t0 := Tryz.underlying0
 a0 := Tryz.isAgg0
 z0 := Tryz.sizeOf0
 v0 := Tryz.zeroValue0
 t3 := Tryz.underlying3
 a3 := Tryz.isAgg3
 z3 := Tryz.sizeOf3
 v3 := Tryz.zeroValue3
 t4 := Tryz.underlying4
 a4 := Tryz.isAgg4
 z4 := Tryz.sizeOf4
 v4 := Tryz.zeroValue4
 t5 := Tryz.underlying5
 a5 := Tryz.isAgg5
 z5 := Tryz.sizeOf5
 v5 := Tryz.zeroValue5
 t9 := Tryz.underlying9
 a9 := Tryz.isAgg9
 z9 := Tryz.sizeOf9
 v9 := Tryz.zeroValue9
 t20 := Tryz.underlying20
 a20 := Tryz.isAgg20
 z20 := Tryz.sizeOf20
 v20 := Tryz.zeroValue20
 t21 := Tryz.underlying21
 a21 := Tryz.isAgg21
 z21 := Tryz.sizeOf21
 v21 := Tryz.zeroValue21
 t37 := Tryz.underlying93
 a37 := Tryz.isAgg93
 z37 := Tryz.sizeOf93
 v37 := Tryz.zeroValue93
 t46 := Tryz.underlying89
 a46 := Tryz.isAgg89
 z46 := Tryz.sizeOf89
 v46 := Tryz.zeroValue89
 t51 := Tryz.underlying266
 a51 := Tryz.isAgg266
 z51 := Tryz.sizeOf266
 v51 := Tryz.zeroValue266
 t70 := Tryz.underlying249
 a70 := Tryz.isAgg249
 z70 := Tryz.sizeOf249
 v70 := Tryz.zeroValue249
 t72 := Tryz.underlying251
 a72 := Tryz.isAgg251
 z72 := Tryz.sizeOf251
 v72 := Tryz.zeroValue251
 t75 := Tryz.underlying254
 a75 := Tryz.isAgg254
 z75 := Tryz.sizeOf254
 v75 := Tryz.zeroValue254
 t76 := Tryz.underlying255
 a76 := Tryz.isAgg255
 z76 := Tryz.sizeOf255
 v76 := Tryz.zeroValue255
 t105 := Tryz.underlying321
 a105 := Tryz.isAgg321
 z105 := Tryz.sizeOf321
 v105 := Tryz.zeroValue321
 t119 := Tryz.underlying343
 a119 := Tryz.isAgg343
 z119 := Tryz.sizeOf343
 t127 := Tryz.underlying281
 a127 := Tryz.isAgg281
 z127 := Tryz.sizeOf281
 v127 := Tryz.zeroValue281
 t138 := Tryz.underlying345
 a138 := Tryz.isAgg345
 z138 := Tryz.sizeOf345
 v138 := Tryz.zeroValue345
 t139 := Tryz.underlying346
 a139 := Tryz.isAgg346
 z139 := Tryz.sizeOf346
 v139 := Tryz.zeroValue346
 t146 := Tryz.underlying351
 a146 := Tryz.isAgg351
 z146 := Tryz.sizeOf351
 v146 := Tryz.zeroValue351
 t164 := Tryz.underlying303
 a164 := Tryz.isAgg303
 z164 := Tryz.sizeOf303
 v164 := Tryz.zeroValue303
 g1 := by kernel_rfl
 g3 := by kernel_rfl
 g4 := by kernel_rfl }
theorem Tryz.Builder_Extra_155 : Builder.Extra Tryz.prog Tryz.lays155_ren := {
 sizeBuilder := by kernel_rfl
 liesBuilder := by kernel_rfl
 t5 := Tryz.underlying5
 a5 := Tryz.isAgg5
 z5 := Tryz.sizeOf5
 v5 := Tryz.zeroValue5
 infoByte := by kernel_rfl
 cellsByte := by kernel_rfl
 sizeByte := by kernel_rfl
 neB5 := by decide }
open Go.RowKit Go.Lib in
theorem Tryz.strings_ReplaceAll (s old new : ByteArray) (m : Int) (w : World) (hs : s.size < 4294967281) (hm : w.cell? ⟨0, 0, none⟩ = some (.int .i64 m)) (h1 : 1 ≤ old.size) (hlen : s.size + Lib.countB s old * new.size ≤ 140737488355328) :
 Calls Tryz.prog 228 #[.string s, .string old, .string new] w fun e w' =>
  e = .returned (.string ⟨(Lib.replaceAll s.data.toList old.data.toList new.data.toList).toArray⟩) ∧ Below w.heap.size w w' := Any.strings_ReplaceAll Tryz.lays155 Tryz.Builder_Extra_155 s old new m w hs hm h1 hlen
end Go.Proofs
