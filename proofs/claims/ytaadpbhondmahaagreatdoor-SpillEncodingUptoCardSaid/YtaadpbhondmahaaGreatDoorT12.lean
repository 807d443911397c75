/- Part of a proof. -/
import Derived.Shelf.Strings.Builder1
import Derived.Shelf.Strings.Builder2
import Derived.Shelf.Strings.OnBuilder
import Derived.Shelf.Strings.Trim
import Derived.Shelf.Small.Utf8
import Derived.Shelf.Small.Bits
import Derived.Shelf.Small.Strs
import Derived.Shelf.Utf8.RuneCount
import Derived.Shelf.Strconv.Atoi
import Derived.Shelf.Strconv.Itoa0
import Derived.Shelf.Strconv.Itoa1
import Derived.Shelf.LaysM
import Derived.Shelf.Strconv.Itoa2
import Derived.Shelf.Strconv.Itoa3
import Derived.Shelf.Strconv.Itoa4
import Derived.Shelf.Strconv.AtoiErrFast
import Derived.Shelf.Strconv.ParseIntEmpty
import Derived.Shelf.Strconv.AtoiFail
import Derived.Shelf.Strconv.Clone
import Derived.Shelf.Strconv.SyntaxError
import Derived.Shelf.LaysC
import Derived.Shelf.Strconv.ToError
import Derived.Shelf.Strconv.Lower
import Derived.Shelf.Strconv.ParseUint10
import Derived.Shelf.Strconv.ParseUint10Empty
import Derived.Shelf.Strconv.ParseUint10Any
import Derived.Shelf.Strconv.ParseInt10
import Derived.Shelf.Strconv.AtoiLong
import Derived.Shelf.Strconv.AtoiInnerAll
import Derived.Shelf.Strconv.RangeError
import Derived.Shelf.Strconv.ToErrorRange
import Derived.Shelf.Strconv.AtoiAll
import Derived.Shelf.Strconv.ErrVarAll
import Derived.Shelf.Strconv.ParseUintEmpty
import Derived.Shelf.Strconv.ParseUint10b64
import Derived.Shelf.Strconv.ParseUint10b32
import Derived.Shelf.Strconv.ParseUint10b16
import Derived.Shelf.Strconv.ParseUint10b8
import Derived.Shelf.Strconv.ParseUint10At
import Derived.Shelf.Strconv.ParseInt10At64
import Derived.Shelf.Strconv.ParseInt10At32
import Derived.Shelf.Strconv.ParseInt10At16
import Derived.Shelf.Strconv.ParseInt10At8
import Derived.Shelf.Strconv.ParseInt10All
import Derived.Shelf.Strconv.ParseIntPublic10
import Derived.Shelf.Strconv.ErrVarParseInt
import Derived.Shelf.Strings.Search1
import Derived.Shelf.Strings.Search2
import Derived.Shelf.Strings.Search3
import Derived.Shelf.Strings.Cut
import Derived.Shelf.Strings.Count
import Derived.Shelf.Strings.Shaped
import Derived.Shelf.GgClosure.StringsIndexFunc
import Derived.Ground.GgwProg
import Derived.Shelf.GgClosure.StringsIndexFuncTop
import Derived.Shelf.GgClosure.StringsRunes
import Derived.Shelf.Strings.Prefix
import Derived.Shelf.Strings.Split
import Derived.Shelf.Strings.Replace
import Derived.Shelf.Strings.SplitShaped
import Derived.Shelf.Unicode.Decode
import Derived.Shelf.Strings.Runes
import Derived.Shelf.Strings.RuneCount
import Derived.Shelf.Strings.AsciiSet
import Derived.Shelf.Unicode.DecodeSlow
import Derived.Shelf.Unicode.DecodeAny
import Derived.Shelf.Unicode.DecodeLast
import Derived.Ground.Names2Prog
import Derived.Shelf.Slices.SearchI
import Derived.Test.YtaadpbhondmahaaGreatDoorProg
set_option linter.all false
namespace Go.Proofs
theorem YO {p : Prop} (h : p := by kernel_rfl) : p := h
theorem YN {α : Type} {a b : α} (h : a = b := by kernel_rfl) : some a = some b := congrArg some h
open Go.Shelf
def Tryz.lays156_ren : Go.Shelf.Ren := ⟨fun | 156 => 98 | 165 => 129 | 166 => 130 | 169 => 131 | 240 => 169 | 241 => 170 | 276 => 187 | 277 => 188 | n => n, fun | 31 => 156 | 9 => 9 | 3 => 3 | 4 => 4 | 0 => 0 | 20 => 20 | 72 => 184 | 76 => 188 | 70 => 182 | 37 => 27 | 75 => 187 | 127 => 219 | 164 => 237 | 5 => 5 | 80 => 190 | n => n, fun | n => n⟩
theorem Tryz.lays156 : Go.Proofs.Lays.n156 Tryz.prog Tryz.lays156_ren := {
 mixed := YO
 f156 := Tryz.func98.trans YN
 f165 := Tryz.func129.trans YN
 f166 := Tryz.func130.trans YN
 f169 := Tryz.func131.trans YN
 f240 := Tryz.func169.trans YN
 f241 := Tryz.func170.trans YN
 f276 := Tryz.func187.trans YN
 f277 := Tryz.func188.trans YN
 t0 := Tryz.underlying0
 a0 := Tryz.isAgg0
 z0 := Tryz.sizeOf0
 v0 := Tryz.zeroValue0
 t3 := Tryz.underlying3
 a3 := Tryz.isAgg3
 z3 := Tryz.sizeOf3
 v3 := Tryz.zeroValue3
 t4 := Tryz.underlying4
 a4 := Tryz.isAgg4
 z4 := Tryz.sizeOf4
 v4 := Tryz.zeroValue4
 t9 := Tryz.underlying9
 a9 := Tryz.isAgg9
 z9 := Tryz.sizeOf9
 v9 := Tryz.zeroValue9
 t20 := Tryz.underlying20
 a20 := Tryz.isAgg20
 z20 := Tryz.sizeOf20
 v20 := Tryz.zeroValue20
 t31 := Tryz.underlying156
 a31 := Tryz.isAgg156
 z31 := Tryz.sizeOf156
 v31 := Tryz.zeroValue156
 t37 := Tryz.underlying27
 a37 := Tryz.isAgg27
 z37 := Tryz.sizeOf27
 v37 := Tryz.zeroValue27
 t70 := Tryz.underlying182
 a70 := Tryz.isAgg182
 z70 := Tryz.sizeOf182
 v70 := Tryz.zeroValue182
 t72 := Tryz.underlying184
 a72 := Tryz.isAgg184
 z72 := Tryz.sizeOf184
 v72 := Tryz.zeroValue184
 t75 := Tryz.underlying187
 a75 := Tryz.isAgg187
 z75 := Tryz.sizeOf187
 v75 := Tryz.zeroValue187
 t76 := Tryz.underlying188
 a76 := Tryz.isAgg188
 z76 := Tryz.sizeOf188
 v76 := Tryz.zeroValue188
 t127 := Tryz.underlying219
 a127 := Tryz.isAgg219
 z127 := Tryz.sizeOf219
 v127 := Tryz.zeroValue219
 t164 := Tryz.underlying237
 a164 := Tryz.isAgg237
 z164 := Tryz.sizeOf237
 v164 := Tryz.zeroValue237 }
theorem Tryz.Builder_Extra_156 : Builder.Extra Tryz.prog Tryz.lays156_ren := {
 sizeBuilder := YO
 liesBuilder := YO
 t5 := Tryz.underlying5
 a5 := Tryz.isAgg5
 z5 := Tryz.sizeOf5
 v5 := Tryz.zeroValue5
 infoByte := YO
 cellsByte := YO
 sizeByte := YO
 neB5 := by decide }
open Go.RowKit in
theorem Tryz.strings_Join_none (a : Option Addr) (c : Nat) (sep : ByteArray) (w : World) :
 Calls Tryz.prog 98 #[.slice a 0 c, .string sep] w fun e w' => e = .returned (.string ⟨#[]⟩) /\ w' = w := Any.strings_Join_none Tryz.lays156 Tryz.Builder_Extra_156 a c sep w
open Go.RowKit in
theorem Tryz.strings_Join (bk o c : Nat) (xs : List ByteArray) (sep : ByteArray) (w : World) (hcells : ∀ (j : Nat) x, xs[j]? = some x -> w.cell? ⟨bk, o + j, none⟩ = some (.string x)) (hbk : bk < w.heap.size) (hN : xs.length <= 140737488355328) (hcap : xs.length <= c) (hlen : (Lib.join (xs.map (·.data.toList)) sep.data.toList).length <= 140737488355328) :
 Calls Tryz.prog 98 #[.slice (some ⟨bk, o, none⟩) xs.length c, .string sep] w fun e w' => e = .returned (.string ⟨(Lib.join (xs.map (·.data.toList)) sep.data.toList).toArray⟩) /\ Below w.heap.size w w' := Any.strings_Join Tryz.lays156 Tryz.Builder_Extra_156 bk o c xs sep w hcells hbk hN hcap hlen
def Tryz.lays160_ren : Go.Shelf.Ren := ⟨fun | 160 => 237 | 232 => 242 | 231 => 241 | 227 => 243 | 234 => 245 | 233 => 244 | 236 => 247 | 235 => 246 | 228 => 248 | 271 => 250 | 151 => 249 | 197 => 217 | 120 => 252 | 152 => 251 | 260 => 229 | 137 => 253 | 119 => 254 | 224 => 232 | 225 => 231 | 217 => 230 | 266 => 238 | n => n, fun | 9 => 9 | 4 => 4 | 3 => 3 | 5 => 5 | 117 => 288 | 116 => 287 | 0 => 0 | 124 => 291 | 21 => 21 | 105 => 265 | 46 => 155 | 119 => 279 | 139 => 282 | 138 => 281 | n => n, fun | 3 => 6 | 4 => 7 | n => n⟩
theorem Tryz.lays160 : Go.Proofs.Lays.n160 Tryz.prog Tryz.lays160_ren := {
 mixed := YO
 f119 := Tryz.func254.trans YN
 f120 := Tryz.func252.trans YN
 f137 := Tryz.func253.trans YN
 f151 := Tryz.func249.trans YN
 f152 := Tryz.func251.trans YN
 f160 := Tryz.func237.trans YN
 f197 := Tryz.func217.trans YN
 f217 := Tryz.func230.trans YN
 f224 := Tryz.func232.trans YN
 f225 := Tryz.func231.trans YN
 f227 := Tryz.func243.trans YN
 f228 := Tryz.func248.trans YN
 f231 := Tryz.func241.trans YN
 f232 := Tryz.func242.trans YN
 f233 := Tryz.func244.trans YN
 f234 := Tryz.func245.trans YN
 f235 := Tryz.func246.trans YN
 f236 := Tryz.func247.trans YN
 f260 := Tryz.func229.trans YN
 f266 := Tryz.func238.trans YN
 f271 := Tryz.func250.trans YN
 t0 := Tryz.underlying0
 a0 := Tryz.isAgg0
 z0 := Tryz.sizeOf0
 v0 := Tryz.zeroValue0
 t3 := Tryz.underlying3
 a3 := Tryz.isAgg3
 z3 := Tryz.sizeOf3
 v3 := Tryz.zeroValue3
 t4 := Tryz.underlying4
 a4 := Tryz.isAgg4
 z4 := Tryz.sizeOf4
 v4 := Tryz.zeroValue4
 t5 := Tryz.underlying5
 a5 := Tryz.isAgg5
 z5 := Tryz.sizeOf5
 v5 := Tryz.zeroValue5
 t9 := Tryz.underlying9
 a9 := Tryz.isAgg9
 z9 := Tryz.sizeOf9
 v9 := Tryz.zeroValue9
 t21 := Tryz.underlying21
 a21 := Tryz.isAgg21
 z21 := Tryz.sizeOf21
 v21 := Tryz.zeroValue21
 t46 := Tryz.underlying155
 a46 := Tryz.isAgg155
 z46 := Tryz.sizeOf155
 v46 := Tryz.zeroValue155
 t105 := Tryz.underlying265
 a105 := Tryz.isAgg265
 z105 := Tryz.sizeOf265
 v105 := Tryz.zeroValue265
 t116 := Tryz.underlying287
 a116 := Tryz.isAgg287
 z116 := Tryz.sizeOf287
 t117 := Tryz.underlying288
 a117 := Tryz.isAgg288
 z117 := Tryz.sizeOf288
 v117 := Tryz.zeroValue288
 t119 := Tryz.underlying279
 a119 := Tryz.isAgg279
 z119 := Tryz.sizeOf279
 t124 := Tryz.underlying291
 a124 := Tryz.isAgg291
 z124 := Tryz.sizeOf291
 v124 := Tryz.zeroValue291
 t138 := Tryz.underlying281
 a138 := Tryz.isAgg281
 z138 := Tryz.sizeOf281
 v138 := Tryz.zeroValue281
 t139 := Tryz.underlying282
 a139 := Tryz.isAgg282
 z139 := Tryz.sizeOf282
 v139 := Tryz.zeroValue282
 g3 := YO
 g4 := YO }
def Tryz.lays213_ren : Go.Shelf.Ren := ⟨fun | 213 => 159 | 265 => 181 | n => n, fun | 9 => 9 | 3 => 3 | n => n, fun | n => n⟩
def Tryz.lays106_ren : Go.Shelf.Ren := ⟨fun | 106 => 121 | 213 => 159 | 265 => 181 | n => n, fun | 9 => 9 | 3 => 3 | n => n, fun | n => n⟩
theorem Tryz.lays106 : Go.Proofs.Lays.n106 Tryz.prog Tryz.lays106_ren := {
 mixed := YO
 f106 := Tryz.func121.trans YN
 f213 := Tryz.func159.trans YN
 f265 := Tryz.func181.trans YN
 t3 := Tryz.underlying3
 a3 := Tryz.isAgg3
 z3 := Tryz.sizeOf3
 v3 := Tryz.zeroValue3
 t9 := Tryz.underlying9
 a9 := Tryz.isAgg9
 z9 := Tryz.sizeOf9
 v9 := Tryz.zeroValue9 }
open Go.RowKit in
theorem Tryz.strings_Compare (a b : ByteArray) (w : World) :
 Calls Tryz.prog 121 #[.string a, .string b] w fun e w' => e = .returned (.int .i64 (Lib.compareBytes a.data.toList b.data.toList)) /\ w' = w := Any.strings_Compare Tryz.lays106 a b w
def Tryz.lays172_ren : Go.Shelf.Ren := ⟨fun | 172 => 212 | 244 => 224 | 245 => 191 | 247 => 190 | 279 => 204 | 280 => 205 | 281 => 206 | 282 => 207 | 287 => 203 | 316 => 220 | 171 => 128 | 205 => 221 | 321 => 218 | 322 => 219 | 243 => 168 | 246 => 126 | 283 => 160 | 284 => 161 | 285 => 162 | 286 => 163 | 129 => 157 | 317 => 182 | 318 => 183 | 319 => 184 | 320 => 185 | 337 => 200 | 338 => 201 | n => n, fun | 9 => 9 | 3 => 3 | 75 => 187 | 76 => 188 | 4 => 4 | 5 => 5 | 167 => 253 | 37 => 27 | 0 => 0 | 85 => 220 | 2 => 2 | 168 => 256 | 53 => 104 | 175 => 254 | 46 => 155 | 210 => 269 | 127 => 219 | 145 => 277 | 143 => 275 | 21 => 21 | 171 => 214 | 173 => 216 | 212 => 234 | 51 => 211 | 20 => 20 | 213 => 235 | 232 => 263 | 233 => 264 | 80 => 190 | n => n, fun | 15 => 4 | 16 => 5 | 17 => 1 | 18 => 2 | 19 => 3 | n => n⟩
def Tryz.laysM246_ren : Go.Shelf.Ren := ⟨fun | 246 => 126 | 283 => 160 | 284 => 161 | 285 => 162 | 286 => 163 | 129 => 157 | 317 => 182 | 318 => 183 | 319 => 184 | 320 => 185 | 337 => 200 | 338 => 201 | n => n, fun | 2 => 2 | 3 => 3 | 9 => 9 | 4 => 4 | 171 => 214 | 0 => 0 | 53 => 104 | 37 => 27 | 5 => 5 | 173 => 216 | 212 => 234 | 51 => 211 | 20 => 20 | 213 => 235 | 46 => 155 | 232 => 263 | 233 => 264 | n => n, fun | 17 => 1 | 18 => 2 | 19 => 3 | n => n⟩
def Tryz.laysM243_ren : Go.Shelf.Ren := ⟨fun | 243 => 168 | 246 => 126 | 283 => 160 | 284 => 161 | 285 => 162 | 286 => 163 | 129 => 157 | 317 => 182 | 318 => 183 | 319 => 184 | 320 => 185 | 337 => 200 | 338 => 201 | n => n, fun | 3 => 3 | 9 => 9 | 2 => 2 | 4 => 4 | 171 => 214 | 0 => 0 | 53 => 104 | 37 => 27 | 5 => 5 | 173 => 216 | 212 => 234 | 51 => 211 | 20 => 20 | 213 => 235 | 46 => 155 | 232 => 263 | 233 => 264 | n => n, fun | 17 => 1 | 18 => 2 | 19 => 3 | n => n⟩
def Tryz.laysM171_ren : Go.Shelf.Ren := ⟨fun | 171 => 128 | 243 => 168 | 246 => 126 | 283 => 160 | 284 => 161 | 285 => 162 | 286 => 163 | 129 => 157 | 317 => 182 | 318 => 183 | 319 => 184 | 320 => 185 | 337 => 200 | 338 => 201 | n => n, fun | 3 => 3 | 9 => 9 | 2 => 2 | 4 => 4 | 171 => 214 | 0 => 0 | 53 => 104 | 37 => 27 | 5 => 5 | 173 => 216 | 212 => 234 | 51 => 211 | 20 => 20 | 213 => 235 | 46 => 155 | 232 => 263 | 233 => 264 | n => n, fun | 17 => 1 | 18 => 2 | 19 => 3 | n => n⟩
theorem Tryz.laysM171 : Go.Proofs.LaysM.n171 Tryz.prog Tryz.laysM171_ren := {
 mixed := YO
 f129 := Tryz.func157.trans YN
 f171 := Tryz.func128.trans YN
 f243 := Tryz.func168.trans YN
 f246 := Tryz.func126.trans YN
 f283 := Tryz.func160.trans YN
 f284 := Tryz.func161.trans YN
 f285 := Tryz.func162.trans YN
 f286 := Tryz.func163.trans YN
 f317 := Tryz.func182.trans YN
 f318 := Tryz.func183.trans YN
 f319 := Tryz.func184.trans YN
 f320 := Tryz.func185.trans YN
 f337 := Tryz.func200.trans YN
 f338 := Tryz.func201.trans YN
 t0 := Tryz.underlying0
 a0 := Tryz.isAgg0
 z0 := Tryz.sizeOf0
 v0 := Tryz.zeroValue0
 t2 := Tryz.underlying2
 a2 := Tryz.isAgg2
 z2 := Tryz.sizeOf2
 v2 := Tryz.zeroValue2
 t3 := Tryz.underlying3
 a3 := Tryz.isAgg3
 z3 := Tryz.sizeOf3
 v3 := Tryz.zeroValue3
 t4 := Tryz.underlying4
 a4 := Tryz.isAgg4
 z4 := Tryz.sizeOf4
 v4 := Tryz.zeroValue4
 t5 := Tryz.underlying5
 a5 := Tryz.isAgg5
 z5 := Tryz.sizeOf5
 v5 := Tryz.zeroValue5
 t9 := Tryz.underlying9
 a9 := Tryz.isAgg9
 z9 := Tryz.sizeOf9
 v9 := Tryz.zeroValue9
 t20 := Tryz.underlying20
 a20 := Tryz.isAgg20
 z20 := Tryz.sizeOf20
 v20 := Tryz.zeroValue20
 t37 := Tryz.underlying27
 a37 := Tryz.isAgg27
 z37 := Tryz.sizeOf27
 v37 := Tryz.zeroValue27
 t46 := Tryz.underlying155
 a46 := Tryz.isAgg155
 z46 := Tryz.sizeOf155
 v46 := Tryz.zeroValue155
 t51 := Tryz.underlying211
 a51 := Tryz.isAgg211
 z51 := Tryz.sizeOf211
 v51 := Tryz.zeroValue211
 t53 := Tryz.underlying104
 a53 := Tryz.isAgg104
 z53 := Tryz.sizeOf104
 v53 := Tryz.zeroValue104
 t171 := Tryz.underlying214
 a171 := Tryz.isAgg214
 z171 := Tryz.sizeOf214
 v171 := Tryz.zeroValue214
 t173 := Tryz.underlying216
 a173 := Tryz.isAgg216
 z173 := Tryz.sizeOf216
 v173 := Tryz.zeroValue216
 t212 := Tryz.underlying234
 a212 := Tryz.isAgg234
 z212 := Tryz.sizeOf234
 v212 := Tryz.zeroValue234
 t213 := Tryz.underlying235
 a213 := Tryz.isAgg235
 z213 := Tryz.sizeOf235
 t232 := Tryz.underlying263
 a232 := Tryz.isAgg263
 z232 := Tryz.sizeOf263
 v232 := Tryz.zeroValue263
 t233 := Tryz.underlying264
 a233 := Tryz.isAgg264
 z233 := Tryz.sizeOf264
 v233 := Tryz.zeroValue264
 g17 := YO
 g18 := YO
 g19 := YO
 i0 := YO
 i2 := YO
 i3 := YO
 i4 := YO
 i5 := YO
 i9 := YO
 i20 := YO
 i37 := YO
 i46 := YO
 i51 := YO
 i53 := YO
 i171 := YO
 i173 := YO
 i212 := YO
 i232 := YO
 i233 := YO
 m17 := YO
 m18 := YO
 m19 := YO }
open Go.RowKit Go.Sort Go.Lib in
theorem Tryz.strconv_Itoa (n : Int) (h0 : -9223372036854775808 <= n) (h1 : n <= 9223372036854775807) (w : World) (htab : Lib.TabIs Tryz.prog w "internal/strconv.uint64pow10" .u64 Lib.pow10Tab) :
 Calls Tryz.prog 128 #[.int .i64 n] w fun e w' => e = .returned (.string ⟨(Lib.itoa n).toArray⟩) /\ ∃ k os, w' = grow (w.drewN k) os := Any.strconv_Itoa Tryz.laysM171 n h0 h1 w htab
def Tryz.laysM173_ren : Go.Shelf.Ren := ⟨fun | 173 => 96 | 246 => 126 | 283 => 160 | 284 => 161 | 285 => 162 | 286 => 163 | 129 => 157 | 317 => 182 | 318 => 183 | 319 => 184 | 320 => 185 | 337 => 200 | 338 => 201 | n => n, fun | 2 => 2 | 3 => 3 | 9 => 9 | 4 => 4 | 171 => 214 | 0 => 0 | 53 => 104 | 37 => 27 | 5 => 5 | 173 => 216 | 212 => 234 | 51 => 211 | 20 => 20 | 213 => 235 | 46 => 155 | 232 => 263 | 233 => 264 | n => n, fun | 17 => 1 | 18 => 2 | 19 => 3 | n => n⟩
theorem Tryz.laysM173 : Go.Proofs.LaysM.n173 Tryz.prog Tryz.laysM173_ren := {
 mixed := YO
 f129 := Tryz.func157.trans YN
 f173 := Tryz.func96.trans YN
 f246 := Tryz.func126.trans YN
 f283 := Tryz.func160.trans YN
 f284 := Tryz.func161.trans YN
 f285 := Tryz.func162.trans YN
 f286 := Tryz.func163.trans YN
 f317 := Tryz.func182.trans YN
 f318 := Tryz.func183.trans YN
 f319 := Tryz.func184.trans YN
 f320 := Tryz.func185.trans YN
 f337 := Tryz.func200.trans YN
 f338 := Tryz.func201.trans YN
 t0 := Tryz.underlying0
 a0 := Tryz.isAgg0
 z0 := Tryz.sizeOf0
 v0 := Tryz.zeroValue0
 t2 := Tryz.underlying2
 a2 := Tryz.isAgg2
 z2 := Tryz.sizeOf2
 v2 := Tryz.zeroValue2
 t3 := Tryz.underlying3
 a3 := Tryz.isAgg3
 z3 := Tryz.sizeOf3
 v3 := Tryz.zeroValue3
 t4 := Tryz.underlying4
 a4 := Tryz.isAgg4
 z4 := Tryz.sizeOf4
 v4 := Tryz.zeroValue4
 t5 := Tryz.underlying5
 a5 := Tryz.isAgg5
 z5 := Tryz.sizeOf5
 v5 := Tryz.zeroValue5
 t9 := Tryz.underlying9
 a9 := Tryz.isAgg9
 z9 := Tryz.sizeOf9
 v9 := Tryz.zeroValue9
 t20 := Tryz.underlying20
 a20 := Tryz.isAgg20
 z20 := Tryz.sizeOf20
 v20 := Tryz.zeroValue20
 t37 := Tryz.underlying27
 a37 := Tryz.isAgg27
 z37 := Tryz.sizeOf27
 v37 := Tryz.zeroValue27
 t46 := Tryz.underlying155
 a46 := Tryz.isAgg155
 z46 := Tryz.sizeOf155
 v46 := Tryz.zeroValue155
 t51 := Tryz.underlying211
 a51 := Tryz.isAgg211
 z51 := Tryz.sizeOf211
 v51 := Tryz.zeroValue211
 t53 := Tryz.underlying104
 a53 := Tryz.isAgg104
 z53 := Tryz.sizeOf104
 v53 := Tryz.zeroValue104
 t171 := Tryz.underlying214
 a171 := Tryz.isAgg214
 z171 := Tryz.sizeOf214
 v171 := Tryz.zeroValue214
 t173 := Tryz.underlying216
 a173 := Tryz.isAgg216
 z173 := Tryz.sizeOf216
 v173 := Tryz.zeroValue216
 t212 := Tryz.underlying234
 a212 := Tryz.isAgg234
 z212 := Tryz.sizeOf234
 v212 := Tryz.zeroValue234
 t213 := Tryz.underlying235
 a213 := Tryz.isAgg235
 z213 := Tryz.sizeOf235
 t232 := Tryz.underlying263
 a232 := Tryz.isAgg263
 z232 := Tryz.sizeOf263
 v232 := Tryz.zeroValue263
 t233 := Tryz.underlying264
 a233 := Tryz.isAgg264
 z233 := Tryz.sizeOf264
 v233 := Tryz.zeroValue264
 g17 := YO
 g18 := YO
 g19 := YO
 i0 := YO
 i2 := YO
 i3 := YO
 i4 := YO
 i5 := YO
 i9 := YO
 i20 := YO
 i37 := YO
 i46 := YO
 i51 := YO
 i53 := YO
 i171 := YO
 i173 := YO
 i212 := YO
 i232 := YO
 i233 := YO
 m17 := YO
 m18 := YO
 m19 := YO }
open Go.RowKit Go.Sort Go.Lib in
theorem Tryz.strconv_FormatInt_10 (n : Int) (h0 : -9223372036854775808 <= n) (h1 : n <= 9223372036854775807) (w : World) (htab : Lib.TabIs Tryz.prog w "internal/strconv.uint64pow10" .u64 Lib.pow10Tab) :
 Calls Tryz.prog 96 #[.int .i64 n, .int .i64 10] w fun e w' => e = .returned (.string ⟨(Lib.itoa n).toArray⟩) /\ ∃ k os, w' = grow (w.drewN k) os := Any.strconv_FormatInt_10 Tryz.laysM173 n h0 h1 w htab
def Tryz.laysC172_ren : Go.Shelf.Ren := ⟨fun | 172 => 212 | 244 => 224 | 245 => 191 | 247 => 190 | 279 => 204 | 280 => 205 | 281 => 206 | 282 => 207 | 287 => 203 | 316 => 220 | 171 => 128 | 205 => 221 | 321 => 218 | 322 => 219 | 243 => 168 | 246 => 126 | 283 => 160 | 284 => 161 | 285 => 162 | 286 => 163 | 129 => 157 | 317 => 182 | 318 => 183 | 319 => 184 | 320 => 185 | 337 => 200 | 338 => 201 | n => n, fun | 9 => 9 | 3 => 3 | 75 => 187 | 76 => 188 | 4 => 4 | 5 => 5 | 167 => 253 | 37 => 27 | 0 => 0 | 85 => 220 | 2 => 2 | 168 => 256 | 53 => 104 | 175 => 254 | 46 => 155 | 210 => 269 | 127 => 219 | 145 => 277 | 143 => 275 | 21 => 21 | 171 => 214 | 173 => 216 | 212 => 234 | 51 => 211 | 20 => 20 | 213 => 235 | 232 => 263 | 233 => 264 | 80 => 190 | n => n, fun | 15 => 4 | 16 => 5 | 17 => 1 | 18 => 2 | 19 => 3 | n => n⟩
theorem Tryz.laysC172 : Go.Proofs.LaysC.n172 Tryz.prog Tryz.laysC172_ren := {
 mixed := YO
 f129 := Tryz.func157.trans YN
 f171 := Tryz.func128.trans YN
 f172 := Tryz.func212.trans YN
 f205 := Tryz.func221.trans YN
 f243 := Tryz.func168.trans YN
 f244 := Tryz.func224.trans YN
 f245 := Tryz.func191.trans YN
 f246 := Tryz.func126.trans YN
 f247 := Tryz.func190.trans YN
 f279 := Tryz.func204.trans YN
 f280 := Tryz.func205.trans YN
 f281 := Tryz.func206.trans YN
 f282 := Tryz.func207.trans YN
 f283 := Tryz.func160.trans YN
 f284 := Tryz.func161.trans YN
 f285 := Tryz.func162.trans YN
 f286 := Tryz.func163.trans YN
 f287 := Tryz.func203.trans YN
 f316 := Tryz.func220.trans YN
 f317 := Tryz.func182.trans YN
 f318 := Tryz.func183.trans YN
 f319 := Tryz.func184.trans YN
 f320 := Tryz.func185.trans YN
 f321 := Tryz.func218.trans YN
 f322 := Tryz.func219.trans YN
 f337 := Tryz.func200.trans YN
 f338 := Tryz.func201.trans YN
 t0 := Tryz.underlying0
 a0 := Tryz.isAgg0
 z0 := Tryz.sizeOf0
 v0 := Tryz.zeroValue0
 t2 := Tryz.underlying2
 a2 := Tryz.isAgg2
 z2 := Tryz.sizeOf2
 v2 := Tryz.zeroValue2
 t3 := Tryz.underlying3
 a3 := Tryz.isAgg3
 z3 := Tryz.sizeOf3
 v3 := Tryz.zeroValue3
 t4 := Tryz.underlying4
 a4 := Tryz.isAgg4
 z4 := Tryz.sizeOf4
 v4 := Tryz.zeroValue4
 t5 := Tryz.underlying5
 a5 := Tryz.isAgg5
 z5 := Tryz.sizeOf5
 v5 := Tryz.zeroValue5
 t9 := Tryz.underlying9
 a9 := Tryz.isAgg9
 z9 := Tryz.sizeOf9
 v9 := Tryz.zeroValue9
 t20 := Tryz.underlying20
 a20 := Tryz.isAgg20
 z20 := Tryz.sizeOf20
 v20 := Tryz.zeroValue20
 t21 := Tryz.underlying21
 a21 := Tryz.isAgg21
 z21 := Tryz.sizeOf21
 v21 := Tryz.zeroValue21
 t37 := Tryz.underlying27
 a37 := Tryz.isAgg27
 z37 := Tryz.sizeOf27
 v37 := Tryz.zeroValue27
 t46 := Tryz.underlying155
 a46 := Tryz.isAgg155
 z46 := Tryz.sizeOf155
 v46 := Tryz.zeroValue155
 t51 := Tryz.underlying211
 a51 := Tryz.isAgg211
 z51 := Tryz.sizeOf211
 v51 := Tryz.zeroValue211
 t53 := Tryz.underlying104
 a53 := Tryz.isAgg104
 z53 := Tryz.sizeOf104
 v53 := Tryz.zeroValue104
 t75 := Tryz.underlying187
 a75 := Tryz.isAgg187
 z75 := Tryz.sizeOf187
 v75 := Tryz.zeroValue187
 t76 := Tryz.underlying188
 a76 := Tryz.isAgg188
 z76 := Tryz.sizeOf188
 v76 := Tryz.zeroValue188
 t85 := Tryz.underlying220
 a85 := Tryz.isAgg220
 z85 := Tryz.sizeOf220
 v85 := Tryz.zeroValue220
 t127 := Tryz.underlying219
 a127 := Tryz.isAgg219
 z127 := Tryz.sizeOf219
 v127 := Tryz.zeroValue219
 t143 := Tryz.underlying275
 a143 := Tryz.isAgg275
 z143 := Tryz.sizeOf275
 v143 := Tryz.zeroValue275
 t145 := Tryz.underlying277
 a145 := Tryz.isAgg277
 z145 := Tryz.sizeOf277
 v145 := Tryz.zeroValue277
 t167 := Tryz.underlying253
 a167 := Tryz.isAgg253
 z167 := Tryz.sizeOf253
 v167 := Tryz.zeroValue253
 t168 := Tryz.underlying256
 a168 := Tryz.isAgg256
 z168 := Tryz.sizeOf256
 v168 := Tryz.zeroValue256
 t171 := Tryz.underlying214
 a171 := Tryz.isAgg214
 z171 := Tryz.sizeOf214
 v171 := Tryz.zeroValue214
 t173 := Tryz.underlying216
 a173 := Tryz.isAgg216
 z173 := Tryz.sizeOf216
 v173 := Tryz.zeroValue216
 t175 := Tryz.underlying254
 a175 := Tryz.isAgg254
 z175 := Tryz.sizeOf254
 v175 := Tryz.zeroValue254
 t210 := Tryz.underlying269
 a210 := Tryz.isAgg269
 z210 := Tryz.sizeOf269
 v210 := Tryz.zeroValue269
 t212 := Tryz.underlying234
 a212 := Tryz.isAgg234
 z212 := Tryz.sizeOf234
 v212 := Tryz.zeroValue234
 t213 := Tryz.underlying235
 a213 := Tryz.isAgg235
 z213 := Tryz.sizeOf235
 t232 := Tryz.underlying263
 a232 := Tryz.isAgg263
 z232 := Tryz.sizeOf263
 v232 := Tryz.zeroValue263
 t233 := Tryz.underlying264
 a233 := Tryz.isAgg264
 z233 := Tryz.sizeOf264
 v233 := Tryz.zeroValue264
 g15 := YO
 g16 := YO
 g17 := YO
 g18 := YO
 g19 := YO
 t80 := Tryz.underlying190
 a80 := Tryz.isAgg190
 z80 := Tryz.sizeOf190
 v80 := Tryz.zeroValue190
 i0 := YO
 i2 := YO
 i3 := YO
 i4 := YO
 i5 := YO
 i9 := YO
 i20 := YO
 i21 := YO
 i37 := YO
 i46 := YO
 i51 := YO
 i53 := YO
 i75 := YO
 i76 := YO
 i80 := YO
 i85 := YO
 i127 := YO
 i143 := YO
 i145 := YO
 i167 := YO
 i168 := YO
 i171 := YO
 i173 := YO
 i175 := YO
 i210 := YO
 i212 := YO
 i232 := YO
 i233 := YO
 m15 := YO
 m16 := YO
 m17 := YO
 m18 := YO
 m19 := YO
 c0 := YO
 c2 := YO
 c3 := YO
 c4 := YO
 c5 := YO
 c9 := YO
 c20 := YO
 c21 := YO
 c37 := YO
 c46 := YO
 c51 := YO
 c53 := YO
 c75 := YO
 c76 := YO
 c80 := YO
 c85 := YO
 c127 := YO
 c143 := YO
 c145 := YO
 c167 := YO
 c168 := YO
 c171 := YO
 c173 := YO
 c175 := YO
 c210 := YO
 c212 := YO
 c213 := YO
 c232 := YO
 c233 := YO }
open Go.RowKit in
theorem Tryz.strconv_Atoi_ok (s : ByteArray) (hmax : s.size <= 9223372036854775806) (v : Int) (h : Lib.atoiAll s.data.toList = .ok v) (w : World) :
 Calls Tryz.prog 212 #[.string s] w fun e w' => e = .returned (.tuple #[.int .i64 v, .nilIface]) /\ (w' = w ∨ ∃ t, w' = Lib.bytesWorld w 5 t) := Any.strconv_Atoi_ok Tryz.laysC172 s hmax v h w
open Go.RowKit in
theorem Tryz.strconv_Atoi_syntax (s : ByteArray) (hlim : s.size <= 281474976710656) (h : Lib.atoiAll s.data.toList = Lib.atoiAll []) (ev : Value) (w : World) (hv : w.cell? ⟨4, 0, none⟩ = some ev) (hev : ev = .nilIface ∨ ∃ te pe, ev = .iface te pe) :
 Calls Tryz.prog 212 #[.string s] w fun e w' => ∃ N, e = .returned (.tuple #[.int .i64 (0), .iface 256 (.pointer (some ⟨N, 0, none⟩))]) /\ w.heap.size <= N /\ w'.heap[N]? = some (.cells #[.string ⟨#[65, 116, 111, 105]⟩, .string s, ev] 269 (0, 0)) /\ Below w.heap.size w w' := Any.strconv_Atoi_syntax Tryz.laysC172 s hlim h ev w hv hev
open Go.RowKit in
theorem Tryz.strconv_Atoi_range (s : ByteArray) (hlim : s.size <= 281474976710656) (h : Lib.atoiAll s.data.toList = .range) (ev : Value) (w : World) (hv : w.cell? ⟨5, 0, none⟩ = some ev) (hev : ev = .nilIface ∨ ∃ te pe, ev = .iface te pe) :
 Calls Tryz.prog 212 #[.string s] w fun e w' => ∃ N, e = .returned (.tuple #[.int .i64 (Lib.atoiSat s.data.toList), .iface 256 (.pointer (some ⟨N, 0, none⟩))]) /\ w.heap.size <= N /\ w'.heap[N]? = some (.cells #[.string ⟨#[65, 116, 111, 105]⟩, .string s, ev] 269 (0, 0)) /\ Below w.heap.size w w' := Any.strconv_Atoi_range Tryz.laysC172 s hlim h ev w hv hev
def Tryz.laysC174_ren : Go.Shelf.Ren := ⟨fun | 174 => 172 | 247 => 190 | 245 => 191 | 287 => 203 | 279 => 204 | 280 => 205 | 281 => 206 | 282 => 207 | 321 => 218 | 322 => 219 | 316 => 220 | 171 => 128 | 205 => 221 | 243 => 168 | 246 => 126 | 283 => 160 | 284 => 161 | 285 => 162 | 286 => 163 | 129 => 157 | 317 => 182 | 318 => 183 | 319 => 184 | 320 => 185 | 337 => 200 | 338 => 201 | n => n, fun | 9 => 9 | 3 => 3 | 2 => 2 | 75 => 187 | 85 => 220 | 4 => 4 | 167 => 253 | 5 => 5 | 53 => 104 | 175 => 254 | 46 => 155 | 168 => 256 | 37 => 27 | 0 => 0 | 210 => 269 | 21 => 21 | 127 => 219 | 145 => 277 | 143 => 275 | 171 => 214 | 173 => 216 | 212 => 234 | 51 => 211 | 20 => 20 | 213 => 235 | 232 => 263 | 233 => 264 | 80 => 190 | n => n, fun | 15 => 4 | 16 => 5 | 17 => 1 | 18 => 2 | 19 => 3 | n => n⟩
theorem Tryz.laysC174 : Go.Proofs.LaysC.n174 Tryz.prog Tryz.laysC174_ren := {
 mixed := YO
 f129 := Tryz.func157.trans YN
 f171 := Tryz.func128.trans YN
 f174 := Tryz.func172.trans YN
 f205 := Tryz.func221.trans YN
 f243 := Tryz.func168.trans YN
 f245 := Tryz.func191.trans YN
 f246 := Tryz.func126.trans YN
 f247 := Tryz.func190.trans YN
 f279 := Tryz.func204.trans YN
 f280 := Tryz.func205.trans YN
 f281 := Tryz.func206.trans YN
 f282 := Tryz.func207.trans YN
 f283 := Tryz.func160.trans YN
 f284 := Tryz.func161.trans YN
 f285 := Tryz.func162.trans YN
 f286 := Tryz.func163.trans YN
 f287 := Tryz.func203.trans YN
 f316 := Tryz.func220.trans YN
 f317 := Tryz.func182.trans YN
 f318 := Tryz.func183.trans YN
 f319 := Tryz.func184.trans YN
 f320 := Tryz.func185.trans YN
 f321 := Tryz.func218.trans YN
 f322 := Tryz.func219.trans YN
 f337 := Tryz.func200.trans YN
 f338 := Tryz.func201.trans YN
 t0 := Tryz.underlying0
 a0 := Tryz.isAgg0
 z0 := Tryz.sizeOf0
 v0 := Tryz.zeroValue0
 t2 := Tryz.underlying2
 a2 := Tryz.isAgg2
 z2 := Tryz.sizeOf2
 v2 := Tryz.zeroValue2
 t3 := Tryz.underlying3
 a3 := Tryz.isAgg3
 z3 := Tryz.sizeOf3
 v3 := Tryz.zeroValue3
 t4 := Tryz.underlying4
 a4 := Tryz.isAgg4
 z4 := Tryz.sizeOf4
 v4 := Tryz.zeroValue4
 t5 := Tryz.underlying5
 a5 := Tryz.isAgg5
 z5 := Tryz.sizeOf5
 v5 := Tryz.zeroValue5
 t9 := Tryz.underlying9
 a9 := Tryz.isAgg9
 z9 := Tryz.sizeOf9
 v9 := Tryz.zeroValue9
 t20 := Tryz.underlying20
 a20 := Tryz.isAgg20
 z20 := Tryz.sizeOf20
 v20 := Tryz.zeroValue20
 t21 := Tryz.underlying21
 a21 := Tryz.isAgg21
 z21 := Tryz.sizeOf21
 v21 := Tryz.zeroValue21
 t37 := Tryz.underlying27
 a37 := Tryz.isAgg27
 z37 := Tryz.sizeOf27
 v37 := Tryz.zeroValue27
 t46 := Tryz.underlying155
 a46 := Tryz.isAgg155
 z46 := Tryz.sizeOf155
 v46 := Tryz.zeroValue155
 t51 := Tryz.underlying211
 a51 := Tryz.isAgg211
 z51 := Tryz.sizeOf211
 v51 := Tryz.zeroValue211
 t53 := Tryz.underlying104
 a53 := Tryz.isAgg104
 z53 := Tryz.sizeOf104
 v53 := Tryz.zeroValue104
 t75 := Tryz.underlying187
 a75 := Tryz.isAgg187
 z75 := Tryz.sizeOf187
 v75 := Tryz.zeroValue187
 t85 := Tryz.underlying220
 a85 := Tryz.isAgg220
 z85 := Tryz.sizeOf220
 v85 := Tryz.zeroValue220
 t127 := Tryz.underlying219
 a127 := Tryz.isAgg219
 z127 := Tryz.sizeOf219
 v127 := Tryz.zeroValue219
 t143 := Tryz.underlying275
 a143 := Tryz.isAgg275
 z143 := Tryz.sizeOf275
 v143 := Tryz.zeroValue275
 t145 := Tryz.underlying277
 a145 := Tryz.isAgg277
 z145 := Tryz.sizeOf277
 v145 := Tryz.zeroValue277
 t167 := Tryz.underlying253
 a167 := Tryz.isAgg253
 z167 := Tryz.sizeOf253
 v167 := Tryz.zeroValue253
 t168 := Tryz.underlying256
 a168 := Tryz.isAgg256
 z168 := Tryz.sizeOf256
 v168 := Tryz.zeroValue256
 t171 := Tryz.underlying214
 a171 := Tryz.isAgg214
 z171 := Tryz.sizeOf214
 v171 := Tryz.zeroValue214
 t173 := Tryz.underlying216
 a173 := Tryz.isAgg216
 z173 := Tryz.sizeOf216
 v173 := Tryz.zeroValue216
 t175 := Tryz.underlying254
 a175 := Tryz.isAgg254
 z175 := Tryz.sizeOf254
 v175 := Tryz.zeroValue254
 t210 := Tryz.underlying269
 a210 := Tryz.isAgg269
 z210 := Tryz.sizeOf269
 v210 := Tryz.zeroValue269
 t212 := Tryz.underlying234
 a212 := Tryz.isAgg234
 z212 := Tryz.sizeOf234
 v212 := Tryz.zeroValue234
 t213 := Tryz.underlying235
 a213 := Tryz.isAgg235
 z213 := Tryz.sizeOf235
 t232 := Tryz.underlying263
 a232 := Tryz.isAgg263
 z232 := Tryz.sizeOf263
 v232 := Tryz.zeroValue263
 t233 := Tryz.underlying264
 a233 := Tryz.isAgg264
 z233 := Tryz.sizeOf264
 v233 := Tryz.zeroValue264
 g15 := YO
 g16 := YO
 g17 := YO
 g18 := YO
 g19 := YO
 t80 := Tryz.underlying190
 a80 := Tryz.isAgg190
 z80 := Tryz.sizeOf190
 v80 := Tryz.zeroValue190
 i0 := YO
 i2 := YO
 i3 := YO
 i4 := YO
 i5 := YO
 i9 := YO
 i20 := YO
 i21 := YO
 i37 := YO
 i46 := YO
 i51 := YO
 i53 := YO
 i75 := YO
 i80 := YO
 i85 := YO
 i127 := YO
 i143 := YO
 i145 := YO
 i167 := YO
 i168 := YO
 i171 := YO
 i173 := YO
 i175 := YO
 i210 := YO
 i212 := YO
 i232 := YO
 i233 := YO
 m15 := YO
 m16 := YO
 m17 := YO
 m18 := YO
 m19 := YO
 c0 := YO
 c2 := YO
 c3 := YO
 c4 := YO
 c5 := YO
 c9 := YO
 c20 := YO
 c21 := YO
 c37 := YO
 c46 := YO
 c51 := YO
 c53 := YO
 c75 := YO
 c80 := YO
 c85 := YO
 c127 := YO
 c143 := YO
 c145 := YO
 c167 := YO
 c168 := YO
 c171 := YO
 c173 := YO
 c175 := YO
 c210 := YO
 c212 := YO
 c213 := YO
 c232 := YO
 c233 := YO }
open Go.RowKit in
theorem Tryz.strconv_ParseInt_10_at64_ok (s : ByteArray) (hmax : s.size <= 9223372036854775806) (v : Int) (h : Lib.parseIntB 64 s.data.toList = .ok v) (w : World) :
 Calls Tryz.prog 172 #[.string s, .int .i64 10, .int .i64 64] w fun e w' => e = .returned (.tuple #[.int .i64 v, .nilIface]) /\ (w' = w ∨ ∃ t, w' = Lib.bytesWorld w 5 t) := Any.strconv_ParseInt_10_at64_ok Tryz.laysC174 s hmax v h w
open Go.RowKit in
theorem Tryz.strconv_ParseInt_10_at64_syntax (s : ByteArray) (hlim : s.size <= 281474976710656) (h : Lib.parseIntB 64 s.data.toList = Lib.atoiAll []) (ev : Value) (w : World) (hv : w.cell? ⟨4, 0, none⟩ = some ev) (hev : ev = .nilIface ∨ ∃ te pe, ev = .iface te pe) :
 Calls Tryz.prog 172 #[.string s, .int .i64 10, .int .i64 64] w fun e w' => ∃ N, e = .returned (.tuple #[.int .i64 (0), .iface 256 (.pointer (some ⟨N, 0, none⟩))]) /\ w.heap.size <= N /\ w'.heap[N]? = some (.cells #[.string ⟨#[80, 97, 114, 115, 101, 73, 110, 116]⟩, .string s, ev] 269 (0, 0)) /\ Below w.heap.size w w' := Any.strconv_ParseInt_10_at64_syntax Tryz.laysC174 s hlim h ev w hv hev
open Go.RowKit in
theorem Tryz.strconv_ParseInt_10_at64_range (s : ByteArray) (hlim : s.size <= 281474976710656) (h : Lib.parseIntB 64 s.data.toList = .range) (ev : Value) (w : World) (hv : w.cell? ⟨5, 0, none⟩ = some ev) (hev : ev = .nilIface ∨ ∃ te pe, ev = .iface te pe) :
 Calls Tryz.prog 172 #[.string s, .int .i64 10, .int .i64 64] w fun e w' => ∃ N, e = .returned (.tuple #[.int .i64 (Lib.intSat 64 s.data.toList), .iface 256 (.pointer (some ⟨N, 0, none⟩))]) /\ w.heap.size <= N /\ w'.heap[N]? = some (.cells #[.string ⟨#[80, 97, 114, 115, 101, 73, 110, 116]⟩, .string s, ev] 269 (0, 0)) /\ Below w.heap.size w w' := Any.strconv_ParseInt_10_at64_range Tryz.laysC174 s hlim h ev w hv hev
def Tryz.lays219_ren : Go.Shelf.Ren := ⟨fun | 219 => 222 | 217 => 230 | 225 => 231 | 224 => 232 | 267 => 233 | 266 => 238 | 314 => 239 | n => n, fun | 9 => 9 | 3 => 3 | 4 => 4 | 5 => 5 | 46 => 155 | 146 => 283 | 51 => 211 | n => n, fun | 1 => 0 | n => n⟩
def Tryz.lays144_ren : Go.Shelf.Ren := ⟨fun | 144 => 235 | 143 => 216 | 219 => 222 | 217 => 230 | 225 => 231 | 224 => 232 | 267 => 233 | 266 => 238 | 314 => 239 | n => n, fun | 9 => 9 | 4 => 4 | 3 => 3 | 5 => 5 | 46 => 155 | 146 => 283 | 51 => 211 | n => n, fun | 1 => 0 | n => n⟩
theorem Tryz.lays144 : Go.Proofs.Lays.n144 Tryz.prog Tryz.lays144_ren := {
 mixed := YO
 f143 := Tryz.func216.trans YN
 f144 := Tryz.func235.trans YN
 f217 := Tryz.func230.trans YN
 f219 := Tryz.func222.trans YN
 f224 := Tryz.func232.trans YN
 f225 := Tryz.func231.trans YN
 f266 := Tryz.func238.trans YN
 f267 := Tryz.func233.trans YN
 f314 := Tryz.func239.trans YN
 t3 := Tryz.underlying3
 a3 := Tryz.isAgg3
 z3 := Tryz.sizeOf3
 v3 := Tryz.zeroValue3
 t4 := Tryz.underlying4
 a4 := Tryz.isAgg4
 z4 := Tryz.sizeOf4
 v4 := Tryz.zeroValue4
 t5 := Tryz.underlying5
 a5 := Tryz.isAgg5
 z5 := Tryz.sizeOf5
 v5 := Tryz.zeroValue5
 t9 := Tryz.underlying9
 a9 := Tryz.isAgg9
 z9 := Tryz.sizeOf9
 v9 := Tryz.zeroValue9
 t46 := Tryz.underlying155
 a46 := Tryz.isAgg155
 z46 := Tryz.sizeOf155
 v46 := Tryz.zeroValue155
 t51 := Tryz.underlying211
 a51 := Tryz.isAgg211
 z51 := Tryz.sizeOf211
 v51 := Tryz.zeroValue211
 t146 := Tryz.underlying283
 a146 := Tryz.isAgg283
 z146 := Tryz.sizeOf283
 v146 := Tryz.zeroValue283
 g1 := YO }
open Go.RowKit Go.Lib in
theorem Tryz.strings_Contains (s sub : ByteArray) (m : Int) (w : World) (hs : s.size < 4294967281) (hm : w.cell? ⟨0, 0, none⟩ = some (.int .i64 m)) :
 Calls Tryz.prog 235 #[.string s, .string sub] w fun e w' => e = .returned (.bool (Lib.contains s.data.toList sub.data.toList)) /\ w' = w := Any.strings_Contains Tryz.lays144 s sub m w hs hm
def Tryz.lays145_ren : Go.Shelf.Ren := ⟨fun | 145 => 193 | 220 => 208 | 219 => 222 | 217 => 230 | 225 => 231 | 224 => 232 | 267 => 233 | 266 => 238 | 314 => 239 | n => n, fun | 9 => 9 | 4 => 4 | 59 => 243 | 3 => 3 | 5 => 5 | 46 => 155 | 146 => 283 | 51 => 211 | n => n, fun | 1 => 0 | n => n⟩
theorem Tryz.lays145 : Go.Proofs.Lays.n145 Tryz.prog Tryz.lays145_ren := {
 mixed := YO
 f145 := Tryz.func193.trans YN
 f217 := Tryz.func230.trans YN
 f219 := Tryz.func222.trans YN
 f220 := Tryz.func208.trans YN
 f224 := Tryz.func232.trans YN
 f225 := Tryz.func231.trans YN
 f266 := Tryz.func238.trans YN
 f267 := Tryz.func233.trans YN
 f314 := Tryz.func239.trans YN
 t3 := Tryz.underlying3
 a3 := Tryz.isAgg3
 z3 := Tryz.sizeOf3
 v3 := Tryz.zeroValue3
 t4 := Tryz.underlying4
 a4 := Tryz.isAgg4
 z4 := Tryz.sizeOf4
 v4 := Tryz.zeroValue4
 t5 := Tryz.underlying5
 a5 := Tryz.isAgg5
 z5 := Tryz.sizeOf5
 v5 := Tryz.zeroValue5
 t9 := Tryz.underlying9
 a9 := Tryz.isAgg9
 z9 := Tryz.sizeOf9
 v9 := Tryz.zeroValue9
 t46 := Tryz.underlying155
 a46 := Tryz.isAgg155
 z46 := Tryz.sizeOf155
 v46 := Tryz.zeroValue155
 t51 := Tryz.underlying211
 a51 := Tryz.isAgg211
 z51 := Tryz.sizeOf211
 v51 := Tryz.zeroValue211
 t59 := Tryz.underlying243
 a59 := Tryz.isAgg243
 z59 := Tryz.sizeOf243
 v59 := Tryz.zeroValue243
 t146 := Tryz.underlying283
 a146 := Tryz.isAgg283
 z146 := Tryz.sizeOf283
 v146 := Tryz.zeroValue283
 g1 := YO }
open Go.RowKit Go.Lib in
theorem Tryz.strings_Cut (s sep : ByteArray) (m : Int) (w : World) (hs : s.size < 4294967281) (hm : w.cell? ⟨0, 0, none⟩ = some (.int .i64 m)) :
 Calls Tryz.prog 193 #[.string s, .string sep] w fun e w' => e = .returned (.tuple #[.string ⟨(Lib.cut s.data.toList sep.data.toList).1.toArray⟩, .string ⟨(Lib.cut s.data.toList sep.data.toList).2.1.toArray⟩, .bool (Lib.cut s.data.toList sep.data.toList).2.2]) /\ ∃ n, w' = w.drewN n := Any.strings_Cut Tryz.lays145 s sep m w hs hm
def Tryz.lays154_ren : Go.Shelf.Ren := ⟨fun | 154 => 202 | 138 => 215 | 165 => 129 | 143 => 216 | 166 => 130 | 197 => 217 | 169 => 131 | 195 => 227 | 218 => 228 | 240 => 169 | 241 => 170 | 219 => 222 | 260 => 229 | 276 => 187 | 277 => 188 | 217 => 230 | 225 => 231 | 224 => 232 | 267 => 233 | 266 => 238 | 314 => 239 | n => n, fun | 9 => 9 | 3 => 3 | 4 => 4 | 72 => 184 | 0 => 0 | 76 => 188 | 105 => 265 | 21 => 21 | 5 => 5 | 70 => 182 | 20 => 20 | 37 => 27 | 75 => 187 | 127 => 219 | 164 => 237 | 46 => 155 | 119 => 279 | 139 => 282 | 138 => 281 | 146 => 283 | 51 => 211 | 80 => 190 | n => n, fun | 1 => 0 | 3 => 6 | 4 => 7 | n => n⟩
def Tryz.lays155_ren : Go.Shelf.Ren := ⟨fun | 155 => 186 | 154 => 202 | 138 => 215 | 165 => 129 | 143 => 216 | 166 => 130 | 197 => 217 | 169 => 131 | 195 => 227 | 218 => 228 | 240 => 169 | 241 => 170 | 219 => 222 | 260 => 229 | 276 => 187 | 277 => 188 | 217 => 230 | 225 => 231 | 224 => 232 | 267 => 233 | 266 => 238 | 314 => 239 | n => n, fun | 9 => 9 | 3 => 3 | 4 => 4 | 72 => 184 | 0 => 0 | 76 => 188 | 105 => 265 | 21 => 21 | 5 => 5 | 70 => 182 | 20 => 20 | 37 => 27 | 75 => 187 | 127 => 219 | 164 => 237 | 46 => 155 | 119 => 279 | 139 => 282 | 138 => 281 | 146 => 283 | 51 => 211 | 80 => 190 | n => n, fun | 1 => 0 | 3 => 6 | 4 => 7 | n => n⟩
theorem Tryz.lays155 : Go.Proofs.Lays.n155 Tryz.prog Tryz.lays155_ren := {
 mixed := YO
 f138 := Tryz.func215.trans YN
 f143 := Tryz.func216.trans YN
 f154 := Tryz.func202.trans YN
 f155 := Tryz.func186.trans YN
 f165 := Tryz.func129.trans YN
 f166 := Tryz.func130.trans YN
 f169 := Tryz.func131.trans YN
 f195 := Tryz.func227.trans YN
 f197 := Tryz.func217.trans YN
 f217 := Tryz.func230.trans YN
 f218 := Tryz.func228.trans YN
 f219 := Tryz.func222.trans YN
 f224 := Tryz.func232.trans YN
 f225 := Tryz.func231.trans YN
 f240 := Tryz.func169.trans YN
 f241 := Tryz.func170.trans YN
 f260 := Tryz.func229.trans YN
 f266 := Tryz.func238.trans YN
 f267 := Tryz.func233.trans YN
 f276 := Tryz.func187.trans YN
 f277 := Tryz.func188.trans YN
 f314 := Tryz.func239.trans YN
 t0 := Tryz.underlying0
 a0 := Tryz.isAgg0
 z0 := Tryz.sizeOf0
 v0 := Tryz.zeroValue0
 t3 := Tryz.underlying3
 a3 := Tryz.isAgg3
 z3 := Tryz.sizeOf3
 v3 := Tryz.zeroValue3
 t4 := Tryz.underlying4
 a4 := Tryz.isAgg4
 z4 := Tryz.sizeOf4
 v4 := Tryz.zeroValue4
 t5 := Tryz.underlying5
 a5 := Tryz.isAgg5
 z5 := Tryz.sizeOf5
 v5 := Tryz.zeroValue5
 t9 := Tryz.underlying9
 a9 := Tryz.isAgg9
 z9 := Tryz.sizeOf9
 v9 := Tryz.zeroValue9
 t20 := Tryz.underlying20
 a20 := Tryz.isAgg20
 z20 := Tryz.sizeOf20
 v20 := Tryz.zeroValue20
 t21 := Tryz.underlying21
 a21 := Tryz.isAgg21
 z21 := Tryz.sizeOf21
 v21 := Tryz.zeroValue21
 t37 := Tryz.underlying27
 a37 := Tryz.isAgg27
 z37 := Tryz.sizeOf27
 v37 := Tryz.zeroValue27
 t46 := Tryz.underlying155
 a46 := Tryz.isAgg155
 z46 := Tryz.sizeOf155
 v46 := Tryz.zeroValue155
 t51 := Tryz.underlying211
 a51 := Tryz.isAgg211
 z51 := Tryz.sizeOf211
 v51 := Tryz.zeroValue211
 t70 := Tryz.underlying182
 a70 := Tryz.isAgg182
 z70 := Tryz.sizeOf182
 v70 := Tryz.zeroValue182
 t72 := Tryz.underlying184
 a72 := Tryz.isAgg184
 z72 := Tryz.sizeOf184
 v72 := Tryz.zeroValue184
 t75 := Tryz.underlying187
 a75 := Tryz.isAgg187
 z75 := Tryz.sizeOf187
 v75 := Tryz.zeroValue187
 t76 := Tryz.underlying188
 a76 := Tryz.isAgg188
 z76 := Tryz.sizeOf188
 v76 := Tryz.zeroValue188
 t105 := Tryz.underlying265
 a105 := Tryz.isAgg265
 z105 := Tryz.sizeOf265
 v105 := Tryz.zeroValue265
 t119 := Tryz.underlying279
 a119 := Tryz.isAgg279
 z119 := Tryz.sizeOf279
 t127 := Tryz.underlying219
 a127 := Tryz.isAgg219
 z127 := Tryz.sizeOf219
 v127 := Tryz.zeroValue219
 t138 := Tryz.underlying281
 a138 := Tryz.isAgg281
 z138 := Tryz.sizeOf281
 v138 := Tryz.zeroValue281
 t139 := Tryz.underlying282
 a139 := Tryz.isAgg282
 z139 := Tryz.sizeOf282
 v139 := Tryz.zeroValue282
 t146 := Tryz.underlying283
 a146 := Tryz.isAgg283
 z146 := Tryz.sizeOf283
 v146 := Tryz.zeroValue283
 t164 := Tryz.underlying237
 a164 := Tryz.isAgg237
 z164 := Tryz.sizeOf237
 v164 := Tryz.zeroValue237
 g1 := YO
 g3 := YO
 g4 := YO }
theorem Tryz.Builder_Extra_155 : Builder.Extra Tryz.prog Tryz.lays155_ren := {
 sizeBuilder := YO
 liesBuilder := YO
 t5 := Tryz.underlying5
 a5 := Tryz.isAgg5
 z5 := Tryz.sizeOf5
 v5 := Tryz.zeroValue5
 infoByte := YO
 cellsByte := YO
 sizeByte := YO
 neB5 := by decide }
open Go.RowKit Go.Lib in
theorem Tryz.strings_ReplaceAll (s old new : ByteArray) (m : Int) (w : World) (hs : s.size < 4294967281) (hm : w.cell? ⟨0, 0, none⟩ = some (.int .i64 m)) (h1 : 1 <= old.size) (hlen : s.size + Lib.countB s old * new.size <= 140737488355328) :
 Calls Tryz.prog 186 #[.string s, .string old, .string new] w fun e w' =>
  e = .returned (.string ⟨(Lib.replaceAll s.data.toList old.data.toList new.data.toList).toArray⟩) /\ Below w.heap.size w w' := Any.strings_ReplaceAll Tryz.lays155 Tryz.Builder_Extra_155 s old new m w hs hm h1 hlen
end Go.Proofs
