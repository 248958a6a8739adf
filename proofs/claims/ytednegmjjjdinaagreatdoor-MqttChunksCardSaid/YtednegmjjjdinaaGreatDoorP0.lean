/- Texts of this claim's author, joined and pruned by a program of his (pack.py): Shelf. -/
import Derived.Shelf.Strings.Builder1
import Derived.Shelf.Strings.Builder2
import Derived.Shelf.Strings.Trim
import Derived.Shelf.Small.Utf8
import Derived.Shelf.Small.Strs
import Derived.Shelf.Strings.BuilderF
import Derived.Shelf.Strings.BuilderK
import Derived.Shelf.Strings.BuilderRune
import Derived.Shelf.Utf8.RuneCount
import Derived.Shelf.Strings.Builder2Cap
import Derived.Shelf.Strconv.Atoi
import Derived.Shelf.Strconv.Itoa0
import Derived.Shelf.Strconv.Itoa1
import Derived.Shelf.Strconv.Itoa2
import Derived.Shelf.Strconv.Itoa3
import Derived.Shelf.Strconv.AtoiErrFast
import Derived.Shelf.Strconv.ParseIntEmpty
import Derived.Shelf.Strconv.AtoiFail
import Derived.Shelf.Strconv.Clone
import Derived.Shelf.Strconv.SyntaxError
import Derived.Shelf.LaysC
import Derived.Shelf.Strconv.ToError
import Derived.Shelf.Strconv.Lower
import Derived.Shelf.Strconv.ParseUint10
import Derived.Shelf.Strconv.ParseUint10Empty
import Derived.Shelf.Strconv.ParseUint10Any
import Derived.Shelf.Strconv.ParseInt10
import Derived.Shelf.Strconv.AtoiLong
import Derived.Shelf.Strconv.AtoiInnerAll
import Derived.Shelf.Strconv.RangeError
import Derived.Shelf.Strconv.ToErrorRange
import Derived.Shelf.Strconv.AtoiAll
import Derived.Shelf.Strconv.ErrVarAll
import Derived.Shelf.Strings.Search2
import Derived.Shelf.Strings.Search3
import Derived.Shelf.Strings.Cut
import Derived.Shelf.Strings.Count
import Derived.Shelf.Strings.Shaped
import Derived.Shelf.Strings.Prefix
import Derived.Shelf.Strings.Split
import Derived.Shelf.Strings.SplitShaped
import Derived.Shelf.Unicode.Decode
import Derived.Shelf.Strings.Runes
import Derived.Shelf.Strings.RuneCount
import Derived.Shelf.Strings.IndexAny
import Derived.Shelf.Strings.AsciiSet
import Derived.Shelf.Strings.IndexAnyAll
import Derived.Shelf.Strings.Explode
import Derived.Shelf.Unicode.DecodeSlow
import Derived.Shelf.Unicode.DecodeAny
import Derived.Shelf.Unicode.DecodeLast
import Derived.Shelf.Strings.MapAny
import Derived.Shelf.Strings.BuilderCap
import Derived.Shelf.Strings.MapGrows
import Derived.Ground.Names2Prog
import Derived.Shelf.Slices.Clone
import Derived.Ground.SlgnProg
import Derived.Shelf.SlicesE.Clone
import Derived.Test.YtednegmjjjdinaaGreatDoorProg
import Derived.Shelf.Strings.SlTrimAscii
namespace Go.Proofs
open Go.Shelf
def Tryz.lays160_ren : Go.Shelf.Ren := ⟨fun | 160 => 161 | 232 => 226 | 231 => 225 | 227 => 227 | 234 => 229 | 233 => 228 | 236 => 231 | 235 => 230 | 228 => 244 | 271 => 275 | 151 => 274 | 197 => 234 | 120 => 299 | 152 => 171 | 260 => 276 | 137 => 159 | 119 => 240 | 224 => 241 | 225 => 242 | 217 => 224 | 266 => 273 | n => n, fun | 9 => 9 | 4 => 4 | 3 => 3 | 5 => 5 | 117 => 243 | 116 => 242 | 0 => 0 | 124 => 246 | 21 => 21 | 105 => 248 | 46 => 141 | 119 => 313 | 139 => 316 | 138 => 315 | n => n, fun | 3 => 5 | 4 => 6 | n => n⟩
theorem Tryz.lays160 : Go.Proofs.Lays.n160 Tryz.prog Tryz.lays160_ren := {
 mixed := by kernel_rfl
 f119 := Tryz.func240.trans (congrArg some (by kernel_rfl))
 f120 := Tryz.func299.trans (congrArg some (by kernel_rfl))
 f137 := Tryz.func159.trans (congrArg some (by kernel_rfl))
 f151 := Tryz.func274.trans (congrArg some (by kernel_rfl))
 f152 := Tryz.func171.trans (congrArg some (by kernel_rfl))
 f160 := Tryz.func161.trans (congrArg some (by kernel_rfl))
 f197 := Tryz.func234.trans (congrArg some (by kernel_rfl))
 f217 := Tryz.func224.trans (congrArg some (by kernel_rfl))
 f224 := Tryz.func241.trans (congrArg some (by kernel_rfl))
 f225 := Tryz.func242.trans (congrArg some (by kernel_rfl))
 f227 := Tryz.func227.trans (congrArg some (by kernel_rfl))
 f228 := Tryz.func244.trans (congrArg some (by kernel_rfl))
 f231 := Tryz.func225.trans (congrArg some (by kernel_rfl))
 f232 := Tryz.func226.trans (congrArg some (by kernel_rfl))
 f233 := Tryz.func228.trans (congrArg some (by kernel_rfl))
 f234 := Tryz.func229.trans (congrArg some (by kernel_rfl))
 f235 := Tryz.func230.trans (congrArg some (by kernel_rfl))
 f236 := Tryz.func231.trans (congrArg some (by kernel_rfl))
 f260 := Tryz.func276.trans (congrArg some (by kernel_rfl))
 f266 := Tryz.func273.trans (congrArg some (by kernel_rfl))
 f271 := Tryz.func275.trans (congrArg some (by kernel_rfl))
 t0 := Tryz.underlying0
 a0 := Tryz.isAgg0
 z0 := Tryz.sizeOf0
 v0 := Tryz.zeroValue0
 t3 := Tryz.underlying3
 a3 := Tryz.isAgg3
 z3 := Tryz.sizeOf3
 v3 := Tryz.zeroValue3
 t4 := Tryz.underlying4
 a4 := Tryz.isAgg4
 z4 := Tryz.sizeOf4
 v4 := Tryz.zeroValue4
 t5 := Tryz.underlying5
 a5 := Tryz.isAgg5
 z5 := Tryz.sizeOf5
 v5 := Tryz.zeroValue5
 t9 := Tryz.underlying9
 a9 := Tryz.isAgg9
 z9 := Tryz.sizeOf9
 v9 := Tryz.zeroValue9
 t21 := Tryz.underlying21
 a21 := Tryz.isAgg21
 z21 := Tryz.sizeOf21
 v21 := Tryz.zeroValue21
 t46 := Tryz.underlying141
 a46 := Tryz.isAgg141
 z46 := Tryz.sizeOf141
 v46 := Tryz.zeroValue141
 t105 := Tryz.underlying248
 a105 := Tryz.isAgg248
 z105 := Tryz.sizeOf248
 v105 := Tryz.zeroValue248
 t116 := Tryz.underlying242
 a116 := Tryz.isAgg242
 z116 := Tryz.sizeOf242
 t117 := Tryz.underlying243
 a117 := Tryz.isAgg243
 z117 := Tryz.sizeOf243
 v117 := Tryz.zeroValue243
 t119 := Tryz.underlying313
 a119 := Tryz.isAgg313
 z119 := Tryz.sizeOf313
 t124 := Tryz.underlying246
 a124 := Tryz.isAgg246
 z124 := Tryz.sizeOf246
 v124 := Tryz.zeroValue246
 t138 := Tryz.underlying315
 a138 := Tryz.isAgg315
 z138 := Tryz.sizeOf315
 v138 := Tryz.zeroValue315
 t139 := Tryz.underlying316
 a139 := Tryz.isAgg316
 z139 := Tryz.sizeOf316
 v139 := Tryz.zeroValue316
 g3 := by kernel_rfl
 g4 := by kernel_rfl }
def Tryz.lays137_ren : Go.Shelf.Ren := ⟨fun | 137 => 159 | 217 => 224 | 266 => 273 | n => n, fun | 9 => 9 | 5 => 5 | 3 => 3 | n => n, fun | n => n⟩
theorem Tryz.lays137 : Go.Proofs.Lays.n137 Tryz.prog Tryz.lays137_ren := {
 mixed := by kernel_rfl
 f137 := Tryz.func159.trans (congrArg some (by kernel_rfl))
 f217 := Tryz.func224.trans (congrArg some (by kernel_rfl))
 f266 := Tryz.func273.trans (congrArg some (by kernel_rfl))
 t3 := Tryz.underlying3
 a3 := Tryz.isAgg3
 z3 := Tryz.sizeOf3
 v3 := Tryz.zeroValue3
 t5 := Tryz.underlying5
 a5 := Tryz.isAgg5
 z5 := Tryz.sizeOf5
 v5 := Tryz.zeroValue5
 t9 := Tryz.underlying9
 a9 := Tryz.isAgg9
 z9 := Tryz.sizeOf9
 v9 := Tryz.zeroValue9 }
open Go.RowKit in
theorem Tryz.strings_IndexByte (s : ByteArray) (c : Int) (w : World) :
  Calls Tryz.prog 159 #[.string s, .int .u8 c] w fun e w' => e = .returned (.int .i64 (Lib.indexByte s.data.toList c.toNat.toUInt8)) ∧ w' = w := Any.strings_IndexByte Tryz.lays137 s c w
def Tryz.laysM171_ren : Go.Shelf.Ren := ⟨fun | 171 => 54 | 243 => 106 | 246 => 188 | 283 => 250 | 284 => 251 | 285 => 252 | 286 => 253 | 129 => 283 | 317 => 282 | 318 => 284 | 319 => 285 | 320 => 286 | 337 => 305 | 338 => 306 | n => n, fun | 3 => 3 | 9 => 9 | 2 => 2 | 4 => 4 | 171 => 263 | 0 => 0 | 53 => 162 | 37 => 67 | 5 => 5 | 173 => 266 | 212 => 301 | 51 => 215 | 20 => 20 | 213 => 302 | 46 => 141 | 232 => 334 | 233 => 335 | n => n, fun | 17 => 3 | 18 => 7 | 19 => 8 | n => n⟩
theorem Tryz.laysM171 : Go.Proofs.LaysM.n171 Tryz.prog Tryz.laysM171_ren := {
 mixed := by kernel_rfl
 f129 := Tryz.func283.trans (congrArg some (by kernel_rfl))
 f171 := Tryz.func54.trans (congrArg some (by kernel_rfl))
 f243 := Tryz.func106.trans (congrArg some (by kernel_rfl))
 f246 := Tryz.func188.trans (congrArg some (by kernel_rfl))
 f283 := Tryz.func250.trans (congrArg some (by kernel_rfl))
 f284 := Tryz.func251.trans (congrArg some (by kernel_rfl))
 f285 := Tryz.func252.trans (congrArg some (by kernel_rfl))
 f286 := Tryz.func253.trans (congrArg some (by kernel_rfl))
 f317 := Tryz.func282.trans (congrArg some (by kernel_rfl))
 f318 := Tryz.func284.trans (congrArg some (by kernel_rfl))
 f319 := Tryz.func285.trans (congrArg some (by kernel_rfl))
 f320 := Tryz.func286.trans (congrArg some (by kernel_rfl))
 f337 := Tryz.func305.trans (congrArg some (by kernel_rfl))
 f338 := Tryz.func306.trans (congrArg some (by kernel_rfl))
 t0 := Tryz.underlying0
 a0 := Tryz.isAgg0
 z0 := Tryz.sizeOf0
 v0 := Tryz.zeroValue0
 t2 := Tryz.underlying2
 a2 := Tryz.isAgg2
 z2 := Tryz.sizeOf2
 v2 := Tryz.zeroValue2
 t3 := Tryz.underlying3
 a3 := Tryz.isAgg3
 z3 := Tryz.sizeOf3
 v3 := Tryz.zeroValue3
 t4 := Tryz.underlying4
 a4 := Tryz.isAgg4
 z4 := Tryz.sizeOf4
 v4 := Tryz.zeroValue4
 t5 := Tryz.underlying5
 a5 := Tryz.isAgg5
 z5 := Tryz.sizeOf5
 v5 := Tryz.zeroValue5
 t9 := Tryz.underlying9
 a9 := Tryz.isAgg9
 z9 := Tryz.sizeOf9
 v9 := Tryz.zeroValue9
 t20 := Tryz.underlying20
 a20 := Tryz.isAgg20
 z20 := Tryz.sizeOf20
 v20 := Tryz.zeroValue20
 t37 := Tryz.underlying67
 a37 := Tryz.isAgg67
 z37 := Tryz.sizeOf67
 v37 := Tryz.zeroValue67
 t46 := Tryz.underlying141
 a46 := Tryz.isAgg141
 z46 := Tryz.sizeOf141
 v46 := Tryz.zeroValue141
 t51 := Tryz.underlying215
 a51 := Tryz.isAgg215
 z51 := Tryz.sizeOf215
 v51 := Tryz.zeroValue215
 t53 := Tryz.underlying162
 a53 := Tryz.isAgg162
 z53 := Tryz.sizeOf162
 v53 := Tryz.zeroValue162
 t171 := Tryz.underlying263
 a171 := Tryz.isAgg263
 z171 := Tryz.sizeOf263
 v171 := Tryz.zeroValue263
 t173 := Tryz.underlying266
 a173 := Tryz.isAgg266
 z173 := Tryz.sizeOf266
 v173 := Tryz.zeroValue266
 t212 := Tryz.underlying301
 a212 := Tryz.isAgg301
 z212 := Tryz.sizeOf301
 v212 := Tryz.zeroValue301
 t213 := Tryz.underlying302
 a213 := Tryz.isAgg302
 z213 := Tryz.sizeOf302
 t232 := Tryz.underlying334
 a232 := Tryz.isAgg334
 z232 := Tryz.sizeOf334
 v232 := Tryz.zeroValue334
 t233 := Tryz.underlying335
 a233 := Tryz.isAgg335
 z233 := Tryz.sizeOf335
 v233 := Tryz.zeroValue335
 g17 := by kernel_rfl
 g18 := by kernel_rfl
 g19 := by kernel_rfl
 i0 := by kernel_rfl
 i2 := by kernel_rfl
 i3 := by kernel_rfl
 i4 := by kernel_rfl
 i5 := by kernel_rfl
 i9 := by kernel_rfl
 i20 := by kernel_rfl
 i37 := by kernel_rfl
 i46 := by kernel_rfl
 i51 := by kernel_rfl
 i53 := by kernel_rfl
 i171 := by kernel_rfl
 i173 := by kernel_rfl
 i212 := by kernel_rfl
 i232 := by kernel_rfl
 i233 := by kernel_rfl
 m17 := by kernel_rfl
 m18 := by kernel_rfl
 m19 := by kernel_rfl }
open Go.RowKit Go.Sort Go.Lib in
theorem Tryz.strconv_Itoa (n : Int) (h0 : -9223372036854775808 ≤ n) (h1 : n ≤ 9223372036854775807) (w : World) (htab : Lib.TabIs Tryz.prog w "internal/strconv.uint64pow10" .u64 Lib.pow10Tab) :
  Calls Tryz.prog 54 #[.int .i64 n] w fun e w' => e = .returned (.string ⟨(Lib.itoa n).toArray⟩) ∧ ∃ k os, w' = grow (w.drewN k) os := Any.strconv_Itoa Tryz.laysM171 n h0 h1 w htab
def Tryz.laysC172_ren : Go.Shelf.Ren := ⟨fun | 172 => 72 | 244 => 127 | 245 => 128 | 247 => 200 | 279 => 201 | 280 => 202 | 281 => 203 | 282 => 204 | 287 => 263 | 316 => 264 | 171 => 54 | 205 => 265 | 321 => 292 | 322 => 293 | 243 => 106 | 246 => 188 | 283 => 250 | 284 => 251 | 285 => 252 | 286 => 253 | 129 => 283 | 317 => 282 | 318 => 284 | 319 => 285 | 320 => 286 | 337 => 305 | 338 => 306 | n => n, fun | 9 => 9 | 3 => 3 | 75 => 111 | 76 => 112 | 4 => 4 | 5 => 5 | 167 => 220 | 37 => 67 | 0 => 0 | 85 => 221 | 2 => 2 | 168 => 223 | 53 => 162 | 175 => 272 | 46 => 141 | 210 => 275 | 127 => 258 | 145 => 309 | 143 => 307 | 21 => 21 | 171 => 263 | 173 => 266 | 212 => 301 | 51 => 215 | 20 => 20 | 213 => 302 | 232 => 334 | 233 => 335 | 80 => 191 | n => n, fun | 15 => 0 | 16 => 1 | 17 => 3 | 18 => 7 | 19 => 8 | n => n⟩
theorem Tryz.laysC172 : Go.Proofs.LaysC.n172 Tryz.prog Tryz.laysC172_ren := {
 mixed := by kernel_rfl
 f129 := Tryz.func283.trans (congrArg some (by kernel_rfl))
 f171 := Tryz.func54.trans (congrArg some (by kernel_rfl))
 f172 := Tryz.func72.trans (congrArg some (by kernel_rfl))
 f205 := Tryz.func265.trans (congrArg some (by kernel_rfl))
 f243 := Tryz.func106.trans (congrArg some (by kernel_rfl))
 f244 := Tryz.func127.trans (congrArg some (by kernel_rfl))
 f245 := Tryz.func128.trans (congrArg some (by kernel_rfl))
 f246 := Tryz.func188.trans (congrArg some (by kernel_rfl))
 f247 := Tryz.func200.trans (congrArg some (by kernel_rfl))
 f279 := Tryz.func201.trans (congrArg some (by kernel_rfl))
 f280 := Tryz.func202.trans (congrArg some (by kernel_rfl))
 f281 := Tryz.func203.trans (congrArg some (by kernel_rfl))
 f282 := Tryz.func204.trans (congrArg some (by kernel_rfl))
 f283 := Tryz.func250.trans (congrArg some (by kernel_rfl))
 f284 := Tryz.func251.trans (congrArg some (by kernel_rfl))
 f285 := Tryz.func252.trans (congrArg some (by kernel_rfl))
 f286 := Tryz.func253.trans (congrArg some (by kernel_rfl))
 f287 := Tryz.func263.trans (congrArg some (by kernel_rfl))
 f316 := Tryz.func264.trans (congrArg some (by kernel_rfl))
 f317 := Tryz.func282.trans (congrArg some (by kernel_rfl))
 f318 := Tryz.func284.trans (congrArg some (by kernel_rfl))
 f319 := Tryz.func285.trans (congrArg some (by kernel_rfl))
 f320 := Tryz.func286.trans (congrArg some (by kernel_rfl))
 f321 := Tryz.func292.trans (congrArg some (by kernel_rfl))
 f322 := Tryz.func293.trans (congrArg some (by kernel_rfl))
 f337 := Tryz.func305.trans (congrArg some (by kernel_rfl))
 f338 := Tryz.func306.trans (congrArg some (by kernel_rfl))
 t0 := Tryz.underlying0
 a0 := Tryz.isAgg0
 z0 := Tryz.sizeOf0
 v0 := Tryz.zeroValue0
 t2 := Tryz.underlying2
 a2 := Tryz.isAgg2
 z2 := Tryz.sizeOf2
 v2 := Tryz.zeroValue2
 t3 := Tryz.underlying3
 a3 := Tryz.isAgg3
 z3 := Tryz.sizeOf3
 v3 := Tryz.zeroValue3
 t4 := Tryz.underlying4
 a4 := Tryz.isAgg4
 z4 := Tryz.sizeOf4
 v4 := Tryz.zeroValue4
 t5 := Tryz.underlying5
 a5 := Tryz.isAgg5
 z5 := Tryz.sizeOf5
 v5 := Tryz.zeroValue5
 t9 := Tryz.underlying9
 a9 := Tryz.isAgg9
 z9 := Tryz.sizeOf9
 v9 := Tryz.zeroValue9
 t20 := Tryz.underlying20
 a20 := Tryz.isAgg20
 z20 := Tryz.sizeOf20
 v20 := Tryz.zeroValue20
 t21 := Tryz.underlying21
 a21 := Tryz.isAgg21
 z21 := Tryz.sizeOf21
 v21 := Tryz.zeroValue21
 t37 := Tryz.underlying67
 a37 := Tryz.isAgg67
 z37 := Tryz.sizeOf67
 v37 := Tryz.zeroValue67
 t46 := Tryz.underlying141
 a46 := Tryz.isAgg141
 z46 := Tryz.sizeOf141
 v46 := Tryz.zeroValue141
 t51 := Tryz.underlying215
 a51 := Tryz.isAgg215
 z51 := Tryz.sizeOf215
 v51 := Tryz.zeroValue215
 t53 := Tryz.underlying162
 a53 := Tryz.isAgg162
 z53 := Tryz.sizeOf162
 v53 := Tryz.zeroValue162
 t75 := Tryz.underlying111
 a75 := Tryz.isAgg111
 z75 := Tryz.sizeOf111
 v75 := Tryz.zeroValue111
 t76 := Tryz.underlying112
 a76 := Tryz.isAgg112
 z76 := Tryz.sizeOf112
 v76 := Tryz.zeroValue112
 t85 := Tryz.underlying221
 a85 := Tryz.isAgg221
 z85 := Tryz.sizeOf221
 v85 := Tryz.zeroValue221
 t127 := Tryz.underlying258
 a127 := Tryz.isAgg258
 z127 := Tryz.sizeOf258
 v127 := Tryz.zeroValue258
 t143 := Tryz.underlying307
 a143 := Tryz.isAgg307
 z143 := Tryz.sizeOf307
 v143 := Tryz.zeroValue307
 t145 := Tryz.underlying309
 a145 := Tryz.isAgg309
 z145 := Tryz.sizeOf309
 v145 := Tryz.zeroValue309
 t167 := Tryz.underlying220
 a167 := Tryz.isAgg220
 z167 := Tryz.sizeOf220
 v167 := Tryz.zeroValue220
 t168 := Tryz.underlying223
 a168 := Tryz.isAgg223
 z168 := Tryz.sizeOf223
 v168 := Tryz.zeroValue223
 t171 := Tryz.underlying263
 a171 := Tryz.isAgg263
 z171 := Tryz.sizeOf263
 v171 := Tryz.zeroValue263
 t173 := Tryz.underlying266
 a173 := Tryz.isAgg266
 z173 := Tryz.sizeOf266
 v173 := Tryz.zeroValue266
 t175 := Tryz.underlying272
 a175 := Tryz.isAgg272
 z175 := Tryz.sizeOf272
 v175 := Tryz.zeroValue272
 t210 := Tryz.underlying275
 a210 := Tryz.isAgg275
 z210 := Tryz.sizeOf275
 v210 := Tryz.zeroValue275
 t212 := Tryz.underlying301
 a212 := Tryz.isAgg301
 z212 := Tryz.sizeOf301
 v212 := Tryz.zeroValue301
 t213 := Tryz.underlying302
 a213 := Tryz.isAgg302
 z213 := Tryz.sizeOf302
 t232 := Tryz.underlying334
 a232 := Tryz.isAgg334
 z232 := Tryz.sizeOf334
 v232 := Tryz.zeroValue334
 t233 := Tryz.underlying335
 a233 := Tryz.isAgg335
 z233 := Tryz.sizeOf335
 v233 := Tryz.zeroValue335
 g15 := by kernel_rfl
 g16 := by kernel_rfl
 g17 := by kernel_rfl
 g18 := by kernel_rfl
 g19 := by kernel_rfl
 t80 := Tryz.underlying191
 a80 := Tryz.isAgg191
 z80 := Tryz.sizeOf191
 v80 := Tryz.zeroValue191
 i0 := by kernel_rfl
 i2 := by kernel_rfl
 i3 := by kernel_rfl
 i4 := by kernel_rfl
 i5 := by kernel_rfl
 i9 := by kernel_rfl
 i20 := by kernel_rfl
 i21 := by kernel_rfl
 i37 := by kernel_rfl
 i46 := by kernel_rfl
 i51 := by kernel_rfl
 i53 := by kernel_rfl
 i75 := by kernel_rfl
 i76 := by kernel_rfl
 i80 := by kernel_rfl
 i85 := by kernel_rfl
 i127 := by kernel_rfl
 i143 := by kernel_rfl
 i145 := by kernel_rfl
 i167 := by kernel_rfl
 i168 := by kernel_rfl
 i171 := by kernel_rfl
 i173 := by kernel_rfl
 i175 := by kernel_rfl
 i210 := by kernel_rfl
 i212 := by kernel_rfl
 i232 := by kernel_rfl
 i233 := by kernel_rfl
 m15 := by kernel_rfl
 m16 := by kernel_rfl
 m17 := by kernel_rfl
 m18 := by kernel_rfl
 m19 := by kernel_rfl
 c0 := by kernel_rfl
 c2 := by kernel_rfl
 c3 := by kernel_rfl
 c4 := by kernel_rfl
 c5 := by kernel_rfl
 c9 := by kernel_rfl
 c20 := by kernel_rfl
 c21 := by kernel_rfl
 c37 := by kernel_rfl
 c46 := by kernel_rfl
 c51 := by kernel_rfl
 c53 := by kernel_rfl
 c75 := by kernel_rfl
 c76 := by kernel_rfl
 c80 := by kernel_rfl
 c85 := by kernel_rfl
 c127 := by kernel_rfl
 c143 := by kernel_rfl
 c145 := by kernel_rfl
 c167 := by kernel_rfl
 c168 := by kernel_rfl
 c171 := by kernel_rfl
 c173 := by kernel_rfl
 c175 := by kernel_rfl
 c210 := by kernel_rfl
 c212 := by kernel_rfl
 c213 := by kernel_rfl
 c232 := by kernel_rfl
 c233 := by kernel_rfl }
open Go.RowKit in
theorem Tryz.strconv_Atoi_ok (s : ByteArray) (hmax : s.size ≤ 9223372036854775806) (v : Int) (h : Lib.atoiAll s.data.toList = .ok v) (w : World) :
  Calls Tryz.prog 72 #[.string s] w fun e w' => e = .returned (.tuple #[.int .i64 v, .nilIface]) ∧ (w' = w ∨ ∃ t, w' = Lib.bytesWorld w 5 t) := Any.strconv_Atoi_ok Tryz.laysC172 s hmax v h w
open Go.RowKit in
theorem Tryz.strconv_Atoi_syntax (s : ByteArray) (hlim : s.size ≤ 281474976710656) (h : Lib.atoiAll s.data.toList = .«syntax») (ev : Value) (w : World) (hv : w.cell? ⟨0, 0, none⟩ = some ev) (hev : ev = .nilIface ∨ ∃ te pe, ev = .iface te pe) :
  Calls Tryz.prog 72 #[.string s] w fun e w' => ∃ N, e = .returned (.tuple #[.int .i64 (0), .iface 223 (.pointer (some ⟨N, 0, none⟩))]) ∧ w.heap.size ≤ N ∧ w'.heap[N]? = some (.cells #[.string ⟨#[65, 116, 111, 105]⟩, .string s, ev] 275 (0, 0)) ∧ Below w.heap.size w w' := Any.strconv_Atoi_syntax Tryz.laysC172 s hlim h ev w hv hev
def Tryz.lays146_ren : Go.Shelf.Ren := ⟨fun | 146 => 107 | 221 => 189 | 268 => 254 | 138 => 255 | 143 => 256 | 195 => 287 | 197 => 234 | 218 => 288 | 219 => 289 | 260 => 276 | 217 => 224 | 225 => 242 | 224 => 241 | 267 => 307 | 266 => 273 | 314 => 316 | n => n, fun | 9 => 9 | 31 => 37 | 3 => 3 | 4 => 4 | 0 => 0 | 105 => 248 | 21 => 21 | 5 => 5 | 46 => 141 | 119 => 313 | 139 => 316 | 138 => 315 | 146 => 336 | 51 => 215 | n => n, fun | 1 => 2 | 3 => 5 | 4 => 6 | n => n⟩
theorem Tryz.lays146 : Go.Proofs.Lays.n146 Tryz.prog Tryz.lays146_ren := {
 mixed := by kernel_rfl
 f138 := Tryz.func255.trans (congrArg some (by kernel_rfl))
 f143 := Tryz.func256.trans (congrArg some (by kernel_rfl))
 f146 := Tryz.func107.trans (congrArg some (by kernel_rfl))
 f195 := Tryz.func287.trans (congrArg some (by kernel_rfl))
 f197 := Tryz.func234.trans (congrArg some (by kernel_rfl))
 f217 := Tryz.func224.trans (congrArg some (by kernel_rfl))
 f218 := Tryz.func288.trans (congrArg some (by kernel_rfl))
 f219 := Tryz.func289.trans (congrArg some (by kernel_rfl))
 f221 := Tryz.func189.trans (congrArg some (by kernel_rfl))
 f224 := Tryz.func241.trans (congrArg some (by kernel_rfl))
 f225 := Tryz.func242.trans (congrArg some (by kernel_rfl))
 f260 := Tryz.func276.trans (congrArg some (by kernel_rfl))
 f266 := Tryz.func273.trans (congrArg some (by kernel_rfl))
 f267 := Tryz.func307.trans (congrArg some (by kernel_rfl))
 f268 := Tryz.func254.trans (congrArg some (by kernel_rfl))
 f314 := Tryz.func316.trans (congrArg some (by kernel_rfl))
 t0 := Tryz.underlying0
 a0 := Tryz.isAgg0
 z0 := Tryz.sizeOf0
 v0 := Tryz.zeroValue0
 t3 := Tryz.underlying3
 a3 := Tryz.isAgg3
 z3 := Tryz.sizeOf3
 v3 := Tryz.zeroValue3
 t4 := Tryz.underlying4
 a4 := Tryz.isAgg4
 z4 := Tryz.sizeOf4
 v4 := Tryz.zeroValue4
 t5 := Tryz.underlying5
 a5 := Tryz.isAgg5
 z5 := Tryz.sizeOf5
 v5 := Tryz.zeroValue5
 t9 := Tryz.underlying9
 a9 := Tryz.isAgg9
 z9 := Tryz.sizeOf9
 v9 := Tryz.zeroValue9
 t21 := Tryz.underlying21
 a21 := Tryz.isAgg21
 z21 := Tryz.sizeOf21
 v21 := Tryz.zeroValue21
 t31 := Tryz.underlying37
 a31 := Tryz.isAgg37
 z31 := Tryz.sizeOf37
 v31 := Tryz.zeroValue37
 t46 := Tryz.underlying141
 a46 := Tryz.isAgg141
 z46 := Tryz.sizeOf141
 v46 := Tryz.zeroValue141
 t51 := Tryz.underlying215
 a51 := Tryz.isAgg215
 z51 := Tryz.sizeOf215
 v51 := Tryz.zeroValue215
 t105 := Tryz.underlying248
 a105 := Tryz.isAgg248
 z105 := Tryz.sizeOf248
 v105 := Tryz.zeroValue248
 t119 := Tryz.underlying313
 a119 := Tryz.isAgg313
 z119 := Tryz.sizeOf313
 t138 := Tryz.underlying315
 a138 := Tryz.isAgg315
 z138 := Tryz.sizeOf315
 v138 := Tryz.zeroValue315
 t139 := Tryz.underlying316
 a139 := Tryz.isAgg316
 z139 := Tryz.sizeOf316
 v139 := Tryz.zeroValue316
 t146 := Tryz.underlying336
 a146 := Tryz.isAgg336
 z146 := Tryz.sizeOf336
 v146 := Tryz.zeroValue336
 g1 := by kernel_rfl
 g3 := by kernel_rfl
 g4 := by kernel_rfl }
open Go.RowKit Go.Lib in
theorem Tryz.strings_Split (s sep : ByteArray) (m : Int) (w : World) (hs : s.size < 4294967281) (hm : w.cell? ⟨2, 0, none⟩ = some (.int .i64 m)) (h1 : 1 ≤ sep.size) :
  Calls Tryz.prog 107 #[.string s, .string sep] w fun e w' =>
   e = .returned (.slice (some ⟨w.heap.size, 0, none⟩) (Lib.countB s sep + 1) (Lib.countB s sep + 1)) ∧ w' = w.alloc (.cells ((Lib.splitB sep 0 (Lib.countB s sep) s).map Value.string).toArray 9) := Any.strings_Split Tryz.lays146 (by kernel_rfl) s sep m w hs hm h1
def Tryz.laysM146_ren : Go.Shelf.Ren := ⟨fun | 146 => 107 | 221 => 189 | 268 => 254 | 138 => 255 | 143 => 256 | 195 => 287 | 197 => 234 | 218 => 288 | 219 => 289 | 260 => 276 | 217 => 224 | 225 => 242 | 224 => 241 | 267 => 307 | 266 => 273 | 314 => 316 | n => n, fun | 9 => 9 | 31 => 37 | 3 => 3 | 4 => 4 | 0 => 0 | 105 => 248 | 21 => 21 | 5 => 5 | 46 => 141 | 119 => 313 | 139 => 316 | 138 => 315 | 146 => 336 | 51 => 215 | n => n, fun | 1 => 2 | 3 => 5 | 4 => 6 | n => n⟩
theorem Tryz.laysM146 : Go.Proofs.LaysM.n146 Tryz.prog Tryz.laysM146_ren := {
 mixed := by kernel_rfl
 f138 := Tryz.func255.trans (congrArg some (by kernel_rfl))
 f143 := Tryz.func256.trans (congrArg some (by kernel_rfl))
 f146 := Tryz.func107.trans (congrArg some (by kernel_rfl))
 f195 := Tryz.func287.trans (congrArg some (by kernel_rfl))
 f197 := Tryz.func234.trans (congrArg some (by kernel_rfl))
 f217 := Tryz.func224.trans (congrArg some (by kernel_rfl))
 f218 := Tryz.func288.trans (congrArg some (by kernel_rfl))
 f219 := Tryz.func289.trans (congrArg some (by kernel_rfl))
 f221 := Tryz.func189.trans (congrArg some (by kernel_rfl))
 f224 := Tryz.func241.trans (congrArg some (by kernel_rfl))
 f225 := Tryz.func242.trans (congrArg some (by kernel_rfl))
 f260 := Tryz.func276.trans (congrArg some (by kernel_rfl))
 f266 := Tryz.func273.trans (congrArg some (by kernel_rfl))
 f267 := Tryz.func307.trans (congrArg some (by kernel_rfl))
 f268 := Tryz.func254.trans (congrArg some (by kernel_rfl))
 f314 := Tryz.func316.trans (congrArg some (by kernel_rfl))
 t0 := Tryz.underlying0
 a0 := Tryz.isAgg0
 z0 := Tryz.sizeOf0
 v0 := Tryz.zeroValue0
 t3 := Tryz.underlying3
 a3 := Tryz.isAgg3
 z3 := Tryz.sizeOf3
 v3 := Tryz.zeroValue3
 t4 := Tryz.underlying4
 a4 := Tryz.isAgg4
 z4 := Tryz.sizeOf4
 v4 := Tryz.zeroValue4
 t5 := Tryz.underlying5
 a5 := Tryz.isAgg5
 z5 := Tryz.sizeOf5
 v5 := Tryz.zeroValue5
 t9 := Tryz.underlying9
 a9 := Tryz.isAgg9
 z9 := Tryz.sizeOf9
 v9 := Tryz.zeroValue9
 t21 := Tryz.underlying21
 a21 := Tryz.isAgg21
 z21 := Tryz.sizeOf21
 v21 := Tryz.zeroValue21
 t31 := Tryz.underlying37
 a31 := Tryz.isAgg37
 z31 := Tryz.sizeOf37
 v31 := Tryz.zeroValue37
 t46 := Tryz.underlying141
 a46 := Tryz.isAgg141
 z46 := Tryz.sizeOf141
 v46 := Tryz.zeroValue141
 t51 := Tryz.underlying215
 a51 := Tryz.isAgg215
 z51 := Tryz.sizeOf215
 v51 := Tryz.zeroValue215
 t105 := Tryz.underlying248
 a105 := Tryz.isAgg248
 z105 := Tryz.sizeOf248
 v105 := Tryz.zeroValue248
 t119 := Tryz.underlying313
 a119 := Tryz.isAgg313
 z119 := Tryz.sizeOf313
 t138 := Tryz.underlying315
 a138 := Tryz.isAgg315
 z138 := Tryz.sizeOf315
 v138 := Tryz.zeroValue315
 t139 := Tryz.underlying316
 a139 := Tryz.isAgg316
 z139 := Tryz.sizeOf316
 v139 := Tryz.zeroValue316
 t146 := Tryz.underlying336
 a146 := Tryz.isAgg336
 z146 := Tryz.sizeOf336
 v146 := Tryz.zeroValue336
 g1 := by kernel_rfl
 g3 := by kernel_rfl
 g4 := by kernel_rfl
 i0 := by kernel_rfl
 i3 := by kernel_rfl
 i4 := by kernel_rfl
 i5 := by kernel_rfl
 i9 := by kernel_rfl
 i21 := by kernel_rfl
 i31 := by kernel_rfl
 i46 := by kernel_rfl
 i51 := by kernel_rfl
 i105 := by kernel_rfl
 i138 := by kernel_rfl
 i139 := by kernel_rfl
 i146 := by kernel_rfl
 m1 := by kernel_rfl
 s1_3 := fun w h => Go.Proofs.cell_of_shapedOpen_int (zero := #[.int .i64 0]) (t := 3) h (of_decide_eq_true (by kernel_rfl)) (by kernel_rfl) rfl (by kernel_rfl) (by kernel_rfl) Tryz.underlying3
 m3 := by kernel_rfl
 m4 := by kernel_rfl }
def Tryz.lays152_ren : Go.Shelf.Ren := ⟨fun | 152 => 171 | 137 => 159 | 119 => 240 | 224 => 241 | 225 => 242 | 217 => 224 | 266 => 273 | n => n, fun | 9 => 9 | 21 => 21 | 3 => 3 | 4 => 4 | 5 => 5 | 0 => 0 | 46 => 141 | n => n, fun | n => n⟩
theorem Tryz.lays152 : Go.Proofs.Lays.n152 Tryz.prog Tryz.lays152_ren := {
 mixed := by kernel_rfl
 f119 := Tryz.func240.trans (congrArg some (by kernel_rfl))
 f137 := Tryz.func159.trans (congrArg some (by kernel_rfl))
 f152 := Tryz.func171.trans (congrArg some (by kernel_rfl))
 f217 := Tryz.func224.trans (congrArg some (by kernel_rfl))
 f224 := Tryz.func241.trans (congrArg some (by kernel_rfl))
 f225 := Tryz.func242.trans (congrArg some (by kernel_rfl))
 f266 := Tryz.func273.trans (congrArg some (by kernel_rfl))
 t0 := Tryz.underlying0
 a0 := Tryz.isAgg0
 z0 := Tryz.sizeOf0
 v0 := Tryz.zeroValue0
 t3 := Tryz.underlying3
 a3 := Tryz.isAgg3
 z3 := Tryz.sizeOf3
 v3 := Tryz.zeroValue3
 t4 := Tryz.underlying4
 a4 := Tryz.isAgg4
 z4 := Tryz.sizeOf4
 v4 := Tryz.zeroValue4
 t5 := Tryz.underlying5
 a5 := Tryz.isAgg5
 z5 := Tryz.sizeOf5
 v5 := Tryz.zeroValue5
 t9 := Tryz.underlying9
 a9 := Tryz.isAgg9
 z9 := Tryz.sizeOf9
 v9 := Tryz.zeroValue9
 t21 := Tryz.underlying21
 a21 := Tryz.isAgg21
 z21 := Tryz.sizeOf21
 v21 := Tryz.zeroValue21
 t46 := Tryz.underlying141
 a46 := Tryz.isAgg141
 z46 := Tryz.sizeOf141
 v46 := Tryz.zeroValue141 }
open Go.RowKit Go.Lib in
theorem Tryz.strings_IndexRune_ascii (s : ByteArray) (r : Int) (w : World) (h0 : 0 ≤ r) (h1 : r < 128) :
  Calls Tryz.prog 171 #[.string s, .int .i32 r] w fun e w' => e = .returned (.int .i64 (Lib.indexByte s.data.toList r.toNat.toUInt8)) ∧ w' = w := Any.strings_IndexRune_ascii Tryz.lays152 s r w h0 h1
def Tryz.lays153_ren : Go.Shelf.Ren := ⟨fun | 153 => 172 | 152 => 171 | 226 => 243 | 227 => 227 | 228 => 244 | 137 => 159 | 119 => 240 | 224 => 241 | 225 => 242 | 217 => 224 | 266 => 273 | n => n, fun | 9 => 9 | 3 => 3 | 4 => 4 | 5 => 5 | 21 => 21 | 117 => 243 | 116 => 242 | 0 => 0 | 46 => 141 | 124 => 246 | n => n, fun | n => n⟩
theorem Tryz.lays153 : Go.Proofs.Lays.n153 Tryz.prog Tryz.lays153_ren := {
 mixed := by kernel_rfl
 f119 := Tryz.func240.trans (congrArg some (by kernel_rfl))
 f137 := Tryz.func159.trans (congrArg some (by kernel_rfl))
 f152 := Tryz.func171.trans (congrArg some (by kernel_rfl))
 f153 := Tryz.func172.trans (congrArg some (by kernel_rfl))
 f217 := Tryz.func224.trans (congrArg some (by kernel_rfl))
 f224 := Tryz.func241.trans (congrArg some (by kernel_rfl))
 f225 := Tryz.func242.trans (congrArg some (by kernel_rfl))
 f226 := Tryz.func243.trans (congrArg some (by kernel_rfl))
 f227 := Tryz.func227.trans (congrArg some (by kernel_rfl))
 f228 := Tryz.func244.trans (congrArg some (by kernel_rfl))
 f266 := Tryz.func273.trans (congrArg some (by kernel_rfl))
 t0 := Tryz.underlying0
 a0 := Tryz.isAgg0
 z0 := Tryz.sizeOf0
 v0 := Tryz.zeroValue0
 t3 := Tryz.underlying3
 a3 := Tryz.isAgg3
 z3 := Tryz.sizeOf3
 v3 := Tryz.zeroValue3
 t4 := Tryz.underlying4
 a4 := Tryz.isAgg4
 z4 := Tryz.sizeOf4
 v4 := Tryz.zeroValue4
 t5 := Tryz.underlying5
 a5 := Tryz.isAgg5
 z5 := Tryz.sizeOf5
 v5 := Tryz.zeroValue5
 t9 := Tryz.underlying9
 a9 := Tryz.isAgg9
 z9 := Tryz.sizeOf9
 v9 := Tryz.zeroValue9
 t21 := Tryz.underlying21
 a21 := Tryz.isAgg21
 z21 := Tryz.sizeOf21
 v21 := Tryz.zeroValue21
 t46 := Tryz.underlying141
 a46 := Tryz.isAgg141
 z46 := Tryz.sizeOf141
 v46 := Tryz.zeroValue141
 t116 := Tryz.underlying242
 a116 := Tryz.isAgg242
 z116 := Tryz.sizeOf242
 t117 := Tryz.underlying243
 a117 := Tryz.isAgg243
 z117 := Tryz.sizeOf243
 v117 := Tryz.zeroValue243
 t124 := Tryz.underlying246
 a124 := Tryz.isAgg246
 z124 := Tryz.sizeOf246
 v124 := Tryz.zeroValue246 }
open Go.RowKit Go.Lib in
def Tryz.lays230_ren : Go.Shelf.Ren := ⟨fun | 230 => 169 | 197 => 234 | 118 => 235 | 165 => 236 | 166 => 176 | 168 => 237 | 270 => 238 | 167 => 239 | 169 => 180 | 260 => 276 | 240 => 245 | 241 => 277 | 242 => 278 | 276 => 279 | 277 => 300 | 278 => 301 | n => n, fun | 107 => 201 | 9 => 9 | 72 => 205 | 0 => 0 | 4 => 4 | 3 => 3 | 21 => 21 | 105 => 248 | 76 => 112 | 5 => 5 | 75 => 111 | 70 => 203 | 20 => 20 | 37 => 67 | 127 => 258 | 119 => 313 | 46 => 141 | 139 => 316 | 138 => 315 | 164 => 284 | 51 => 215 | 80 => 191 | n => n, fun | 3 => 5 | 4 => 6 | n => n⟩
theorem Tryz.lays230 : Go.Proofs.Lays.n230 Tryz.prog Tryz.lays230_ren := {
 mixed := by kernel_rfl
 f118 := Tryz.func235.trans (congrArg some (by kernel_rfl))
 f165 := Tryz.func236.trans (congrArg some (by kernel_rfl))
 f166 := Tryz.func176.trans (congrArg some (by kernel_rfl))
 f167 := Tryz.func239.trans (congrArg some (by kernel_rfl))
 f168 := Tryz.func237.trans (congrArg some (by kernel_rfl))
 f169 := Tryz.func180.trans (congrArg some (by kernel_rfl))
 f197 := Tryz.func234.trans (congrArg some (by kernel_rfl))
 f230 := Tryz.func169.trans (congrArg some (by kernel_rfl))
 f240 := Tryz.func245.trans (congrArg some (by kernel_rfl))
 f241 := Tryz.func277.trans (congrArg some (by kernel_rfl))
 f242 := Tryz.func278.trans (congrArg some (by kernel_rfl))
 f260 := Tryz.func276.trans (congrArg some (by kernel_rfl))
 f270 := Tryz.func238.trans (congrArg some (by kernel_rfl))
 f276 := Tryz.func279.trans (congrArg some (by kernel_rfl))
 f277 := Tryz.func300.trans (congrArg some (by kernel_rfl))
 f278 := Tryz.func301.trans (congrArg some (by kernel_rfl))
 t0 := Tryz.underlying0
 a0 := Tryz.isAgg0
 z0 := Tryz.sizeOf0
 v0 := Tryz.zeroValue0
 t3 := Tryz.underlying3
 a3 := Tryz.isAgg3
 z3 := Tryz.sizeOf3
 v3 := Tryz.zeroValue3
 t4 := Tryz.underlying4
 a4 := Tryz.isAgg4
 z4 := Tryz.sizeOf4
 v4 := Tryz.zeroValue4
 t5 := Tryz.underlying5
 a5 := Tryz.isAgg5
 z5 := Tryz.sizeOf5
 v5 := Tryz.zeroValue5
 t9 := Tryz.underlying9
 a9 := Tryz.isAgg9
 z9 := Tryz.sizeOf9
 v9 := Tryz.zeroValue9
 t20 := Tryz.underlying20
 a20 := Tryz.isAgg20
 z20 := Tryz.sizeOf20
 v20 := Tryz.zeroValue20
 t21 := Tryz.underlying21
 a21 := Tryz.isAgg21
 z21 := Tryz.sizeOf21
 v21 := Tryz.zeroValue21
 t37 := Tryz.underlying67
 a37 := Tryz.isAgg67
 z37 := Tryz.sizeOf67
 v37 := Tryz.zeroValue67
 t46 := Tryz.underlying141
 a46 := Tryz.isAgg141
 z46 := Tryz.sizeOf141
 v46 := Tryz.zeroValue141
 t51 := Tryz.underlying215
 a51 := Tryz.isAgg215
 z51 := Tryz.sizeOf215
 v51 := Tryz.zeroValue215
 t70 := Tryz.underlying203
 a70 := Tryz.isAgg203
 z70 := Tryz.sizeOf203
 v70 := Tryz.zeroValue203
 t72 := Tryz.underlying205
 a72 := Tryz.isAgg205
 z72 := Tryz.sizeOf205
 v72 := Tryz.zeroValue205
 t75 := Tryz.underlying111
 a75 := Tryz.isAgg111
 z75 := Tryz.sizeOf111
 v75 := Tryz.zeroValue111
 t76 := Tryz.underlying112
 a76 := Tryz.isAgg112
 z76 := Tryz.sizeOf112
 v76 := Tryz.zeroValue112
 t105 := Tryz.underlying248
 a105 := Tryz.isAgg248
 z105 := Tryz.sizeOf248
 v105 := Tryz.zeroValue248
 t107 := Tryz.underlying201
 a107 := Tryz.isAgg201
 z107 := Tryz.sizeOf201
 v107 := Tryz.zeroValue201
 t119 := Tryz.underlying313
 a119 := Tryz.isAgg313
 z119 := Tryz.sizeOf313
 t127 := Tryz.underlying258
 a127 := Tryz.isAgg258
 z127 := Tryz.sizeOf258
 v127 := Tryz.zeroValue258
 t138 := Tryz.underlying315
 a138 := Tryz.isAgg315
 z138 := Tryz.sizeOf315
 v138 := Tryz.zeroValue315
 t139 := Tryz.underlying316
 a139 := Tryz.isAgg316
 z139 := Tryz.sizeOf316
 v139 := Tryz.zeroValue316
 t164 := Tryz.underlying284
 a164 := Tryz.isAgg284
 z164 := Tryz.sizeOf284
 v164 := Tryz.zeroValue284
 g3 := by kernel_rfl
 g4 := by kernel_rfl }
theorem Tryz.Builder_Extra_230 : Builder.Extra Tryz.prog Tryz.lays230_ren := {
 sizeBuilder := by kernel_rfl
 liesBuilder := by kernel_rfl
 t5 := Tryz.underlying5
 a5 := Tryz.isAgg5
 z5 := Tryz.sizeOf5
 v5 := Tryz.zeroValue5
 infoByte := by kernel_rfl
 cellsByte := by kernel_rfl
 sizeByte := by kernel_rfl
 neB5 := by decide }
open Go.RowKit Go.Lib in
theorem Tryz.strings_Map_grows (g : Nat) (lb : Array Value) (eg : ∀ args w, (callFunc g args).run Tryz.prog w = .ok (.enter g args) w) (f : Int → Int) (s : ByteArray) (w : World) (hs : s.size < 35184372088832) (hf : MapGrows Tryz.prog g lb f w) (hnn : ∀ x : Nat, x ≤ 1114111 → -2147483648 ≤ f x ∧ f x ≤ 2147483647) (hT : Lib.Utf8Tabs 5 6 w) :
  Calls Tryz.prog 169 #[.func (.func g) #[] lb, .string s] w fun e w' => e = .returned (.string ⟨(Lib.mapD f s.data.toList).toArray⟩) ∧ Below w.heap.size w w' := Any.strings_Map_grows Tryz.lays230 Tryz.Builder_Extra_230 g lb eg f s w hs hf hnn hT
open Go.RowKit Go.Lib in
def Tryz.lays260_ren : Go.Shelf.Ren := ⟨fun | 260 => 276 | n => n, fun | 9 => 9 | 21 => 21 | 3 => 3 | 4 => 4 | 5 => 5 | 119 => 313 | 0 => 0 | 46 => 141 | 139 => 316 | 138 => 315 | n => n, fun | 3 => 5 | 4 => 6 | n => n⟩
theorem Tryz.lays260 : Go.Proofs.Lays.n260 Tryz.prog Tryz.lays260_ren := {
 mixed := by kernel_rfl
 f260 := Tryz.func276.trans (congrArg some (by kernel_rfl))
 t0 := Tryz.underlying0
 a0 := Tryz.isAgg0
 z0 := Tryz.sizeOf0
 v0 := Tryz.zeroValue0
 t3 := Tryz.underlying3
 a3 := Tryz.isAgg3
 z3 := Tryz.sizeOf3
 v3 := Tryz.zeroValue3
 t4 := Tryz.underlying4
 a4 := Tryz.isAgg4
 z4 := Tryz.sizeOf4
 v4 := Tryz.zeroValue4
 t5 := Tryz.underlying5
 a5 := Tryz.isAgg5
 z5 := Tryz.sizeOf5
 v5 := Tryz.zeroValue5
 t9 := Tryz.underlying9
 a9 := Tryz.isAgg9
 z9 := Tryz.sizeOf9
 v9 := Tryz.zeroValue9
 t21 := Tryz.underlying21
 a21 := Tryz.isAgg21
 z21 := Tryz.sizeOf21
 v21 := Tryz.zeroValue21
 t46 := Tryz.underlying141
 a46 := Tryz.isAgg141
 z46 := Tryz.sizeOf141
 v46 := Tryz.zeroValue141
 t119 := Tryz.underlying313
 a119 := Tryz.isAgg313
 z119 := Tryz.sizeOf313
 t138 := Tryz.underlying315
 a138 := Tryz.isAgg315
 z138 := Tryz.sizeOf315
 v138 := Tryz.zeroValue315
 t139 := Tryz.underlying316
 a139 := Tryz.isAgg316
 z139 := Tryz.sizeOf316
 v139 := Tryz.zeroValue316
 g3 := by kernel_rfl
 g4 := by kernel_rfl }
end Go.Proofs
