/- The library's contracts at this seat, laid. No condition. -/
import Derived.Shelf.Strings.Trim
import Derived.Shelf.Small.Utf8
import Derived.Shelf.Small.Strs
import Derived.Shelf.Small.Wraps
import Derived.Shelf.Strconv.Atoi
import Derived.Shelf.Strconv.Itoa0
import Derived.Shelf.Strconv.Itoa1
import Derived.Shelf.LaysM
import Derived.Shelf.Strconv.Itoa2
import Derived.Shelf.Strconv.Itoa3
import Derived.Shelf.Strconv.AtoiErrFast
import Derived.Shelf.Strconv.ParseIntEmpty
import Derived.Shelf.Strconv.AtoiFail
import Derived.Shelf.Strconv.Clone
import Derived.Shelf.Strconv.SyntaxError
import Derived.Shelf.LaysC
import Derived.Shelf.Strconv.ToError
import Derived.Shelf.Strconv.Lower
import Derived.Shelf.Strconv.ParseUint10
import Derived.Shelf.Strconv.ParseUint10Empty
import Derived.Shelf.Strconv.ParseUint10Any
import Derived.Shelf.Strconv.ParseInt10
import Derived.Shelf.Strconv.AtoiLong
import Derived.Shelf.Strconv.AtoiInnerAll
import Derived.Shelf.Strconv.RangeError
import Derived.Shelf.Strconv.ToErrorRange
import Derived.Shelf.Strconv.AtoiAll
import Derived.Shelf.Strconv.ErrVarAll
import Derived.Shelf.Strings.Search1
import Derived.Shelf.Strings.Search2
import Derived.Shelf.Strings.Cut
import Derived.Shelf.Strings.Shaped
import Derived.Shelf.Strings.Prefix
import Derived.Shelf.Strings.Fields
import Derived.Shelf.Strings.SplitShaped
import Derived.Shelf.Unicode.Latin
import Derived.Shelf.Unicode.Decode
import Derived.Shelf.Strings.Runes
import Derived.Shelf.Strings.AsciiSet
import Derived.Shelf.Unicode.DecodeSlow
import Derived.Shelf.Unicode.DecodeAny
import Derived.Shelf.Unicode.Is16White
import Derived.Shelf.Unicode.IsSpaceAny
import Derived.Shelf.Unicode.DecodeLast
import Derived.Shelf.Unicode.Is16Any
import Derived.Shelf.Unicode.Is32Any
import Derived.Shelf.Unicode.ExclAny
import Derived.Shelf.Slices.Turned
import Derived.Ground.Names2Prog
import Derived.Shelf.Slices.Clone
import Derived.Ground.SlgnProg
import Derived.Shelf.SlicesE.Clone
import Derived.Test.YthcnipopdbgpdaaGreatDoorProg
namespace Go.Proofs
open Go.Shelf
def Tryz.lays160_ren : Go.Shelf.Ren := ⟨fun | 160 => 65 | 232 => 100 | 231 => 99 | 227 => 101 | 234 => 103 | 233 => 102 | 236 => 105 | 235 => 104 | 228 => 151 | 271 => 154 | 151 => 153 | 197 => 152 | 120 => 194 | 152 => 193 | 260 => 192 | 137 => 160 | 119 => 222 | 224 => 223 | 225 => 224 | 217 => 197 | 266 => 225 | n => n, fun | 9 => 9 | 4 => 4 | 3 => 3 | 5 => 5 | 117 => 201 | 116 => 200 | 0 => 0 | 124 => 204 | 21 => 21 | 105 => 240 | 46 => 292 | 119 => 279 | 139 => 295 | 138 => 294 | n => n, fun | 3 => 1 | 4 => 2 | n => n⟩
theorem Tryz.lays160 : Go.Proofs.Lays.n160 Tryz.prog Tryz.lays160_ren := {
 mixed := by kernel_rfl
 f119 := Tryz.func222.trans (congrArg some (by kernel_rfl))
 f120 := Tryz.func194.trans (congrArg some (by kernel_rfl))
 f137 := Tryz.func160.trans (congrArg some (by kernel_rfl))
 f151 := Tryz.func153.trans (congrArg some (by kernel_rfl))
 f152 := Tryz.func193.trans (congrArg some (by kernel_rfl))
 f160 := Tryz.func65.trans (congrArg some (by kernel_rfl))
 f197 := Tryz.func152.trans (congrArg some (by kernel_rfl))
 f217 := Tryz.func197.trans (congrArg some (by kernel_rfl))
 f224 := Tryz.func223.trans (congrArg some (by kernel_rfl))
 f225 := Tryz.func224.trans (congrArg some (by kernel_rfl))
 f227 := Tryz.func101.trans (congrArg some (by kernel_rfl))
 f228 := Tryz.func151.trans (congrArg some (by kernel_rfl))
 f231 := Tryz.func99.trans (congrArg some (by kernel_rfl))
 f232 := Tryz.func100.trans (congrArg some (by kernel_rfl))
 f233 := Tryz.func102.trans (congrArg some (by kernel_rfl))
 f234 := Tryz.func103.trans (congrArg some (by kernel_rfl))
 f235 := Tryz.func104.trans (congrArg some (by kernel_rfl))
 f236 := Tryz.func105.trans (congrArg some (by kernel_rfl))
 f260 := Tryz.func192.trans (congrArg some (by kernel_rfl))
 f266 := Tryz.func225.trans (congrArg some (by kernel_rfl))
 f271 := Tryz.func154.trans (congrArg some (by kernel_rfl))
 t0 := Tryz.underlying0
 a0 := Tryz.isAgg0
 z0 := Tryz.sizeOf0
 v0 := Tryz.zeroValue0
 t3 := Tryz.underlying3
 a3 := Tryz.isAgg3
 z3 := Tryz.sizeOf3
 v3 := Tryz.zeroValue3
 t4 := Tryz.underlying4
 a4 := Tryz.isAgg4
 z4 := Tryz.sizeOf4
 v4 := Tryz.zeroValue4
 t5 := Tryz.underlying5
 a5 := Tryz.isAgg5
 z5 := Tryz.sizeOf5
 v5 := Tryz.zeroValue5
 t9 := Tryz.underlying9
 a9 := Tryz.isAgg9
 z9 := Tryz.sizeOf9
 v9 := Tryz.zeroValue9
 t21 := Tryz.underlying21
 a21 := Tryz.isAgg21
 z21 := Tryz.sizeOf21
 v21 := Tryz.zeroValue21
 t46 := Tryz.underlying292
 a46 := Tryz.isAgg292
 z46 := Tryz.sizeOf292
 v46 := Tryz.zeroValue292
 t105 := Tryz.underlying240
 a105 := Tryz.isAgg240
 z105 := Tryz.sizeOf240
 v105 := Tryz.zeroValue240
 t116 := Tryz.underlying200
 a116 := Tryz.isAgg200
 z116 := Tryz.sizeOf200
 t117 := Tryz.underlying201
 a117 := Tryz.isAgg201
 z117 := Tryz.sizeOf201
 v117 := Tryz.zeroValue201
 t119 := Tryz.underlying279
 a119 := Tryz.isAgg279
 z119 := Tryz.sizeOf279
 t124 := Tryz.underlying204
 a124 := Tryz.isAgg204
 z124 := Tryz.sizeOf204
 v124 := Tryz.zeroValue204
 t138 := Tryz.underlying294
 a138 := Tryz.isAgg294
 z138 := Tryz.sizeOf294
 v138 := Tryz.zeroValue294
 t139 := Tryz.underlying295
 a139 := Tryz.isAgg295
 z139 := Tryz.sizeOf295
 v139 := Tryz.zeroValue295
 g3 := by kernel_rfl
 g4 := by kernel_rfl }
open Go.RowKit in
theorem Tryz.strings_Trim_one (s : ByteArray) (c : UInt8) (hc : c.toNat < 128) (w : World) (hs : s.size ≤ 9223372036854775807) :
  Calls Tryz.prog 65 #[.string s, .string ⟨#[c]⟩] w fun e w' => e = .returned (.string ⟨(Lib.trimB s.data.toList c).toArray⟩) ∧ (w' = w ∨ w' = w.drew) := Any.strings_Trim_one Tryz.lays160 s c hc w hs
def Tryz.lays137_ren : Go.Shelf.Ren := ⟨fun | 137 => 160 | 217 => 197 | 266 => 225 | n => n, fun | 9 => 9 | 5 => 5 | 3 => 3 | n => n, fun | n => n⟩
theorem Tryz.lays137 : Go.Proofs.Lays.n137 Tryz.prog Tryz.lays137_ren := {
 mixed := by kernel_rfl
 f137 := Tryz.func160.trans (congrArg some (by kernel_rfl))
 f217 := Tryz.func197.trans (congrArg some (by kernel_rfl))
 f266 := Tryz.func225.trans (congrArg some (by kernel_rfl))
 t3 := Tryz.underlying3
 a3 := Tryz.isAgg3
 z3 := Tryz.sizeOf3
 v3 := Tryz.zeroValue3
 t5 := Tryz.underlying5
 a5 := Tryz.isAgg5
 z5 := Tryz.sizeOf5
 v5 := Tryz.zeroValue5
 t9 := Tryz.underlying9
 a9 := Tryz.isAgg9
 z9 := Tryz.sizeOf9
 v9 := Tryz.zeroValue9 }
open Go.RowKit in
theorem Tryz.strings_IndexByte (s : ByteArray) (c : Int) (w : World) :
  Calls Tryz.prog 160 #[.string s, .int .u8 c] w fun e w' => e = .returned (.int .i64 (Lib.indexByte s.data.toList c.toNat.toUInt8)) ∧ w' = w := Any.strings_IndexByte Tryz.lays137 s c w
def Tryz.laysM171_ren : Go.Shelf.Ren := ⟨fun | 171 => 199 | 243 => 228 | 246 => 241 | 283 => 251 | 284 => 252 | 285 => 253 | 286 => 254 | 129 => 259 | 317 => 258 | 318 => 260 | 319 => 261 | 320 => 262 | 337 => 264 | 338 => 265 | n => n, fun | 3 => 3 | 9 => 9 | 2 => 2 | 4 => 4 | 171 => 329 | 0 => 0 | 53 => 59 | 37 => 98 | 5 => 5 | 173 => 332 | 212 => 342 | 51 => 301 | 20 => 20 | 213 => 343 | 46 => 292 | 232 => 348 | 233 => 349 | n => n, fun | 17 => 7 | 18 => 8 | 19 => 9 | n => n⟩
theorem Tryz.laysM171 : Go.Proofs.LaysM.n171 Tryz.prog Tryz.laysM171_ren := {
 mixed := by kernel_rfl
 f129 := Tryz.func259.trans (congrArg some (by kernel_rfl))
 f171 := Tryz.func199.trans (congrArg some (by kernel_rfl))
 f243 := Tryz.func228.trans (congrArg some (by kernel_rfl))
 f246 := Tryz.func241.trans (congrArg some (by kernel_rfl))
 f283 := Tryz.func251.trans (congrArg some (by kernel_rfl))
 f284 := Tryz.func252.trans (congrArg some (by kernel_rfl))
 f285 := Tryz.func253.trans (congrArg some (by kernel_rfl))
 f286 := Tryz.func254.trans (congrArg some (by kernel_rfl))
 f317 := Tryz.func258.trans (congrArg some (by kernel_rfl))
 f318 := Tryz.func260.trans (congrArg some (by kernel_rfl))
 f319 := Tryz.func261.trans (congrArg some (by kernel_rfl))
 f320 := Tryz.func262.trans (congrArg some (by kernel_rfl))
 f337 := Tryz.func264.trans (congrArg some (by kernel_rfl))
 f338 := Tryz.func265.trans (congrArg some (by kernel_rfl))
 t0 := Tryz.underlying0
 a0 := Tryz.isAgg0
 z0 := Tryz.sizeOf0
 v0 := Tryz.zeroValue0
 t2 := Tryz.underlying2
 a2 := Tryz.isAgg2
 z2 := Tryz.sizeOf2
 v2 := Tryz.zeroValue2
 t3 := Tryz.underlying3
 a3 := Tryz.isAgg3
 z3 := Tryz.sizeOf3
 v3 := Tryz.zeroValue3
 t4 := Tryz.underlying4
 a4 := Tryz.isAgg4
 z4 := Tryz.sizeOf4
 v4 := Tryz.zeroValue4
 t5 := Tryz.underlying5
 a5 := Tryz.isAgg5
 z5 := Tryz.sizeOf5
 v5 := Tryz.zeroValue5
 t9 := Tryz.underlying9
 a9 := Tryz.isAgg9
 z9 := Tryz.sizeOf9
 v9 := Tryz.zeroValue9
 t20 := Tryz.underlying20
 a20 := Tryz.isAgg20
 z20 := Tryz.sizeOf20
 v20 := Tryz.zeroValue20
 t37 := Tryz.underlying98
 a37 := Tryz.isAgg98
 z37 := Tryz.sizeOf98
 v37 := Tryz.zeroValue98
 t46 := Tryz.underlying292
 a46 := Tryz.isAgg292
 z46 := Tryz.sizeOf292
 v46 := Tryz.zeroValue292
 t51 := Tryz.underlying301
 a51 := Tryz.isAgg301
 z51 := Tryz.sizeOf301
 v51 := Tryz.zeroValue301
 t53 := Tryz.underlying59
 a53 := Tryz.isAgg59
 z53 := Tryz.sizeOf59
 v53 := Tryz.zeroValue59
 t171 := Tryz.underlying329
 a171 := Tryz.isAgg329
 z171 := Tryz.sizeOf329
 v171 := Tryz.zeroValue329
 t173 := Tryz.underlying332
 a173 := Tryz.isAgg332
 z173 := Tryz.sizeOf332
 v173 := Tryz.zeroValue332
 t212 := Tryz.underlying342
 a212 := Tryz.isAgg342
 z212 := Tryz.sizeOf342
 v212 := Tryz.zeroValue342
 t213 := Tryz.underlying343
 a213 := Tryz.isAgg343
 z213 := Tryz.sizeOf343
 t232 := Tryz.underlying348
 a232 := Tryz.isAgg348
 z232 := Tryz.sizeOf348
 v232 := Tryz.zeroValue348
 t233 := Tryz.underlying349
 a233 := Tryz.isAgg349
 z233 := Tryz.sizeOf349
 v233 := Tryz.zeroValue349
 g17 := by kernel_rfl
 g18 := by kernel_rfl
 g19 := by kernel_rfl
 i0 := by kernel_rfl
 i2 := by kernel_rfl
 i3 := by kernel_rfl
 i4 := by kernel_rfl
 i5 := by kernel_rfl
 i9 := by kernel_rfl
 i20 := by kernel_rfl
 i37 := by kernel_rfl
 i46 := by kernel_rfl
 i51 := by kernel_rfl
 i53 := by kernel_rfl
 i171 := by kernel_rfl
 i173 := by kernel_rfl
 i212 := by kernel_rfl
 i232 := by kernel_rfl
 i233 := by kernel_rfl
 m17 := by kernel_rfl
 m18 := by kernel_rfl
 m19 := by kernel_rfl }
open Go.RowKit Go.Sort Go.Lib in
theorem Tryz.strconv_Itoa (n : Int) (h0 : -9223372036854775808 ≤ n) (h1 : n ≤ 9223372036854775807) (w : World) (htab : Lib.TabIs Tryz.prog w "internal/strconv.uint64pow10" .u64 Lib.pow10Tab) :
  Calls Tryz.prog 199 #[.int .i64 n] w fun e w' => e = .returned (.string ⟨(Lib.itoa n).toArray⟩) ∧ ∃ k os, w' = grow (w.drewN k) os := Any.strconv_Itoa Tryz.laysM171 n h0 h1 w htab
def Tryz.laysC172_ren : Go.Shelf.Ren := ⟨fun | 172 => 198 | 244 => 226 | 245 => 227 | 247 => 236 | 279 => 237 | 280 => 238 | 281 => 239 | 282 => 240 | 287 => 248 | 316 => 249 | 171 => 199 | 205 => 250 | 321 => 256 | 322 => 257 | 243 => 228 | 246 => 241 | 283 => 251 | 284 => 252 | 285 => 253 | 286 => 254 | 129 => 259 | 317 => 258 | 318 => 260 | 319 => 261 | 320 => 262 | 337 => 264 | 338 => 265 | n => n, fun | 9 => 9 | 3 => 3 | 75 => 274 | 76 => 275 | 4 => 4 | 5 => 5 | 167 => 305 | 37 => 98 | 0 => 0 | 85 => 306 | 2 => 2 | 168 => 308 | 53 => 59 | 175 => 324 | 46 => 292 | 210 => 327 | 127 => 337 | 145 => 340 | 143 => 338 | 21 => 21 | 171 => 329 | 173 => 332 | 212 => 342 | 51 => 301 | 20 => 20 | 213 => 343 | 232 => 348 | 233 => 349 | 80 => 216 | n => n, fun | 15 => 5 | 16 => 6 | 17 => 7 | 18 => 8 | 19 => 9 | n => n⟩
theorem Tryz.laysC172 : Go.Proofs.LaysC.n172 Tryz.prog Tryz.laysC172_ren := {
 mixed := by kernel_rfl
 f129 := Tryz.func259.trans (congrArg some (by kernel_rfl))
 f171 := Tryz.func199.trans (congrArg some (by kernel_rfl))
 f172 := Tryz.func198.trans (congrArg some (by kernel_rfl))
 f205 := Tryz.func250.trans (congrArg some (by kernel_rfl))
 f243 := Tryz.func228.trans (congrArg some (by kernel_rfl))
 f244 := Tryz.func226.trans (congrArg some (by kernel_rfl))
 f245 := Tryz.func227.trans (congrArg some (by kernel_rfl))
 f246 := Tryz.func241.trans (congrArg some (by kernel_rfl))
 f247 := Tryz.func236.trans (congrArg some (by kernel_rfl))
 f279 := Tryz.func237.trans (congrArg some (by kernel_rfl))
 f280 := Tryz.func238.trans (congrArg some (by kernel_rfl))
 f281 := Tryz.func239.trans (congrArg some (by kernel_rfl))
 f282 := Tryz.func240.trans (congrArg some (by kernel_rfl))
 f283 := Tryz.func251.trans (congrArg some (by kernel_rfl))
 f284 := Tryz.func252.trans (congrArg some (by kernel_rfl))
 f285 := Tryz.func253.trans (congrArg some (by kernel_rfl))
 f286 := Tryz.func254.trans (congrArg some (by kernel_rfl))
 f287 := Tryz.func248.trans (congrArg some (by kernel_rfl))
 f316 := Tryz.func249.trans (congrArg some (by kernel_rfl))
 f317 := Tryz.func258.trans (congrArg some (by kernel_rfl))
 f318 := Tryz.func260.trans (congrArg some (by kernel_rfl))
 f319 := Tryz.func261.trans (congrArg some (by kernel_rfl))
 f320 := Tryz.func262.trans (congrArg some (by kernel_rfl))
 f321 := Tryz.func256.trans (congrArg some (by kernel_rfl))
 f322 := Tryz.func257.trans (congrArg some (by kernel_rfl))
 f337 := Tryz.func264.trans (congrArg some (by kernel_rfl))
 f338 := Tryz.func265.trans (congrArg some (by kernel_rfl))
 t0 := Tryz.underlying0
 a0 := Tryz.isAgg0
 z0 := Tryz.sizeOf0
 v0 := Tryz.zeroValue0
 t2 := Tryz.underlying2
 a2 := Tryz.isAgg2
 z2 := Tryz.sizeOf2
 v2 := Tryz.zeroValue2
 t3 := Tryz.underlying3
 a3 := Tryz.isAgg3
 z3 := Tryz.sizeOf3
 v3 := Tryz.zeroValue3
 t4 := Tryz.underlying4
 a4 := Tryz.isAgg4
 z4 := Tryz.sizeOf4
 v4 := Tryz.zeroValue4
 t5 := Tryz.underlying5
 a5 := Tryz.isAgg5
 z5 := Tryz.sizeOf5
 v5 := Tryz.zeroValue5
 t9 := Tryz.underlying9
 a9 := Tryz.isAgg9
 z9 := Tryz.sizeOf9
 v9 := Tryz.zeroValue9
 t20 := Tryz.underlying20
 a20 := Tryz.isAgg20
 z20 := Tryz.sizeOf20
 v20 := Tryz.zeroValue20
 t21 := Tryz.underlying21
 a21 := Tryz.isAgg21
 z21 := Tryz.sizeOf21
 v21 := Tryz.zeroValue21
 t37 := Tryz.underlying98
 a37 := Tryz.isAgg98
 z37 := Tryz.sizeOf98
 v37 := Tryz.zeroValue98
 t46 := Tryz.underlying292
 a46 := Tryz.isAgg292
 z46 := Tryz.sizeOf292
 v46 := Tryz.zeroValue292
 t51 := Tryz.underlying301
 a51 := Tryz.isAgg301
 z51 := Tryz.sizeOf301
 v51 := Tryz.zeroValue301
 t53 := Tryz.underlying59
 a53 := Tryz.isAgg59
 z53 := Tryz.sizeOf59
 v53 := Tryz.zeroValue59
 t75 := Tryz.underlying274
 a75 := Tryz.isAgg274
 z75 := Tryz.sizeOf274
 v75 := Tryz.zeroValue274
 t76 := Tryz.underlying275
 a76 := Tryz.isAgg275
 z76 := Tryz.sizeOf275
 v76 := Tryz.zeroValue275
 t85 := Tryz.underlying306
 a85 := Tryz.isAgg306
 z85 := Tryz.sizeOf306
 v85 := Tryz.zeroValue306
 t127 := Tryz.underlying337
 a127 := Tryz.isAgg337
 z127 := Tryz.sizeOf337
 v127 := Tryz.zeroValue337
 t143 := Tryz.underlying338
 a143 := Tryz.isAgg338
 z143 := Tryz.sizeOf338
 v143 := Tryz.zeroValue338
 t145 := Tryz.underlying340
 a145 := Tryz.isAgg340
 z145 := Tryz.sizeOf340
 v145 := Tryz.zeroValue340
 t167 := Tryz.underlying305
 a167 := Tryz.isAgg305
 z167 := Tryz.sizeOf305
 v167 := Tryz.zeroValue305
 t168 := Tryz.underlying308
 a168 := Tryz.isAgg308
 z168 := Tryz.sizeOf308
 v168 := Tryz.zeroValue308
 t171 := Tryz.underlying329
 a171 := Tryz.isAgg329
 z171 := Tryz.sizeOf329
 v171 := Tryz.zeroValue329
 t173 := Tryz.underlying332
 a173 := Tryz.isAgg332
 z173 := Tryz.sizeOf332
 v173 := Tryz.zeroValue332
 t175 := Tryz.underlying324
 a175 := Tryz.isAgg324
 z175 := Tryz.sizeOf324
 v175 := Tryz.zeroValue324
 t210 := Tryz.underlying327
 a210 := Tryz.isAgg327
 z210 := Tryz.sizeOf327
 v210 := Tryz.zeroValue327
 t212 := Tryz.underlying342
 a212 := Tryz.isAgg342
 z212 := Tryz.sizeOf342
 v212 := Tryz.zeroValue342
 t213 := Tryz.underlying343
 a213 := Tryz.isAgg343
 z213 := Tryz.sizeOf343
 t232 := Tryz.underlying348
 a232 := Tryz.isAgg348
 z232 := Tryz.sizeOf348
 v232 := Tryz.zeroValue348
 t233 := Tryz.underlying349
 a233 := Tryz.isAgg349
 z233 := Tryz.sizeOf349
 v233 := Tryz.zeroValue349
 g15 := by kernel_rfl
 g16 := by kernel_rfl
 g17 := by kernel_rfl
 g18 := by kernel_rfl
 g19 := by kernel_rfl
 t80 := Tryz.underlying216
 a80 := Tryz.isAgg216
 z80 := Tryz.sizeOf216
 v80 := Tryz.zeroValue216
 i0 := by kernel_rfl
 i2 := by kernel_rfl
 i3 := by kernel_rfl
 i4 := by kernel_rfl
 i5 := by kernel_rfl
 i9 := by kernel_rfl
 i20 := by kernel_rfl
 i21 := by kernel_rfl
 i37 := by kernel_rfl
 i46 := by kernel_rfl
 i51 := by kernel_rfl
 i53 := by kernel_rfl
 i75 := by kernel_rfl
 i76 := by kernel_rfl
 i80 := by kernel_rfl
 i85 := by kernel_rfl
 i127 := by kernel_rfl
 i143 := by kernel_rfl
 i145 := by kernel_rfl
 i167 := by kernel_rfl
 i168 := by kernel_rfl
 i171 := by kernel_rfl
 i173 := by kernel_rfl
 i175 := by kernel_rfl
 i210 := by kernel_rfl
 i212 := by kernel_rfl
 i232 := by kernel_rfl
 i233 := by kernel_rfl
 m15 := by kernel_rfl
 m16 := by kernel_rfl
 m17 := by kernel_rfl
 m18 := by kernel_rfl
 m19 := by kernel_rfl
 c0 := by kernel_rfl
 c2 := by kernel_rfl
 c3 := by kernel_rfl
 c4 := by kernel_rfl
 c5 := by kernel_rfl
 c9 := by kernel_rfl
 c20 := by kernel_rfl
 c21 := by kernel_rfl
 c37 := by kernel_rfl
 c46 := by kernel_rfl
 c51 := by kernel_rfl
 c53 := by kernel_rfl
 c75 := by kernel_rfl
 c76 := by kernel_rfl
 c80 := by kernel_rfl
 c85 := by kernel_rfl
 c127 := by kernel_rfl
 c143 := by kernel_rfl
 c145 := by kernel_rfl
 c167 := by kernel_rfl
 c168 := by kernel_rfl
 c171 := by kernel_rfl
 c173 := by kernel_rfl
 c175 := by kernel_rfl
 c210 := by kernel_rfl
 c212 := by kernel_rfl
 c213 := by kernel_rfl
 c232 := by kernel_rfl
 c233 := by kernel_rfl }
open Go.RowKit in
theorem Tryz.strconv_Atoi_ok (s : ByteArray) (hmax : s.size ≤ 9223372036854775806) (v : Int) (h : Lib.atoiAll s.data.toList = .ok v) (w : World) :
  Calls Tryz.prog 198 #[.string s] w fun e w' => e = .returned (.tuple #[.int .i64 v, .nilIface]) ∧ (w' = w ∨ ∃ t, w' = Lib.bytesWorld w 5 t) := Any.strconv_Atoi_ok Tryz.laysC172 s hmax v h w
open Go.RowKit in
theorem Tryz.strconv_Atoi_syntax (s : ByteArray) (hlim : s.size ≤ 281474976710656) (h : Lib.atoiAll s.data.toList = .«syntax») (ev : Value) (w : World) (hv : w.cell? ⟨5, 0, none⟩ = some ev) (hev : ev = .nilIface ∨ ∃ te pe, ev = .iface te pe) :
  Calls Tryz.prog 198 #[.string s] w fun e w' => ∃ N, e = .returned (.tuple #[.int .i64 (0), .iface 308 (.pointer (some ⟨N, 0, none⟩))]) ∧ w.heap.size ≤ N ∧ w'.heap[N]? = some (.cells #[.string ⟨#[65, 116, 111, 105]⟩, .string s, ev] 327 (0, 0)) ∧ Below w.heap.size w w' := Any.strconv_Atoi_syntax Tryz.laysC172 s hlim h ev w hv hev
open Go.RowKit in
theorem Tryz.strconv_Atoi_range (s : ByteArray) (hlim : s.size ≤ 281474976710656) (h : Lib.atoiAll s.data.toList = .range) (ev : Value) (w : World) (hv : w.cell? ⟨6, 0, none⟩ = some ev) (hev : ev = .nilIface ∨ ∃ te pe, ev = .iface te pe) :
  Calls Tryz.prog 198 #[.string s] w fun e w' => ∃ N, e = .returned (.tuple #[.int .i64 (Lib.atoiSat s.data.toList), .iface 308 (.pointer (some ⟨N, 0, none⟩))]) ∧ w.heap.size ≤ N ∧ w'.heap[N]? = some (.cells #[.string ⟨#[65, 116, 111, 105]⟩, .string s, ev] 327 (0, 0)) ∧ Below w.heap.size w w' := Any.strconv_Atoi_range Tryz.laysC172 s hlim h ev w hv hev
open Go.RowKit in
theorem Tryz.strconv_Atoi_syntax_var (s : ByteArray) (hlim : s.size ≤ 281474976710656) (h : Lib.atoiAll s.data.toList = .«syntax») (tp : TypeId) (p : Value) (w : World) (hvar : w.var? Tryz.prog "strconv.ErrSyntax" = some #[.iface tp p]) :
  Calls Tryz.prog 198 #[.string s] w fun e w' => ∃ N, e = .returned (.tuple #[.int .i64 0, .iface 308 (.pointer (some ⟨N, 0, none⟩))]) ∧ w.heap.size ≤ N ∧ w'.heap[N]? = some (.cells #[.string ⟨#[65, 116, 111, 105]⟩, .string s, .iface tp p] 327 (0, 0)) ∧ Below w.heap.size w w' := Any.strconv_Atoi_syntax_var Tryz.laysC172 s hlim h tp p w hvar
open Go.RowKit in
theorem Tryz.strconv_Atoi_range_var (s : ByteArray) (hlim : s.size ≤ 281474976710656) (h : Lib.atoiAll s.data.toList = .range) (tp : TypeId) (p : Value) (w : World) (hvar : w.var? Tryz.prog "strconv.ErrRange" = some #[.iface tp p]) :
  Calls Tryz.prog 198 #[.string s] w fun e w' => ∃ N, e = .returned (.tuple #[.int .i64 (Lib.atoiSat s.data.toList), .iface 308 (.pointer (some ⟨N, 0, none⟩))]) ∧ w.heap.size ≤ N ∧ w'.heap[N]? = some (.cells #[.string ⟨#[65, 116, 111, 105]⟩, .string s, .iface tp p] 327 (0, 0)) ∧ Below w.heap.size w w' := Any.strconv_Atoi_range_var Tryz.laysC172 s hlim h tp p w hvar
def Tryz.laysM145_ren : Go.Shelf.Ren := ⟨fun | 145 => 212 | 220 => 232 | 219 => 245 | 217 => 197 | 225 => 224 | 224 => 223 | 267 => 255 | 266 => 225 | 314 => 263 | n => n, fun | 9 => 9 | 4 => 4 | 59 => 286 | 3 => 3 | 5 => 5 | 46 => 292 | 146 => 345 | 51 => 301 | n => n, fun | 1 => 4 | n => n⟩
theorem Tryz.laysM145 : Go.Proofs.LaysM.n145 Tryz.prog Tryz.laysM145_ren := {
 mixed := by kernel_rfl
 f145 := Tryz.func212.trans (congrArg some (by kernel_rfl))
 f217 := Tryz.func197.trans (congrArg some (by kernel_rfl))
 f219 := Tryz.func245.trans (congrArg some (by kernel_rfl))
 f220 := Tryz.func232.trans (congrArg some (by kernel_rfl))
 f224 := Tryz.func223.trans (congrArg some (by kernel_rfl))
 f225 := Tryz.func224.trans (congrArg some (by kernel_rfl))
 f266 := Tryz.func225.trans (congrArg some (by kernel_rfl))
 f267 := Tryz.func255.trans (congrArg some (by kernel_rfl))
 f314 := Tryz.func263.trans (congrArg some (by kernel_rfl))
 t3 := Tryz.underlying3
 a3 := Tryz.isAgg3
 z3 := Tryz.sizeOf3
 v3 := Tryz.zeroValue3
 t4 := Tryz.underlying4
 a4 := Tryz.isAgg4
 z4 := Tryz.sizeOf4
 v4 := Tryz.zeroValue4
 t5 := Tryz.underlying5
 a5 := Tryz.isAgg5
 z5 := Tryz.sizeOf5
 v5 := Tryz.zeroValue5
 t9 := Tryz.underlying9
 a9 := Tryz.isAgg9
 z9 := Tryz.sizeOf9
 v9 := Tryz.zeroValue9
 t46 := Tryz.underlying292
 a46 := Tryz.isAgg292
 z46 := Tryz.sizeOf292
 v46 := Tryz.zeroValue292
 t51 := Tryz.underlying301
 a51 := Tryz.isAgg301
 z51 := Tryz.sizeOf301
 v51 := Tryz.zeroValue301
 t59 := Tryz.underlying286
 a59 := Tryz.isAgg286
 z59 := Tryz.sizeOf286
 v59 := Tryz.zeroValue286
 t146 := Tryz.underlying345
 a146 := Tryz.isAgg345
 z146 := Tryz.sizeOf345
 v146 := Tryz.zeroValue345
 g1 := by kernel_rfl
 i3 := by kernel_rfl
 i4 := by kernel_rfl
 i5 := by kernel_rfl
 i9 := by kernel_rfl
 i46 := by kernel_rfl
 i51 := by kernel_rfl
 i59 := by kernel_rfl
 i146 := by kernel_rfl
 m1 := by kernel_rfl
 s1_3 := fun w h => Go.Proofs.cell_of_shapedOpen_int (zero := #[.int .i64 0]) (t := 3) h (of_decide_eq_true (by kernel_rfl)) (by kernel_rfl) rfl (by kernel_rfl) (by kernel_rfl) Tryz.underlying3 }
open Go.RowKit Go.Lib in
theorem Tryz.strings_Cut_shaped (s sep : ByteArray) (w : World) (h : w.ShapedOpen Tryz.prog) (hs : s.size < 4294967281) :
  Calls Tryz.prog 212 #[.string s, .string sep] w fun e w' => e = .returned (.tuple #[.string ⟨(Lib.cut s.data.toList sep.data.toList).1.toArray⟩, .string ⟨(Lib.cut s.data.toList sep.data.toList).2.1.toArray⟩, .bool (Lib.cut s.data.toList sep.data.toList).2.2]) ∧ ∃ n, w' = w.drewN n := Any.strings_Cut_shaped Tryz.laysM145 s sep w h hs
def Tryz.laysM157_ren : Go.Shelf.Ren := ⟨fun | 157 => 165 | 229 => 201 | 199 => 202 | 261 => 229 | 311 => 242 | 312 => 243 | n => n, fun | 9 => 9 | 31 => 23 | 3 => 3 | 5 => 5 | 4 => 4 | 119 => 279 | 0 => 0 | 40 => 281 | 152 => 298 | 21 => 21 | 154 => 300 | 51 => 301 | 141 => 303 | 196 => 315 | 193 => 312 | 198 => 318 | 49 => 316 | 194 => 313 | 201 => 321 | 226 => 334 | 46 => 292 | 227 => 335 | n => n, fun | 0 => 0 | 6 => 3 | n => n⟩
theorem Tryz.laysM157 : Go.Proofs.LaysM.n157 Tryz.prog Tryz.laysM157_ren := {
 mixed := by kernel_rfl
 f157 := Tryz.func165.trans (congrArg some (by kernel_rfl))
 f199 := Tryz.func202.trans (congrArg some (by kernel_rfl))
 f229 := Tryz.func201.trans (congrArg some (by kernel_rfl))
 f261 := Tryz.func229.trans (congrArg some (by kernel_rfl))
 f311 := Tryz.func242.trans (congrArg some (by kernel_rfl))
 f312 := Tryz.func243.trans (congrArg some (by kernel_rfl))
 t0 := Tryz.underlying0
 a0 := Tryz.isAgg0
 z0 := Tryz.sizeOf0
 v0 := Tryz.zeroValue0
 t3 := Tryz.underlying3
 a3 := Tryz.isAgg3
 z3 := Tryz.sizeOf3
 v3 := Tryz.zeroValue3
 t4 := Tryz.underlying4
 a4 := Tryz.isAgg4
 z4 := Tryz.sizeOf4
 v4 := Tryz.zeroValue4
 t5 := Tryz.underlying5
 a5 := Tryz.isAgg5
 z5 := Tryz.sizeOf5
 v5 := Tryz.zeroValue5
 t9 := Tryz.underlying9
 a9 := Tryz.isAgg9
 z9 := Tryz.sizeOf9
 v9 := Tryz.zeroValue9
 t21 := Tryz.underlying21
 a21 := Tryz.isAgg21
 z21 := Tryz.sizeOf21
 v21 := Tryz.zeroValue21
 t31 := Tryz.underlying23
 a31 := Tryz.isAgg23
 z31 := Tryz.sizeOf23
 v31 := Tryz.zeroValue23
 t40 := Tryz.underlying281
 a40 := Tryz.isAgg281
 z40 := Tryz.sizeOf281
 v40 := Tryz.zeroValue281
 t46 := Tryz.underlying292
 a46 := Tryz.isAgg292
 z46 := Tryz.sizeOf292
 v46 := Tryz.zeroValue292
 t49 := Tryz.underlying316
 a49 := Tryz.isAgg316
 z49 := Tryz.sizeOf316
 v49 := Tryz.zeroValue316
 t51 := Tryz.underlying301
 a51 := Tryz.isAgg301
 z51 := Tryz.sizeOf301
 v51 := Tryz.zeroValue301
 t119 := Tryz.underlying279
 a119 := Tryz.isAgg279
 z119 := Tryz.sizeOf279
 t141 := Tryz.underlying303
 a141 := Tryz.isAgg303
 z141 := Tryz.sizeOf303
 v141 := Tryz.zeroValue303
 t152 := Tryz.underlying298
 a152 := Tryz.isAgg298
 z152 := Tryz.sizeOf298
 v152 := Tryz.zeroValue298
 t154 := Tryz.underlying300
 a154 := Tryz.isAgg300
 z154 := Tryz.sizeOf300
 v154 := Tryz.zeroValue300
 t193 := Tryz.underlying312
 a193 := Tryz.isAgg312
 z193 := Tryz.sizeOf312
 v193 := Tryz.zeroValue312
 t194 := Tryz.underlying313
 a194 := Tryz.isAgg313
 z194 := Tryz.sizeOf313
 v194 := Tryz.zeroValue313
 t196 := Tryz.underlying315
 a196 := Tryz.isAgg315
 z196 := Tryz.sizeOf315
 v196 := Tryz.zeroValue315
 t198 := Tryz.underlying318
 a198 := Tryz.isAgg318
 z198 := Tryz.sizeOf318
 v198 := Tryz.zeroValue318
 t201 := Tryz.underlying321
 a201 := Tryz.isAgg321
 z201 := Tryz.sizeOf321
 v201 := Tryz.zeroValue321
 t226 := Tryz.underlying334
 a226 := Tryz.isAgg334
 z226 := Tryz.sizeOf334
 v226 := Tryz.zeroValue334
 t227 := Tryz.underlying335
 a227 := Tryz.isAgg335
 z227 := Tryz.sizeOf335
 v227 := Tryz.zeroValue335
 g0 := by kernel_rfl
 g6 := by kernel_rfl
 i0 := by kernel_rfl
 i3 := by kernel_rfl
 i4 := by kernel_rfl
 i5 := by kernel_rfl
 i9 := by kernel_rfl
 i21 := by kernel_rfl
 i31 := by kernel_rfl
 i40 := by kernel_rfl
 i46 := by kernel_rfl
 i49 := by kernel_rfl
 i51 := by kernel_rfl
 i141 := by kernel_rfl
 i152 := by kernel_rfl
 i154 := by kernel_rfl
 i193 := by kernel_rfl
 i194 := by kernel_rfl
 i196 := by kernel_rfl
 i198 := by kernel_rfl
 i201 := by kernel_rfl
 i226 := by kernel_rfl
 i227 := by kernel_rfl
 m0 := by kernel_rfl
 m6 := by kernel_rfl }
open Go.RowKit Go.Lib in
theorem Tryz.strings_Fields_laid (s : ByteArray) (w : World) (hs : s.size < 4294967281) (hascii : ∀ (j : Nat) b, s.data.toList[j]? = some b → b.toNat < 128) (htab : Lib.TabIs Tryz.prog w "strings.asciiSpace" .u8 Lib.asciiSpaceTab) :
  Calls Tryz.prog 165 #[.string s] w fun e w' =>
   e = .returned (.slice (some ⟨w.heap.size, 0, none⟩) (Lib.fields s.data.toList).length (Lib.fields s.data.toList).length) ∧ w' = w.alloc (.cells ((Lib.fields s.data.toList).map fun l => Value.string ⟨l.toArray⟩).toArray 9) := Any.strings_Fields_laid Tryz.laysM157 s w hs hascii htab
def Tryz.lays151_ren : Go.Shelf.Ren := ⟨fun | 151 => 153 | 152 => 193 | 137 => 160 | 119 => 222 | 224 => 223 | 225 => 224 | 217 => 197 | 266 => 225 | n => n, fun | 9 => 9 | 21 => 21 | 4 => 4 | 3 => 3 | 5 => 5 | 0 => 0 | 46 => 292 | n => n, fun | n => n⟩
theorem Tryz.lays151 : Go.Proofs.Lays.n151 Tryz.prog Tryz.lays151_ren := {
 mixed := by kernel_rfl
 f119 := Tryz.func222.trans (congrArg some (by kernel_rfl))
 f137 := Tryz.func160.trans (congrArg some (by kernel_rfl))
 f151 := Tryz.func153.trans (congrArg some (by kernel_rfl))
 f152 := Tryz.func193.trans (congrArg some (by kernel_rfl))
 f217 := Tryz.func197.trans (congrArg some (by kernel_rfl))
 f224 := Tryz.func223.trans (congrArg some (by kernel_rfl))
 f225 := Tryz.func224.trans (congrArg some (by kernel_rfl))
 f266 := Tryz.func225.trans (congrArg some (by kernel_rfl))
 t0 := Tryz.underlying0
 a0 := Tryz.isAgg0
 z0 := Tryz.sizeOf0
 v0 := Tryz.zeroValue0
 t3 := Tryz.underlying3
 a3 := Tryz.isAgg3
 z3 := Tryz.sizeOf3
 v3 := Tryz.zeroValue3
 t4 := Tryz.underlying4
 a4 := Tryz.isAgg4
 z4 := Tryz.sizeOf4
 v4 := Tryz.zeroValue4
 t5 := Tryz.underlying5
 a5 := Tryz.isAgg5
 z5 := Tryz.sizeOf5
 v5 := Tryz.zeroValue5
 t9 := Tryz.underlying9
 a9 := Tryz.isAgg9
 z9 := Tryz.sizeOf9
 v9 := Tryz.zeroValue9
 t21 := Tryz.underlying21
 a21 := Tryz.isAgg21
 z21 := Tryz.sizeOf21
 v21 := Tryz.zeroValue21
 t46 := Tryz.underlying292
 a46 := Tryz.isAgg292
 z46 := Tryz.sizeOf292
 v46 := Tryz.zeroValue292 }
open Go.RowKit Go.Lib in
theorem Tryz.strings_ContainsRune_ascii (s : ByteArray) (r : Int) (w : World) (h0 : 0 ≤ r) (h1 : r < 128) :
  Calls Tryz.prog 153 #[.string s, .int .i32 r] w fun e w' => e = .returned (.bool (decide (0 ≤ Lib.indexByte s.data.toList r.toNat.toUInt8))) ∧ w' = w := Any.strings_ContainsRune_ascii Tryz.lays151 s r w h0 h1
end Go.Proofs
