/- The library's contracts at this seat, laid. No condition. -/
import Derived.Shelf.Strings.Trim
import Derived.Shelf.Small.Utf8
import Derived.Shelf.Small.Bits
import Derived.Shelf.Small.Strs
import Derived.Shelf.Small.Wraps
import Derived.Shelf.Strconv.Atoi
import Derived.Shelf.Strconv.Itoa0
import Derived.Shelf.Strconv.Itoa1
import Derived.Shelf.LaysM
import Derived.Shelf.Strconv.Itoa2
import Derived.Shelf.Strconv.Itoa3
import Derived.Shelf.Strconv.AtoiErrFast
import Derived.Shelf.Strconv.ParseIntEmpty
import Derived.Shelf.Strconv.AtoiFail
import Derived.Shelf.Strconv.Clone
import Derived.Shelf.Strconv.SyntaxError
import Derived.Shelf.LaysC
import Derived.Shelf.Strconv.ToError
import Derived.Shelf.Strconv.Lower
import Derived.Shelf.Strconv.ParseUint10
import Derived.Shelf.Strconv.ParseUint10Empty
import Derived.Shelf.Strconv.ParseUint10Any
import Derived.Shelf.Strconv.ParseInt10
import Derived.Shelf.Strconv.AtoiLong
import Derived.Shelf.Strconv.AtoiInnerAll
import Derived.Shelf.Strconv.RangeError
import Derived.Shelf.Strconv.ToErrorRange
import Derived.Shelf.Strconv.AtoiAll
import Derived.Shelf.Strconv.ErrVarAll
import Derived.Shelf.Strings.Search1
import Derived.Shelf.Strings.Search2
import Derived.Shelf.Strings.Search3
import Derived.Shelf.Strings.Cut
import Derived.Shelf.Strings.Shaped
import Derived.Shelf.Strings.Prefix
import Derived.Shelf.Strings.Fields
import Derived.Shelf.Strings.SplitShaped
import Derived.Shelf.Unicode.Latin
import Derived.Shelf.Unicode.Decode
import Derived.Shelf.Strings.Runes
import Derived.Shelf.Strings.AsciiSet
import Derived.Shelf.Unicode.DecodeSlow
import Derived.Shelf.Unicode.DecodeAny
import Derived.Shelf.Unicode.Is16White
import Derived.Shelf.Unicode.IsSpaceAny
import Derived.Shelf.Unicode.DecodeLast
import Derived.Shelf.Unicode.Is16Any
import Derived.Shelf.Unicode.Is32Any
import Derived.Shelf.Unicode.ExclAny
import Derived.Ground.Names2Prog
import Derived.Shelf.Slices.Clone
import Derived.Ground.SlgnProg
import Derived.Shelf.SlicesE.Clone
import Derived.Test.YtjcpllbpkdfakaaGreatDoorProg
namespace Go.Proofs
open Go.Shelf
def Tryz.lays160_ren : Go.Shelf.Ren := ⟨fun | 160 => 115 | 232 => 196 | 231 => 69 | 227 => 70 | 234 => 197 | 233 => 71 | 236 => 198 | 235 => 72 | 228 => 118 | 271 => 266 | 151 => 120 | 197 => 119 | 120 => 308 | 152 => 203 | 260 => 202 | 137 => 74 | 119 => 268 | 224 => 200 | 225 => 199 | 217 => 122 | 266 => 204 | n => n, fun | 9 => 9 | 4 => 4 | 3 => 3 | 5 => 5 | 117 => 193 | 116 => 192 | 0 => 0 | 124 => 196 | 21 => 21 | 105 => 272 | 46 => 264 | 119 => 373 | 139 => 376 | 138 => 375 | n => n, fun | 3 => 1 | 4 => 2 | n => n⟩
theorem Tryz.lays160 : Go.Proofs.Lays.n160 Tryz.prog Tryz.lays160_ren := {
  mixed := by kernel_rfl
  f119 := Tryz.func268.trans (congrArg some (by kernel_rfl))
  f120 := Tryz.func308.trans (congrArg some (by kernel_rfl))
  f137 := Tryz.func74.trans (congrArg some (by kernel_rfl))
  f151 := Tryz.func120.trans (congrArg some (by kernel_rfl))
  f152 := Tryz.func203.trans (congrArg some (by kernel_rfl))
  f160 := Tryz.func115.trans (congrArg some (by kernel_rfl))
  f197 := Tryz.func119.trans (congrArg some (by kernel_rfl))
  f217 := Tryz.func122.trans (congrArg some (by kernel_rfl))
  f224 := Tryz.func200.trans (congrArg some (by kernel_rfl))
  f225 := Tryz.func199.trans (congrArg some (by kernel_rfl))
  f227 := Tryz.func70.trans (congrArg some (by kernel_rfl))
  f228 := Tryz.func118.trans (congrArg some (by kernel_rfl))
  f231 := Tryz.func69.trans (congrArg some (by kernel_rfl))
  f232 := Tryz.func196.trans (congrArg some (by kernel_rfl))
  f233 := Tryz.func71.trans (congrArg some (by kernel_rfl))
  f234 := Tryz.func197.trans (congrArg some (by kernel_rfl))
  f235 := Tryz.func72.trans (congrArg some (by kernel_rfl))
  f236 := Tryz.func198.trans (congrArg some (by kernel_rfl))
  f260 := Tryz.func202.trans (congrArg some (by kernel_rfl))
  f266 := Tryz.func204.trans (congrArg some (by kernel_rfl))
  f271 := Tryz.func266.trans (congrArg some (by kernel_rfl))
  t0 := Tryz.underlying0
  a0 := Tryz.isAgg0
  z0 := Tryz.sizeOf0
  v0 := Tryz.zeroValue0
  t3 := Tryz.underlying3
  a3 := Tryz.isAgg3
  z3 := Tryz.sizeOf3
  v3 := Tryz.zeroValue3
  t4 := Tryz.underlying4
  a4 := Tryz.isAgg4
  z4 := Tryz.sizeOf4
  v4 := Tryz.zeroValue4
  t5 := Tryz.underlying5
  a5 := Tryz.isAgg5
  z5 := Tryz.sizeOf5
  v5 := Tryz.zeroValue5
  t9 := Tryz.underlying9
  a9 := Tryz.isAgg9
  z9 := Tryz.sizeOf9
  v9 := Tryz.zeroValue9
  t21 := Tryz.underlying21
  a21 := Tryz.isAgg21
  z21 := Tryz.sizeOf21
  v21 := Tryz.zeroValue21
  t46 := Tryz.underlying264
  a46 := Tryz.isAgg264
  z46 := Tryz.sizeOf264
  v46 := Tryz.zeroValue264
  t105 := Tryz.underlying272
  a105 := Tryz.isAgg272
  z105 := Tryz.sizeOf272
  v105 := Tryz.zeroValue272
  t116 := Tryz.underlying192
  a116 := Tryz.isAgg192
  z116 := Tryz.sizeOf192
  t117 := Tryz.underlying193
  a117 := Tryz.isAgg193
  z117 := Tryz.sizeOf193
  v117 := Tryz.zeroValue193
  t119 := Tryz.underlying373
  a119 := Tryz.isAgg373
  z119 := Tryz.sizeOf373
  t124 := Tryz.underlying196
  a124 := Tryz.isAgg196
  z124 := Tryz.sizeOf196
  v124 := Tryz.zeroValue196
  t138 := Tryz.underlying375
  a138 := Tryz.isAgg375
  z138 := Tryz.sizeOf375
  v138 := Tryz.zeroValue375
  t139 := Tryz.underlying376
  a139 := Tryz.isAgg376
  z139 := Tryz.sizeOf376
  v139 := Tryz.zeroValue376
  g3 := by kernel_rfl
  g4 := by kernel_rfl }
open Go.RowKit in
/-- strings.Trim: "Trim returns a slice of the string s with all leading and trailing Unicode code points contained in cutset removed.": AT A cutset OF ONE ASCII BYTE. THE WORLD BEHIND IT: as it was, or (where s is not empty) with ONE DRAW MORE off the tape: the statement 'return trimLeftByte(trimRightByte(s, c), c)' draws its order of evaluation. (LAID: no walk: one application.) -/
theorem Tryz.strings_Trim_one (s : ByteArray) (c : UInt8) (hc : c.toNat < 128) (w : World) (hs : s.size ≤ 9223372036854775807) :
    Calls Tryz.prog 115 #[.string s, .string ⟨#[c]⟩] w fun e w' => e = .returned (.string ⟨(Lib.trimB s.data.toList c).toArray⟩) ∧ (w' = w ∨ w' = w.drew) := Any.strings_Trim_one Tryz.lays160 s c hc w hs
def Tryz.lays137_ren : Go.Shelf.Ren := ⟨fun | 137 => 74 | 217 => 122 | 266 => 204 | n => n, fun | 9 => 9 | 5 => 5 | 3 => 3 | n => n, fun | n => n⟩
theorem Tryz.lays137 : Go.Proofs.Lays.n137 Tryz.prog Tryz.lays137_ren := {
  mixed := by kernel_rfl
  f137 := Tryz.func74.trans (congrArg some (by kernel_rfl))
  f217 := Tryz.func122.trans (congrArg some (by kernel_rfl))
  f266 := Tryz.func204.trans (congrArg some (by kernel_rfl))
  t3 := Tryz.underlying3
  a3 := Tryz.isAgg3
  z3 := Tryz.sizeOf3
  v3 := Tryz.zeroValue3
  t5 := Tryz.underlying5
  a5 := Tryz.isAgg5
  z5 := Tryz.sizeOf5
  v5 := Tryz.zeroValue5
  t9 := Tryz.underlying9
  a9 := Tryz.isAgg9
  z9 := Tryz.sizeOf9
  v9 := Tryz.zeroValue9 }
open Go.RowKit in
/-- strings.IndexByte: "IndexByte returns the index of the first instance of c in s, or -1 if c is not present in s.": IT RETURNS 'Lib.indexByte s c'; the world is as it was. (LAID: no walk: one application.) -/
theorem Tryz.strings_IndexByte (s : ByteArray) (c : Int) (w : World) :
    Calls Tryz.prog 74 #[.string s, .int .u8 c] w fun e w' => e = .returned (.int .i64 (Lib.indexByte s.data.toList c.toNat.toUInt8)) ∧ w' = w := Any.strings_IndexByte Tryz.lays137 s c w
def Tryz.laysM171_ren : Go.Shelf.Ren := ⟨fun | 171 => 207 | 243 => 272 | 246 => 315 | 283 => 331 | 284 => 332 | 285 => 333 | 286 => 334 | 129 => 347 | 317 => 346 | 318 => 348 | 319 => 349 | 320 => 350 | 337 => 358 | 338 => 359 | n => n, fun | 3 => 3 | 9 => 9 | 2 => 2 | 4 => 4 | 171 => 425 | 0 => 0 | 53 => 99 | 37 => 45 | 5 => 5 | 173 => 428 | 212 => 447 | 51 => 370 | 20 => 20 | 213 => 448 | 46 => 264 | 232 => 468 | 233 => 469 | n => n, fun | 17 => 7 | 18 => 8 | 19 => 9 | n => n⟩
theorem Tryz.laysM171 : Go.Proofs.LaysM.n171 Tryz.prog Tryz.laysM171_ren := {
  mixed := by kernel_rfl
  f129 := Tryz.func347.trans (congrArg some (by kernel_rfl))
  f171 := Tryz.func207.trans (congrArg some (by kernel_rfl))
  f243 := Tryz.func272.trans (congrArg some (by kernel_rfl))
  f246 := Tryz.func315.trans (congrArg some (by kernel_rfl))
  f283 := Tryz.func331.trans (congrArg some (by kernel_rfl))
  f284 := Tryz.func332.trans (congrArg some (by kernel_rfl))
  f285 := Tryz.func333.trans (congrArg some (by kernel_rfl))
  f286 := Tryz.func334.trans (congrArg some (by kernel_rfl))
  f317 := Tryz.func346.trans (congrArg some (by kernel_rfl))
  f318 := Tryz.func348.trans (congrArg some (by kernel_rfl))
  f319 := Tryz.func349.trans (congrArg some (by kernel_rfl))
  f320 := Tryz.func350.trans (congrArg some (by kernel_rfl))
  f337 := Tryz.func358.trans (congrArg some (by kernel_rfl))
  f338 := Tryz.func359.trans (congrArg some (by kernel_rfl))
  t0 := Tryz.underlying0
  a0 := Tryz.isAgg0
  z0 := Tryz.sizeOf0
  v0 := Tryz.zeroValue0
  t2 := Tryz.underlying2
  a2 := Tryz.isAgg2
  z2 := Tryz.sizeOf2
  v2 := Tryz.zeroValue2
  t3 := Tryz.underlying3
  a3 := Tryz.isAgg3
  z3 := Tryz.sizeOf3
  v3 := Tryz.zeroValue3
  t4 := Tryz.underlying4
  a4 := Tryz.isAgg4
  z4 := Tryz.sizeOf4
  v4 := Tryz.zeroValue4
  t5 := Tryz.underlying5
  a5 := Tryz.isAgg5
  z5 := Tryz.sizeOf5
  v5 := Tryz.zeroValue5
  t9 := Tryz.underlying9
  a9 := Tryz.isAgg9
  z9 := Tryz.sizeOf9
  v9 := Tryz.zeroValue9
  t20 := Tryz.underlying20
  a20 := Tryz.isAgg20
  z20 := Tryz.sizeOf20
  v20 := Tryz.zeroValue20
  t37 := Tryz.underlying45
  a37 := Tryz.isAgg45
  z37 := Tryz.sizeOf45
  v37 := Tryz.zeroValue45
  t46 := Tryz.underlying264
  a46 := Tryz.isAgg264
  z46 := Tryz.sizeOf264
  v46 := Tryz.zeroValue264
  t51 := Tryz.underlying370
  a51 := Tryz.isAgg370
  z51 := Tryz.sizeOf370
  v51 := Tryz.zeroValue370
  t53 := Tryz.underlying99
  a53 := Tryz.isAgg99
  z53 := Tryz.sizeOf99
  v53 := Tryz.zeroValue99
  t171 := Tryz.underlying425
  a171 := Tryz.isAgg425
  z171 := Tryz.sizeOf425
  v171 := Tryz.zeroValue425
  t173 := Tryz.underlying428
  a173 := Tryz.isAgg428
  z173 := Tryz.sizeOf428
  v173 := Tryz.zeroValue428
  t212 := Tryz.underlying447
  a212 := Tryz.isAgg447
  z212 := Tryz.sizeOf447
  v212 := Tryz.zeroValue447
  t213 := Tryz.underlying448
  a213 := Tryz.isAgg448
  z213 := Tryz.sizeOf448
  t232 := Tryz.underlying468
  a232 := Tryz.isAgg468
  z232 := Tryz.sizeOf468
  v232 := Tryz.zeroValue468
  t233 := Tryz.underlying469
  a233 := Tryz.isAgg469
  z233 := Tryz.sizeOf469
  v233 := Tryz.zeroValue469
  g17 := by kernel_rfl
  g18 := by kernel_rfl
  g19 := by kernel_rfl
  i0 := by kernel_rfl
  i2 := by kernel_rfl
  i3 := by kernel_rfl
  i4 := by kernel_rfl
  i5 := by kernel_rfl
  i9 := by kernel_rfl
  i20 := by kernel_rfl
  i37 := by kernel_rfl
  i46 := by kernel_rfl
  i51 := by kernel_rfl
  i53 := by kernel_rfl
  i171 := by kernel_rfl
  i173 := by kernel_rfl
  i212 := by kernel_rfl
  i232 := by kernel_rfl
  i233 := by kernel_rfl
  m17 := by kernel_rfl
  m18 := by kernel_rfl
  m19 := by kernel_rfl }
open Go.RowKit Go.Sort Go.Lib in
/-- strconv.Itoa: "Itoa is equivalent to FormatInt(int64(i), 10).": i's DECIMAL NUMERAL ('Lib.itoa': a '-' where i is negative, then the digits), FOR EVERY int. The world behind the call: the world before it, new blocks behind the heap (the library's 'var a [24]byte'), draws. (LAID: no walk: one application.) -/
theorem Tryz.strconv_Itoa (n : Int) (h0 : -9223372036854775808 ≤ n) (h1 : n ≤ 9223372036854775807) (w : World) (htab : Lib.TabIs Tryz.prog w "internal/strconv.uint64pow10" .u64 Lib.pow10Tab) :
    Calls Tryz.prog 207 #[.int .i64 n] w fun e w' => e = .returned (.string ⟨(Lib.itoa n).toArray⟩) ∧ ∃ k os, w' = grow (w.drewN k) os := Any.strconv_Itoa Tryz.laysM171 n h0 h1 w htab
def Tryz.laysC172_ren : Go.Shelf.Ren := ⟨fun | 172 => 206 | 244 => 270 | 245 => 271 | 247 => 310 | 279 => 311 | 280 => 312 | 281 => 313 | 282 => 314 | 287 => 328 | 316 => 329 | 171 => 207 | 205 => 330 | 321 => 344 | 322 => 345 | 243 => 272 | 246 => 315 | 283 => 331 | 284 => 332 | 285 => 333 | 286 => 334 | 129 => 347 | 317 => 346 | 318 => 348 | 319 => 349 | 320 => 350 | 337 => 358 | 338 => 359 | n => n, fun | 9 => 9 | 3 => 3 | 75 => 219 | 76 => 220 | 4 => 4 | 5 => 5 | 167 => 403 | 37 => 45 | 0 => 0 | 85 => 404 | 2 => 2 | 168 => 406 | 53 => 99 | 175 => 420 | 46 => 264 | 210 => 423 | 127 => 293 | 145 => 445 | 143 => 443 | 21 => 21 | 171 => 425 | 173 => 428 | 212 => 447 | 51 => 370 | 20 => 20 | 213 => 448 | 232 => 468 | 233 => 469 | 80 => 224 | n => n, fun | 15 => 5 | 16 => 6 | 17 => 7 | 18 => 8 | 19 => 9 | n => n⟩
theorem Tryz.laysC172 : Go.Proofs.LaysC.n172 Tryz.prog Tryz.laysC172_ren := {
  mixed := by kernel_rfl
  f129 := Tryz.func347.trans (congrArg some (by kernel_rfl))
  f171 := Tryz.func207.trans (congrArg some (by kernel_rfl))
  f172 := Tryz.func206.trans (congrArg some (by kernel_rfl))
  f205 := Tryz.func330.trans (congrArg some (by kernel_rfl))
  f243 := Tryz.func272.trans (congrArg some (by kernel_rfl))
  f244 := Tryz.func270.trans (congrArg some (by kernel_rfl))
  f245 := Tryz.func271.trans (congrArg some (by kernel_rfl))
  f246 := Tryz.func315.trans (congrArg some (by kernel_rfl))
  f247 := Tryz.func310.trans (congrArg some (by kernel_rfl))
  f279 := Tryz.func311.trans (congrArg some (by kernel_rfl))
  f280 := Tryz.func312.trans (congrArg some (by kernel_rfl))
  f281 := Tryz.func313.trans (congrArg some (by kernel_rfl))
  f282 := Tryz.func314.trans (congrArg some (by kernel_rfl))
  f283 := Tryz.func331.trans (congrArg some (by kernel_rfl))
  f284 := Tryz.func332.trans (congrArg some (by kernel_rfl))
  f285 := Tryz.func333.trans (congrArg some (by kernel_rfl))
  f286 := Tryz.func334.trans (congrArg some (by kernel_rfl))
  f287 := Tryz.func328.trans (congrArg some (by kernel_rfl))
  f316 := Tryz.func329.trans (congrArg some (by kernel_rfl))
  f317 := Tryz.func346.trans (congrArg some (by kernel_rfl))
  f318 := Tryz.func348.trans (congrArg some (by kernel_rfl))
  f319 := Tryz.func349.trans (congrArg some (by kernel_rfl))
  f320 := Tryz.func350.trans (congrArg some (by kernel_rfl))
  f321 := Tryz.func344.trans (congrArg some (by kernel_rfl))
  f322 := Tryz.func345.trans (congrArg some (by kernel_rfl))
  f337 := Tryz.func358.trans (congrArg some (by kernel_rfl))
  f338 := Tryz.func359.trans (congrArg some (by kernel_rfl))
  t0 := Tryz.underlying0
  a0 := Tryz.isAgg0
  z0 := Tryz.sizeOf0
  v0 := Tryz.zeroValue0
  t2 := Tryz.underlying2
  a2 := Tryz.isAgg2
  z2 := Tryz.sizeOf2
  v2 := Tryz.zeroValue2
  t3 := Tryz.underlying3
  a3 := Tryz.isAgg3
  z3 := Tryz.sizeOf3
  v3 := Tryz.zeroValue3
  t4 := Tryz.underlying4
  a4 := Tryz.isAgg4
  z4 := Tryz.sizeOf4
  v4 := Tryz.zeroValue4
  t5 := Tryz.underlying5
  a5 := Tryz.isAgg5
  z5 := Tryz.sizeOf5
  v5 := Tryz.zeroValue5
  t9 := Tryz.underlying9
  a9 := Tryz.isAgg9
  z9 := Tryz.sizeOf9
  v9 := Tryz.zeroValue9
  t20 := Tryz.underlying20
  a20 := Tryz.isAgg20
  z20 := Tryz.sizeOf20
  v20 := Tryz.zeroValue20
  t21 := Tryz.underlying21
  a21 := Tryz.isAgg21
  z21 := Tryz.sizeOf21
  v21 := Tryz.zeroValue21
  t37 := Tryz.underlying45
  a37 := Tryz.isAgg45
  z37 := Tryz.sizeOf45
  v37 := Tryz.zeroValue45
  t46 := Tryz.underlying264
  a46 := Tryz.isAgg264
  z46 := Tryz.sizeOf264
  v46 := Tryz.zeroValue264
  t51 := Tryz.underlying370
  a51 := Tryz.isAgg370
  z51 := Tryz.sizeOf370
  v51 := Tryz.zeroValue370
  t53 := Tryz.underlying99
  a53 := Tryz.isAgg99
  z53 := Tryz.sizeOf99
  v53 := Tryz.zeroValue99
  t75 := Tryz.underlying219
  a75 := Tryz.isAgg219
  z75 := Tryz.sizeOf219
  v75 := Tryz.zeroValue219
  t76 := Tryz.underlying220
  a76 := Tryz.isAgg220
  z76 := Tryz.sizeOf220
  v76 := Tryz.zeroValue220
  t85 := Tryz.underlying404
  a85 := Tryz.isAgg404
  z85 := Tryz.sizeOf404
  v85 := Tryz.zeroValue404
  t127 := Tryz.underlying293
  a127 := Tryz.isAgg293
  z127 := Tryz.sizeOf293
  v127 := Tryz.zeroValue293
  t143 := Tryz.underlying443
  a143 := Tryz.isAgg443
  z143 := Tryz.sizeOf443
  v143 := Tryz.zeroValue443
  t145 := Tryz.underlying445
  a145 := Tryz.isAgg445
  z145 := Tryz.sizeOf445
  v145 := Tryz.zeroValue445
  t167 := Tryz.underlying403
  a167 := Tryz.isAgg403
  z167 := Tryz.sizeOf403
  v167 := Tryz.zeroValue403
  t168 := Tryz.underlying406
  a168 := Tryz.isAgg406
  z168 := Tryz.sizeOf406
  v168 := Tryz.zeroValue406
  t171 := Tryz.underlying425
  a171 := Tryz.isAgg425
  z171 := Tryz.sizeOf425
  v171 := Tryz.zeroValue425
  t173 := Tryz.underlying428
  a173 := Tryz.isAgg428
  z173 := Tryz.sizeOf428
  v173 := Tryz.zeroValue428
  t175 := Tryz.underlying420
  a175 := Tryz.isAgg420
  z175 := Tryz.sizeOf420
  v175 := Tryz.zeroValue420
  t210 := Tryz.underlying423
  a210 := Tryz.isAgg423
  z210 := Tryz.sizeOf423
  v210 := Tryz.zeroValue423
  t212 := Tryz.underlying447
  a212 := Tryz.isAgg447
  z212 := Tryz.sizeOf447
  v212 := Tryz.zeroValue447
  t213 := Tryz.underlying448
  a213 := Tryz.isAgg448
  z213 := Tryz.sizeOf448
  t232 := Tryz.underlying468
  a232 := Tryz.isAgg468
  z232 := Tryz.sizeOf468
  v232 := Tryz.zeroValue468
  t233 := Tryz.underlying469
  a233 := Tryz.isAgg469
  z233 := Tryz.sizeOf469
  v233 := Tryz.zeroValue469
  g15 := by kernel_rfl
  g16 := by kernel_rfl
  g17 := by kernel_rfl
  g18 := by kernel_rfl
  g19 := by kernel_rfl
  t80 := Tryz.underlying224
  a80 := Tryz.isAgg224
  z80 := Tryz.sizeOf224
  v80 := Tryz.zeroValue224
  i0 := by kernel_rfl
  i2 := by kernel_rfl
  i3 := by kernel_rfl
  i4 := by kernel_rfl
  i5 := by kernel_rfl
  i9 := by kernel_rfl
  i20 := by kernel_rfl
  i21 := by kernel_rfl
  i37 := by kernel_rfl
  i46 := by kernel_rfl
  i51 := by kernel_rfl
  i53 := by kernel_rfl
  i75 := by kernel_rfl
  i76 := by kernel_rfl
  i80 := by kernel_rfl
  i85 := by kernel_rfl
  i127 := by kernel_rfl
  i143 := by kernel_rfl
  i145 := by kernel_rfl
  i167 := by kernel_rfl
  i168 := by kernel_rfl
  i171 := by kernel_rfl
  i173 := by kernel_rfl
  i175 := by kernel_rfl
  i210 := by kernel_rfl
  i212 := by kernel_rfl
  i232 := by kernel_rfl
  i233 := by kernel_rfl
  m15 := by kernel_rfl
  m16 := by kernel_rfl
  m17 := by kernel_rfl
  m18 := by kernel_rfl
  m19 := by kernel_rfl
  c0 := by kernel_rfl
  c2 := by kernel_rfl
  c3 := by kernel_rfl
  c4 := by kernel_rfl
  c5 := by kernel_rfl
  c9 := by kernel_rfl
  c20 := by kernel_rfl
  c21 := by kernel_rfl
  c37 := by kernel_rfl
  c46 := by kernel_rfl
  c51 := by kernel_rfl
  c53 := by kernel_rfl
  c75 := by kernel_rfl
  c76 := by kernel_rfl
  c80 := by kernel_rfl
  c85 := by kernel_rfl
  c127 := by kernel_rfl
  c143 := by kernel_rfl
  c145 := by kernel_rfl
  c167 := by kernel_rfl
  c168 := by kernel_rfl
  c171 := by kernel_rfl
  c173 := by kernel_rfl
  c175 := by kernel_rfl
  c210 := by kernel_rfl
  c212 := by kernel_rfl
  c213 := by kernel_rfl
  c232 := by kernel_rfl
  c233 := by kernel_rfl }
open Go.RowKit in
/-- strconv.Atoi, AT EVERY STRING THAT SPELLS AN int ('Lib.atoiAll .. = .ok v'; of whatever length: leading zeros count): v, AND NO ERROR. The world: as it was, or with the one new row that '[]byte(..)' lays. (LAID: no walk: one application.) -/
theorem Tryz.strconv_Atoi_ok (s : ByteArray) (hmax : s.size ≤ 9223372036854775806) (v : Int) (h : Lib.atoiAll s.data.toList = .ok v) (w : World) :
    Calls Tryz.prog 206 #[.string s] w fun e w' => e = .returned (.tuple #[.int .i64 v, .nilIface]) ∧ (w' = w ∨ ∃ t, w' = Lib.bytesWorld w 5 t) := Any.strconv_Atoi_ok Tryz.laysC172 s hmax v h w
open Go.RowKit in
/-- strconv.Atoi, AT EVERY STRING THAT IS NO DECIMAL NUMERAL ('.syntax'): 0, AND AN ERROR THAT IS NOT nil: a *NumError in a new block N: {Func: "Atoi", Num: s's bytes, Err: what the variable ErrSyntax holds}. Of what was there nothing has turned. (LAID: no walk: one application.) -/
theorem Tryz.strconv_Atoi_syntax (s : ByteArray) (hlim : s.size ≤ 281474976710656) (h : Lib.atoiAll s.data.toList = .«syntax») (ev : Value) (w : World) (hv : w.cell? ⟨5, 0, none⟩ = some ev) (hev : ev = .nilIface ∨ ∃ te pe, ev = .iface te pe) :
    Calls Tryz.prog 206 #[.string s] w fun e w' => ∃ N, e = .returned (.tuple #[.int .i64 (0), .iface 406 (.pointer (some ⟨N, 0, none⟩))]) ∧ w.heap.size ≤ N ∧ w'.heap[N]? = some (.cells #[.string ⟨#[65, 116, 111, 105]⟩, .string s, ev] 423 (0, 0)) ∧ Below w.heap.size w w' := Any.strconv_Atoi_syntax Tryz.laysC172 s hlim h ev w hv hev
open Go.RowKit in
/-- strconv.Atoi, AT EVERY NUMERAL THAT NO int HOLDS ('.range'): THE GREATEST OR THE LEAST int, BY THE SIGN ('Lib.atoiSat'), AND AN ERROR THAT IS NOT nil: a *NumError in a new block N: {Func: "Atoi", Num: s's bytes, Err: what the variable ErrRange holds}. Of what was there nothing has turned. (LAID: no walk: one application.) -/
theorem Tryz.strconv_Atoi_range (s : ByteArray) (hlim : s.size ≤ 281474976710656) (h : Lib.atoiAll s.data.toList = .range) (ev : Value) (w : World) (hv : w.cell? ⟨6, 0, none⟩ = some ev) (hev : ev = .nilIface ∨ ∃ te pe, ev = .iface te pe) :
    Calls Tryz.prog 206 #[.string s] w fun e w' => ∃ N, e = .returned (.tuple #[.int .i64 (Lib.atoiSat s.data.toList), .iface 406 (.pointer (some ⟨N, 0, none⟩))]) ∧ w.heap.size ≤ N ∧ w'.heap[N]? = some (.cells #[.string ⟨#[65, 116, 111, 105]⟩, .string s, ev] 423 (0, 0)) ∧ Below w.heap.size w w' := Any.strconv_Atoi_range Tryz.laysC172 s hlim h ev w hv hev
open Go.RowKit in
theorem Tryz.strconv_Atoi_syntax_var (s : ByteArray) (hlim : s.size ≤ 281474976710656) (h : Lib.atoiAll s.data.toList = .«syntax») (tp : TypeId) (p : Value) (w : World) (hvar : w.var? Tryz.prog "strconv.ErrSyntax" = some #[.iface tp p]) :
    Calls Tryz.prog 206 #[.string s] w fun e w' => ∃ N, e = .returned (.tuple #[.int .i64 0, .iface 406 (.pointer (some ⟨N, 0, none⟩))]) ∧ w.heap.size ≤ N ∧ w'.heap[N]? = some (.cells #[.string ⟨#[65, 116, 111, 105]⟩, .string s, .iface tp p] 423 (0, 0)) ∧ Below w.heap.size w w' := Any.strconv_Atoi_syntax_var Tryz.laysC172 s hlim h tp p w hvar
open Go.RowKit in
theorem Tryz.strconv_Atoi_range_var (s : ByteArray) (hlim : s.size ≤ 281474976710656) (h : Lib.atoiAll s.data.toList = .range) (tp : TypeId) (p : Value) (w : World) (hvar : w.var? Tryz.prog "strconv.ErrRange" = some #[.iface tp p]) :
    Calls Tryz.prog 206 #[.string s] w fun e w' => ∃ N, e = .returned (.tuple #[.int .i64 (Lib.atoiSat s.data.toList), .iface 406 (.pointer (some ⟨N, 0, none⟩))]) ∧ w.heap.size ≤ N ∧ w'.heap[N]? = some (.cells #[.string ⟨#[65, 116, 111, 105]⟩, .string s, .iface tp p] 423 (0, 0)) ∧ Below w.heap.size w w' := Any.strconv_Atoi_range_var Tryz.laysC172 s hlim h tp p w hvar
def Tryz.laysM145_ren : Go.Shelf.Ren := ⟨fun | 145 => 290 | 220 => 324 | 219 => 117 | 217 => 122 | 225 => 199 | 224 => 200 | 267 => 201 | 266 => 204 | 314 => 267 | n => n, fun | 9 => 9 | 4 => 4 | 59 => 391 | 3 => 3 | 5 => 5 | 46 => 264 | 146 => 371 | 51 => 370 | n => n, fun | 1 => 0 | n => n⟩
theorem Tryz.laysM145 : Go.Proofs.LaysM.n145 Tryz.prog Tryz.laysM145_ren := {
  mixed := by kernel_rfl
  f145 := Tryz.func290.trans (congrArg some (by kernel_rfl))
  f217 := Tryz.func122.trans (congrArg some (by kernel_rfl))
  f219 := Tryz.func117.trans (congrArg some (by kernel_rfl))
  f220 := Tryz.func324.trans (congrArg some (by kernel_rfl))
  f224 := Tryz.func200.trans (congrArg some (by kernel_rfl))
  f225 := Tryz.func199.trans (congrArg some (by kernel_rfl))
  f266 := Tryz.func204.trans (congrArg some (by kernel_rfl))
  f267 := Tryz.func201.trans (congrArg some (by kernel_rfl))
  f314 := Tryz.func267.trans (congrArg some (by kernel_rfl))
  t3 := Tryz.underlying3
  a3 := Tryz.isAgg3
  z3 := Tryz.sizeOf3
  v3 := Tryz.zeroValue3
  t4 := Tryz.underlying4
  a4 := Tryz.isAgg4
  z4 := Tryz.sizeOf4
  v4 := Tryz.zeroValue4
  t5 := Tryz.underlying5
  a5 := Tryz.isAgg5
  z5 := Tryz.sizeOf5
  v5 := Tryz.zeroValue5
  t9 := Tryz.underlying9
  a9 := Tryz.isAgg9
  z9 := Tryz.sizeOf9
  v9 := Tryz.zeroValue9
  t46 := Tryz.underlying264
  a46 := Tryz.isAgg264
  z46 := Tryz.sizeOf264
  v46 := Tryz.zeroValue264
  t51 := Tryz.underlying370
  a51 := Tryz.isAgg370
  z51 := Tryz.sizeOf370
  v51 := Tryz.zeroValue370
  t59 := Tryz.underlying391
  a59 := Tryz.isAgg391
  z59 := Tryz.sizeOf391
  v59 := Tryz.zeroValue391
  t146 := Tryz.underlying371
  a146 := Tryz.isAgg371
  z146 := Tryz.sizeOf371
  v146 := Tryz.zeroValue371
  g1 := by kernel_rfl
  i3 := by kernel_rfl
  i4 := by kernel_rfl
  i5 := by kernel_rfl
  i9 := by kernel_rfl
  i46 := by kernel_rfl
  i51 := by kernel_rfl
  i59 := by kernel_rfl
  i146 := by kernel_rfl
  m1 := by kernel_rfl
  s1_3 := fun w h => Go.Proofs.cell_of_shapedOpen_int (zero := #[.int .i64 0]) (t := 3) h (of_decide_eq_true (by kernel_rfl)) (by kernel_rfl) rfl (by kernel_rfl) (by kernel_rfl) Tryz.underlying3 }
open Go.RowKit Go.Lib in
theorem Tryz.strings_Cut_shaped (s sep : ByteArray) (w : World) (h : w.ShapedOpen Tryz.prog) (hs : s.size < 4294967281) :
    Calls Tryz.prog 290 #[.string s, .string sep] w fun e w' => e = .returned (.tuple #[.string ⟨(Lib.cut s.data.toList sep.data.toList).1.toArray⟩, .string ⟨(Lib.cut s.data.toList sep.data.toList).2.1.toArray⟩, .bool (Lib.cut s.data.toList sep.data.toList).2.2]) ∧ ∃ n, w' = w.drewN n := Any.strings_Cut_shaped Tryz.laysM145 s sep w h hs
def Tryz.laysM157_ren : Go.Shelf.Ren := ⟨fun | 157 => 218 | 229 => 278 | 199 => 279 | 261 => 322 | 311 => 340 | 312 => 341 | n => n, fun | 9 => 9 | 31 => 25 | 3 => 3 | 5 => 5 | 4 => 4 | 119 => 373 | 0 => 0 | 40 => 377 | 152 => 414 | 21 => 21 | 154 => 416 | 51 => 370 | 141 => 418 | 196 => 434 | 193 => 431 | 198 => 437 | 49 => 435 | 194 => 432 | 201 => 440 | 226 => 455 | 46 => 264 | 227 => 456 | n => n, fun | 0 => 3 | 6 => 4 | n => n⟩
theorem Tryz.laysM157 : Go.Proofs.LaysM.n157 Tryz.prog Tryz.laysM157_ren := {
  mixed := by kernel_rfl
  f157 := Tryz.func218.trans (congrArg some (by kernel_rfl))
  f199 := Tryz.func279.trans (congrArg some (by kernel_rfl))
  f229 := Tryz.func278.trans (congrArg some (by kernel_rfl))
  f261 := Tryz.func322.trans (congrArg some (by kernel_rfl))
  f311 := Tryz.func340.trans (congrArg some (by kernel_rfl))
  f312 := Tryz.func341.trans (congrArg some (by kernel_rfl))
  t0 := Tryz.underlying0
  a0 := Tryz.isAgg0
  z0 := Tryz.sizeOf0
  v0 := Tryz.zeroValue0
  t3 := Tryz.underlying3
  a3 := Tryz.isAgg3
  z3 := Tryz.sizeOf3
  v3 := Tryz.zeroValue3
  t4 := Tryz.underlying4
  a4 := Tryz.isAgg4
  z4 := Tryz.sizeOf4
  v4 := Tryz.zeroValue4
  t5 := Tryz.underlying5
  a5 := Tryz.isAgg5
  z5 := Tryz.sizeOf5
  v5 := Tryz.zeroValue5
  t9 := Tryz.underlying9
  a9 := Tryz.isAgg9
  z9 := Tryz.sizeOf9
  v9 := Tryz.zeroValue9
  t21 := Tryz.underlying21
  a21 := Tryz.isAgg21
  z21 := Tryz.sizeOf21
  v21 := Tryz.zeroValue21
  t31 := Tryz.underlying25
  a31 := Tryz.isAgg25
  z31 := Tryz.sizeOf25
  v31 := Tryz.zeroValue25
  t40 := Tryz.underlying377
  a40 := Tryz.isAgg377
  z40 := Tryz.sizeOf377
  v40 := Tryz.zeroValue377
  t46 := Tryz.underlying264
  a46 := Tryz.isAgg264
  z46 := Tryz.sizeOf264
  v46 := Tryz.zeroValue264
  t49 := Tryz.underlying435
  a49 := Tryz.isAgg435
  z49 := Tryz.sizeOf435
  v49 := Tryz.zeroValue435
  t51 := Tryz.underlying370
  a51 := Tryz.isAgg370
  z51 := Tryz.sizeOf370
  v51 := Tryz.zeroValue370
  t119 := Tryz.underlying373
  a119 := Tryz.isAgg373
  z119 := Tryz.sizeOf373
  t141 := Tryz.underlying418
  a141 := Tryz.isAgg418
  z141 := Tryz.sizeOf418
  v141 := Tryz.zeroValue418
  t152 := Tryz.underlying414
  a152 := Tryz.isAgg414
  z152 := Tryz.sizeOf414
  v152 := Tryz.zeroValue414
  t154 := Tryz.underlying416
  a154 := Tryz.isAgg416
  z154 := Tryz.sizeOf416
  v154 := Tryz.zeroValue416
  t193 := Tryz.underlying431
  a193 := Tryz.isAgg431
  z193 := Tryz.sizeOf431
  v193 := Tryz.zeroValue431
  t194 := Tryz.underlying432
  a194 := Tryz.isAgg432
  z194 := Tryz.sizeOf432
  v194 := Tryz.zeroValue432
  t196 := Tryz.underlying434
  a196 := Tryz.isAgg434
  z196 := Tryz.sizeOf434
  v196 := Tryz.zeroValue434
  t198 := Tryz.underlying437
  a198 := Tryz.isAgg437
  z198 := Tryz.sizeOf437
  v198 := Tryz.zeroValue437
  t201 := Tryz.underlying440
  a201 := Tryz.isAgg440
  z201 := Tryz.sizeOf440
  v201 := Tryz.zeroValue440
  t226 := Tryz.underlying455
  a226 := Tryz.isAgg455
  z226 := Tryz.sizeOf455
  v226 := Tryz.zeroValue455
  t227 := Tryz.underlying456
  a227 := Tryz.isAgg456
  z227 := Tryz.sizeOf456
  v227 := Tryz.zeroValue456
  g0 := by kernel_rfl
  g6 := by kernel_rfl
  i0 := by kernel_rfl
  i3 := by kernel_rfl
  i4 := by kernel_rfl
  i5 := by kernel_rfl
  i9 := by kernel_rfl
  i21 := by kernel_rfl
  i31 := by kernel_rfl
  i40 := by kernel_rfl
  i46 := by kernel_rfl
  i49 := by kernel_rfl
  i51 := by kernel_rfl
  i141 := by kernel_rfl
  i152 := by kernel_rfl
  i154 := by kernel_rfl
  i193 := by kernel_rfl
  i194 := by kernel_rfl
  i196 := by kernel_rfl
  i198 := by kernel_rfl
  i201 := by kernel_rfl
  i226 := by kernel_rfl
  i227 := by kernel_rfl
  m0 := by kernel_rfl
  m6 := by kernel_rfl }
open Go.RowKit Go.Lib in
/-- strings.Fields on ASCII bytes. (The table: 'Lib.TabIs', as strings.TrimSpace's contract asks it.) (LAID: no walk: one application.) -/
theorem Tryz.strings_Fields_laid (s : ByteArray) (w : World) (hs : s.size < 4294967281) (hascii : ∀ (j : Nat) b, s.data.toList[j]? = some b → b.toNat < 128) (htab : Lib.TabIs Tryz.prog w "strings.asciiSpace" .u8 Lib.asciiSpaceTab) :
    Calls Tryz.prog 218 #[.string s] w fun e w' =>
      e = .returned (.slice (some ⟨w.heap.size, 0, none⟩) (Lib.fields s.data.toList).length (Lib.fields s.data.toList).length) ∧ w' = w.alloc (.cells ((Lib.fields s.data.toList).map fun l => Value.string ⟨l.toArray⟩).toArray 9) := Any.strings_Fields_laid Tryz.laysM157 s w hs hascii htab
def Tryz.lays151_ren : Go.Shelf.Ren := ⟨fun | 151 => 120 | 152 => 203 | 137 => 74 | 119 => 268 | 224 => 200 | 225 => 199 | 217 => 122 | 266 => 204 | n => n, fun | 9 => 9 | 21 => 21 | 4 => 4 | 3 => 3 | 5 => 5 | 0 => 0 | 46 => 264 | n => n, fun | n => n⟩
theorem Tryz.lays151 : Go.Proofs.Lays.n151 Tryz.prog Tryz.lays151_ren := {
  mixed := by kernel_rfl
  f119 := Tryz.func268.trans (congrArg some (by kernel_rfl))
  f137 := Tryz.func74.trans (congrArg some (by kernel_rfl))
  f151 := Tryz.func120.trans (congrArg some (by kernel_rfl))
  f152 := Tryz.func203.trans (congrArg some (by kernel_rfl))
  f217 := Tryz.func122.trans (congrArg some (by kernel_rfl))
  f224 := Tryz.func200.trans (congrArg some (by kernel_rfl))
  f225 := Tryz.func199.trans (congrArg some (by kernel_rfl))
  f266 := Tryz.func204.trans (congrArg some (by kernel_rfl))
  t0 := Tryz.underlying0
  a0 := Tryz.isAgg0
  z0 := Tryz.sizeOf0
  v0 := Tryz.zeroValue0
  t3 := Tryz.underlying3
  a3 := Tryz.isAgg3
  z3 := Tryz.sizeOf3
  v3 := Tryz.zeroValue3
  t4 := Tryz.underlying4
  a4 := Tryz.isAgg4
  z4 := Tryz.sizeOf4
  v4 := Tryz.zeroValue4
  t5 := Tryz.underlying5
  a5 := Tryz.isAgg5
  z5 := Tryz.sizeOf5
  v5 := Tryz.zeroValue5
  t9 := Tryz.underlying9
  a9 := Tryz.isAgg9
  z9 := Tryz.sizeOf9
  v9 := Tryz.zeroValue9
  t21 := Tryz.underlying21
  a21 := Tryz.isAgg21
  z21 := Tryz.sizeOf21
  v21 := Tryz.zeroValue21
  t46 := Tryz.underlying264
  a46 := Tryz.isAgg264
  z46 := Tryz.sizeOf264
  v46 := Tryz.zeroValue264 }
open Go.RowKit Go.Lib in
theorem Tryz.strings_ContainsRune_ascii (s : ByteArray) (r : Int) (w : World) (h0 : 0 ≤ r) (h1 : r < 128) :
    Calls Tryz.prog 120 #[.string s, .int .i32 r] w fun e w' => e = .returned (.bool (decide (0 ≤ Lib.indexByte s.data.toList r.toNat.toUInt8))) ∧ w' = w := Any.strings_ContainsRune_ascii Tryz.lays151 s r w h0 h1
end Go.Proofs
