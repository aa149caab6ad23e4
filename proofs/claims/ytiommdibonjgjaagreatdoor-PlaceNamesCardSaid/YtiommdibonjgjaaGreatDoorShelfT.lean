/-
  DERIVED: THE SHELF's CONTRACTS AT THIS DUMP, IN PLAIN WORDS (tools/lay-plain.mjs out of 'TryzShelf10s.lean', which tools/lay-shelf.mjs wrote): THE SAME DECLARATIONS UNDER THE SAME NAMES: 'import', 'namespace', 'open', 'def', 'theorem' AND NOTHING ELSE: no command of the shelf's: FOR A HAND-IN. Each laying: the table of numbers ('.._ren') and one theorem, a field a fact of the dump's own or the kernel's comparison; each contract: ONE APPLICATION.
-/
import Derived.Shelf.Strings.Trim
import Derived.Shelf.Small.Utf8
import Derived.Shelf.Small.Bits
import Derived.Shelf.Small.Strs
import Derived.Shelf.Small.Wraps
import Derived.Shelf.Strconv.Atoi
import Derived.Shelf.Strconv.Itoa0
import Derived.Shelf.Strconv.Itoa1
import Derived.Shelf.LaysM
import Derived.Shelf.Strconv.Itoa2
import Derived.Shelf.Strconv.Itoa3
import Derived.Shelf.Strconv.AtoiErrFast
import Derived.Shelf.Strconv.ParseIntEmpty
import Derived.Shelf.Strconv.AtoiFail
import Derived.Shelf.Strconv.Clone
import Derived.Shelf.Strconv.SyntaxError
import Derived.Shelf.LaysC
import Derived.Shelf.Strconv.ToError
import Derived.Shelf.Strconv.Lower
import Derived.Shelf.Strconv.ParseUint10
import Derived.Shelf.Strconv.ParseUint10Empty
import Derived.Shelf.Strconv.ParseUint10Any
import Derived.Shelf.Strconv.ParseInt10
import Derived.Shelf.Strconv.AtoiLong
import Derived.Shelf.Strconv.AtoiInnerAll
import Derived.Shelf.Strconv.RangeError
import Derived.Shelf.Strconv.ToErrorRange
import Derived.Shelf.Strconv.AtoiAll
import Derived.Shelf.Strconv.ErrVarAll
import Derived.Shelf.Strings.Search1
import Derived.Shelf.Strings.Search2
import Derived.Shelf.Strings.Search3
import Derived.Shelf.Strings.Cut
import Derived.Shelf.Strings.Shaped
import Derived.Shelf.Strings.Prefix
import Derived.Shelf.Strings.Fields
import Derived.Shelf.Strings.SplitShaped
import Derived.Shelf.Unicode.Latin
import Derived.Shelf.Unicode.Decode
import Derived.Shelf.Strings.Runes
import Derived.Shelf.Strings.AsciiSet
import Derived.Shelf.Unicode.DecodeSlow
import Derived.Shelf.Unicode.DecodeAny
import Derived.Shelf.Unicode.Is16White
import Derived.Shelf.Unicode.IsSpaceAny
import Derived.Shelf.Unicode.DecodeLast
import Derived.Shelf.Unicode.Is16Any
import Derived.Shelf.Unicode.Is32Any
import Derived.Shelf.Unicode.ExclAny
import Derived.Ground.Names2Prog
import Derived.Shelf.Slices.Clone
import Derived.Ground.SlgnProg
import Derived.Shelf.SlicesE.Clone
import Derived.Test.YtiommdibonjgjaaGreatDoorProg
namespace Go.Proofs
open Go.Shelf
def Tryz.lays160_ren : Go.Shelf.Ren := ⟨fun | 160 => 101 | 232 => 153 | 231 => 152 | 227 => 154 | 234 => 156 | 233 => 155 | 236 => 158 | 235 => 157 | 228 => 224 | 271 => 227 | 151 => 226 | 197 => 225 | 120 => 284 | 152 => 283 | 260 => 282 | 137 => 249 | 119 => 319 | 224 => 320 | 225 => 321 | 217 => 294 | 266 => 335 | n => n, fun | 9 => 9 | 4 => 4 | 3 => 3 | 5 => 5 | 117 => 274 | 116 => 273 | 0 => 0 | 124 => 277 | 21 => 21 | 105 => 340 | 46 => 393 | 119 => 399 | 139 => 414 | 138 => 413 | n => n, fun | 3 => 1 | 4 => 2 | n => n⟩
theorem Tryz.lays160 : Go.Proofs.Lays.n160 Tryz.prog Tryz.lays160_ren := {
  mixed := by kernel_rfl
  f119 := Tryz.func319.trans (congrArg some (by kernel_rfl))
  f120 := Tryz.func284.trans (congrArg some (by kernel_rfl))
  f137 := Tryz.func249.trans (congrArg some (by kernel_rfl))
  f151 := Tryz.func226.trans (congrArg some (by kernel_rfl))
  f152 := Tryz.func283.trans (congrArg some (by kernel_rfl))
  f160 := Tryz.func101.trans (congrArg some (by kernel_rfl))
  f197 := Tryz.func225.trans (congrArg some (by kernel_rfl))
  f217 := Tryz.func294.trans (congrArg some (by kernel_rfl))
  f224 := Tryz.func320.trans (congrArg some (by kernel_rfl))
  f225 := Tryz.func321.trans (congrArg some (by kernel_rfl))
  f227 := Tryz.func154.trans (congrArg some (by kernel_rfl))
  f228 := Tryz.func224.trans (congrArg some (by kernel_rfl))
  f231 := Tryz.func152.trans (congrArg some (by kernel_rfl))
  f232 := Tryz.func153.trans (congrArg some (by kernel_rfl))
  f233 := Tryz.func155.trans (congrArg some (by kernel_rfl))
  f234 := Tryz.func156.trans (congrArg some (by kernel_rfl))
  f235 := Tryz.func157.trans (congrArg some (by kernel_rfl))
  f236 := Tryz.func158.trans (congrArg some (by kernel_rfl))
  f260 := Tryz.func282.trans (congrArg some (by kernel_rfl))
  f266 := Tryz.func335.trans (congrArg some (by kernel_rfl))
  f271 := Tryz.func227.trans (congrArg some (by kernel_rfl))
  t0 := Tryz.underlying0
  a0 := Tryz.isAgg0
  z0 := Tryz.sizeOf0
  v0 := Tryz.zeroValue0
  t3 := Tryz.underlying3
  a3 := Tryz.isAgg3
  z3 := Tryz.sizeOf3
  v3 := Tryz.zeroValue3
  t4 := Tryz.underlying4
  a4 := Tryz.isAgg4
  z4 := Tryz.sizeOf4
  v4 := Tryz.zeroValue4
  t5 := Tryz.underlying5
  a5 := Tryz.isAgg5
  z5 := Tryz.sizeOf5
  v5 := Tryz.zeroValue5
  t9 := Tryz.underlying9
  a9 := Tryz.isAgg9
  z9 := Tryz.sizeOf9
  v9 := Tryz.zeroValue9
  t21 := Tryz.underlying21
  a21 := Tryz.isAgg21
  z21 := Tryz.sizeOf21
  v21 := Tryz.zeroValue21
  t46 := Tryz.underlying393
  a46 := Tryz.isAgg393
  z46 := Tryz.sizeOf393
  v46 := Tryz.zeroValue393
  t105 := Tryz.underlying340
  a105 := Tryz.isAgg340
  z105 := Tryz.sizeOf340
  v105 := Tryz.zeroValue340
  t116 := Tryz.underlying273
  a116 := Tryz.isAgg273
  z116 := Tryz.sizeOf273
  t117 := Tryz.underlying274
  a117 := Tryz.isAgg274
  z117 := Tryz.sizeOf274
  v117 := Tryz.zeroValue274
  t119 := Tryz.underlying399
  a119 := Tryz.isAgg399
  z119 := Tryz.sizeOf399
  t124 := Tryz.underlying277
  a124 := Tryz.isAgg277
  z124 := Tryz.sizeOf277
  v124 := Tryz.zeroValue277
  t138 := Tryz.underlying413
  a138 := Tryz.isAgg413
  z138 := Tryz.sizeOf413
  v138 := Tryz.zeroValue413
  t139 := Tryz.underlying414
  a139 := Tryz.isAgg414
  z139 := Tryz.sizeOf414
  v139 := Tryz.zeroValue414
  g3 := by kernel_rfl
  g4 := by kernel_rfl }
open Go.RowKit in
/-- strings.Trim: "Trim returns a slice of the string s with all leading and trailing Unicode code points contained in cutset removed.": AT A cutset OF ONE ASCII BYTE. THE WORLD BEHIND IT: as it was, or (where s is not empty) with ONE DRAW MORE off the tape: the statement 'return trimLeftByte(trimRightByte(s, c), c)' draws its order of evaluation. (LAID: no walk: one application.) -/
theorem Tryz.strings_Trim_one (s : ByteArray) (c : UInt8) (hc : c.toNat < 128) (w : World) (hs : s.size ≤ 9223372036854775807) :
    Calls Tryz.prog 101 #[.string s, .string ⟨#[c]⟩] w fun e w' => e = .returned (.string ⟨(Lib.trimB s.data.toList c).toArray⟩) ∧ (w' = w ∨ w' = w.drew) := Any.strings_Trim_one Tryz.lays160 s c hc w hs
def Tryz.lays137_ren : Go.Shelf.Ren := ⟨fun | 137 => 249 | 217 => 294 | 266 => 335 | n => n, fun | 9 => 9 | 5 => 5 | 3 => 3 | n => n, fun | n => n⟩
theorem Tryz.lays137 : Go.Proofs.Lays.n137 Tryz.prog Tryz.lays137_ren := {
  mixed := by kernel_rfl
  f137 := Tryz.func249.trans (congrArg some (by kernel_rfl))
  f217 := Tryz.func294.trans (congrArg some (by kernel_rfl))
  f266 := Tryz.func335.trans (congrArg some (by kernel_rfl))
  t3 := Tryz.underlying3
  a3 := Tryz.isAgg3
  z3 := Tryz.sizeOf3
  v3 := Tryz.zeroValue3
  t5 := Tryz.underlying5
  a5 := Tryz.isAgg5
  z5 := Tryz.sizeOf5
  v5 := Tryz.zeroValue5
  t9 := Tryz.underlying9
  a9 := Tryz.isAgg9
  z9 := Tryz.sizeOf9
  v9 := Tryz.zeroValue9 }
open Go.RowKit in
/-- strings.IndexByte: "IndexByte returns the index of the first instance of c in s, or -1 if c is not present in s.": IT RETURNS 'Lib.indexByte s c'; the world is as it was. (LAID: no walk: one application.) -/
theorem Tryz.strings_IndexByte (s : ByteArray) (c : Int) (w : World) :
    Calls Tryz.prog 249 #[.string s, .int .u8 c] w fun e w' => e = .returned (.int .i64 (Lib.indexByte s.data.toList c.toNat.toUInt8)) ∧ w' = w := Any.strings_IndexByte Tryz.lays137 s c w
def Tryz.laysM171_ren : Go.Shelf.Ren := ⟨fun | 171 => 296 | 243 => 338 | 246 => 358 | 283 => 369 | 284 => 370 | 285 => 371 | 286 => 372 | 129 => 334 | 317 => 376 | 318 => 377 | 319 => 378 | 320 => 379 | 337 => 381 | 338 => 382 | n => n, fun | 3 => 3 | 9 => 9 | 2 => 2 | 4 => 4 | 171 => 466 | 0 => 0 | 53 => 96 | 37 => 130 | 5 => 5 | 173 => 468 | 212 => 478 | 51 => 425 | 20 => 20 | 213 => 479 | 46 => 393 | 232 => 482 | 233 => 483 | n => n, fun | 17 => 7 | 18 => 8 | 19 => 9 | n => n⟩
theorem Tryz.laysM171 : Go.Proofs.LaysM.n171 Tryz.prog Tryz.laysM171_ren := {
  mixed := by kernel_rfl
  f129 := Tryz.func334.trans (congrArg some (by kernel_rfl))
  f171 := Tryz.func296.trans (congrArg some (by kernel_rfl))
  f243 := Tryz.func338.trans (congrArg some (by kernel_rfl))
  f246 := Tryz.func358.trans (congrArg some (by kernel_rfl))
  f283 := Tryz.func369.trans (congrArg some (by kernel_rfl))
  f284 := Tryz.func370.trans (congrArg some (by kernel_rfl))
  f285 := Tryz.func371.trans (congrArg some (by kernel_rfl))
  f286 := Tryz.func372.trans (congrArg some (by kernel_rfl))
  f317 := Tryz.func376.trans (congrArg some (by kernel_rfl))
  f318 := Tryz.func377.trans (congrArg some (by kernel_rfl))
  f319 := Tryz.func378.trans (congrArg some (by kernel_rfl))
  f320 := Tryz.func379.trans (congrArg some (by kernel_rfl))
  f337 := Tryz.func381.trans (congrArg some (by kernel_rfl))
  f338 := Tryz.func382.trans (congrArg some (by kernel_rfl))
  t0 := Tryz.underlying0
  a0 := Tryz.isAgg0
  z0 := Tryz.sizeOf0
  v0 := Tryz.zeroValue0
  t2 := Tryz.underlying2
  a2 := Tryz.isAgg2
  z2 := Tryz.sizeOf2
  v2 := Tryz.zeroValue2
  t3 := Tryz.underlying3
  a3 := Tryz.isAgg3
  z3 := Tryz.sizeOf3
  v3 := Tryz.zeroValue3
  t4 := Tryz.underlying4
  a4 := Tryz.isAgg4
  z4 := Tryz.sizeOf4
  v4 := Tryz.zeroValue4
  t5 := Tryz.underlying5
  a5 := Tryz.isAgg5
  z5 := Tryz.sizeOf5
  v5 := Tryz.zeroValue5
  t9 := Tryz.underlying9
  a9 := Tryz.isAgg9
  z9 := Tryz.sizeOf9
  v9 := Tryz.zeroValue9
  t20 := Tryz.underlying20
  a20 := Tryz.isAgg20
  z20 := Tryz.sizeOf20
  v20 := Tryz.zeroValue20
  t37 := Tryz.underlying130
  a37 := Tryz.isAgg130
  z37 := Tryz.sizeOf130
  v37 := Tryz.zeroValue130
  t46 := Tryz.underlying393
  a46 := Tryz.isAgg393
  z46 := Tryz.sizeOf393
  v46 := Tryz.zeroValue393
  t51 := Tryz.underlying425
  a51 := Tryz.isAgg425
  z51 := Tryz.sizeOf425
  v51 := Tryz.zeroValue425
  t53 := Tryz.underlying96
  a53 := Tryz.isAgg96
  z53 := Tryz.sizeOf96
  v53 := Tryz.zeroValue96
  t171 := Tryz.underlying466
  a171 := Tryz.isAgg466
  z171 := Tryz.sizeOf466
  v171 := Tryz.zeroValue466
  t173 := Tryz.underlying468
  a173 := Tryz.isAgg468
  z173 := Tryz.sizeOf468
  v173 := Tryz.zeroValue468
  t212 := Tryz.underlying478
  a212 := Tryz.isAgg478
  z212 := Tryz.sizeOf478
  v212 := Tryz.zeroValue478
  t213 := Tryz.underlying479
  a213 := Tryz.isAgg479
  z213 := Tryz.sizeOf479
  t232 := Tryz.underlying482
  a232 := Tryz.isAgg482
  z232 := Tryz.sizeOf482
  v232 := Tryz.zeroValue482
  t233 := Tryz.underlying483
  a233 := Tryz.isAgg483
  z233 := Tryz.sizeOf483
  v233 := Tryz.zeroValue483
  g17 := by kernel_rfl
  g18 := by kernel_rfl
  g19 := by kernel_rfl
  i0 := by kernel_rfl
  i2 := by kernel_rfl
  i3 := by kernel_rfl
  i4 := by kernel_rfl
  i5 := by kernel_rfl
  i9 := by kernel_rfl
  i20 := by kernel_rfl
  i37 := by kernel_rfl
  i46 := by kernel_rfl
  i51 := by kernel_rfl
  i53 := by kernel_rfl
  i171 := by kernel_rfl
  i173 := by kernel_rfl
  i212 := by kernel_rfl
  i232 := by kernel_rfl
  i233 := by kernel_rfl
  m17 := by kernel_rfl
  m18 := by kernel_rfl
  m19 := by kernel_rfl }
open Go.RowKit Go.Sort Go.Lib in
/-- strconv.Itoa: "Itoa is equivalent to FormatInt(int64(i), 10).": i's DECIMAL NUMERAL ('Lib.itoa': a '-' where i is negative, then the digits), FOR EVERY int. The world behind the call: the world before it, new blocks behind the heap (the library's 'var a [24]byte'), draws. (LAID: no walk: one application.) -/
theorem Tryz.strconv_Itoa (n : Int) (h0 : -9223372036854775808 ≤ n) (h1 : n ≤ 9223372036854775807) (w : World) (htab : Lib.TabIs Tryz.prog w "internal/strconv.uint64pow10" .u64 Lib.pow10Tab) :
    Calls Tryz.prog 296 #[.int .i64 n] w fun e w' => e = .returned (.string ⟨(Lib.itoa n).toArray⟩) ∧ ∃ k os, w' = grow (w.drewN k) os := Any.strconv_Itoa Tryz.laysM171 n h0 h1 w htab
def Tryz.laysC172_ren : Go.Shelf.Ren := ⟨fun | 172 => 295 | 244 => 336 | 245 => 337 | 247 => 353 | 279 => 354 | 280 => 355 | 281 => 356 | 282 => 357 | 287 => 366 | 316 => 367 | 171 => 296 | 205 => 368 | 321 => 374 | 322 => 375 | 243 => 338 | 246 => 358 | 283 => 369 | 284 => 370 | 285 => 371 | 286 => 372 | 129 => 334 | 317 => 376 | 318 => 377 | 319 => 378 | 320 => 379 | 337 => 381 | 338 => 382 | n => n, fun | 9 => 9 | 3 => 3 | 75 => 395 | 76 => 396 | 4 => 4 | 5 => 5 | 167 => 440 | 37 => 130 | 0 => 0 | 85 => 441 | 2 => 2 | 168 => 443 | 53 => 96 | 175 => 461 | 46 => 393 | 210 => 464 | 127 => 473 | 145 => 476 | 143 => 474 | 21 => 21 | 171 => 466 | 173 => 468 | 212 => 478 | 51 => 425 | 20 => 20 | 213 => 479 | 232 => 482 | 233 => 483 | 80 => 317 | n => n, fun | 15 => 5 | 16 => 6 | 17 => 7 | 18 => 8 | 19 => 9 | n => n⟩
theorem Tryz.laysC172 : Go.Proofs.LaysC.n172 Tryz.prog Tryz.laysC172_ren := {
  mixed := by kernel_rfl
  f129 := Tryz.func334.trans (congrArg some (by kernel_rfl))
  f171 := Tryz.func296.trans (congrArg some (by kernel_rfl))
  f172 := Tryz.func295.trans (congrArg some (by kernel_rfl))
  f205 := Tryz.func368.trans (congrArg some (by kernel_rfl))
  f243 := Tryz.func338.trans (congrArg some (by kernel_rfl))
  f244 := Tryz.func336.trans (congrArg some (by kernel_rfl))
  f245 := Tryz.func337.trans (congrArg some (by kernel_rfl))
  f246 := Tryz.func358.trans (congrArg some (by kernel_rfl))
  f247 := Tryz.func353.trans (congrArg some (by kernel_rfl))
  f279 := Tryz.func354.trans (congrArg some (by kernel_rfl))
  f280 := Tryz.func355.trans (congrArg some (by kernel_rfl))
  f281 := Tryz.func356.trans (congrArg some (by kernel_rfl))
  f282 := Tryz.func357.trans (congrArg some (by kernel_rfl))
  f283 := Tryz.func369.trans (congrArg some (by kernel_rfl))
  f284 := Tryz.func370.trans (congrArg some (by kernel_rfl))
  f285 := Tryz.func371.trans (congrArg some (by kernel_rfl))
  f286 := Tryz.func372.trans (congrArg some (by kernel_rfl))
  f287 := Tryz.func366.trans (congrArg some (by kernel_rfl))
  f316 := Tryz.func367.trans (congrArg some (by kernel_rfl))
  f317 := Tryz.func376.trans (congrArg some (by kernel_rfl))
  f318 := Tryz.func377.trans (congrArg some (by kernel_rfl))
  f319 := Tryz.func378.trans (congrArg some (by kernel_rfl))
  f320 := Tryz.func379.trans (congrArg some (by kernel_rfl))
  f321 := Tryz.func374.trans (congrArg some (by kernel_rfl))
  f322 := Tryz.func375.trans (congrArg some (by kernel_rfl))
  f337 := Tryz.func381.trans (congrArg some (by kernel_rfl))
  f338 := Tryz.func382.trans (congrArg some (by kernel_rfl))
  t0 := Tryz.underlying0
  a0 := Tryz.isAgg0
  z0 := Tryz.sizeOf0
  v0 := Tryz.zeroValue0
  t2 := Tryz.underlying2
  a2 := Tryz.isAgg2
  z2 := Tryz.sizeOf2
  v2 := Tryz.zeroValue2
  t3 := Tryz.underlying3
  a3 := Tryz.isAgg3
  z3 := Tryz.sizeOf3
  v3 := Tryz.zeroValue3
  t4 := Tryz.underlying4
  a4 := Tryz.isAgg4
  z4 := Tryz.sizeOf4
  v4 := Tryz.zeroValue4
  t5 := Tryz.underlying5
  a5 := Tryz.isAgg5
  z5 := Tryz.sizeOf5
  v5 := Tryz.zeroValue5
  t9 := Tryz.underlying9
  a9 := Tryz.isAgg9
  z9 := Tryz.sizeOf9
  v9 := Tryz.zeroValue9
  t20 := Tryz.underlying20
  a20 := Tryz.isAgg20
  z20 := Tryz.sizeOf20
  v20 := Tryz.zeroValue20
  t21 := Tryz.underlying21
  a21 := Tryz.isAgg21
  z21 := Tryz.sizeOf21
  v21 := Tryz.zeroValue21
  t37 := Tryz.underlying130
  a37 := Tryz.isAgg130
  z37 := Tryz.sizeOf130
  v37 := Tryz.zeroValue130
  t46 := Tryz.underlying393
  a46 := Tryz.isAgg393
  z46 := Tryz.sizeOf393
  v46 := Tryz.zeroValue393
  t51 := Tryz.underlying425
  a51 := Tryz.isAgg425
  z51 := Tryz.sizeOf425
  v51 := Tryz.zeroValue425
  t53 := Tryz.underlying96
  a53 := Tryz.isAgg96
  z53 := Tryz.sizeOf96
  v53 := Tryz.zeroValue96
  t75 := Tryz.underlying395
  a75 := Tryz.isAgg395
  z75 := Tryz.sizeOf395
  v75 := Tryz.zeroValue395
  t76 := Tryz.underlying396
  a76 := Tryz.isAgg396
  z76 := Tryz.sizeOf396
  v76 := Tryz.zeroValue396
  t85 := Tryz.underlying441
  a85 := Tryz.isAgg441
  z85 := Tryz.sizeOf441
  v85 := Tryz.zeroValue441
  t127 := Tryz.underlying473
  a127 := Tryz.isAgg473
  z127 := Tryz.sizeOf473
  v127 := Tryz.zeroValue473
  t143 := Tryz.underlying474
  a143 := Tryz.isAgg474
  z143 := Tryz.sizeOf474
  v143 := Tryz.zeroValue474
  t145 := Tryz.underlying476
  a145 := Tryz.isAgg476
  z145 := Tryz.sizeOf476
  v145 := Tryz.zeroValue476
  t167 := Tryz.underlying440
  a167 := Tryz.isAgg440
  z167 := Tryz.sizeOf440
  v167 := Tryz.zeroValue440
  t168 := Tryz.underlying443
  a168 := Tryz.isAgg443
  z168 := Tryz.sizeOf443
  v168 := Tryz.zeroValue443
  t171 := Tryz.underlying466
  a171 := Tryz.isAgg466
  z171 := Tryz.sizeOf466
  v171 := Tryz.zeroValue466
  t173 := Tryz.underlying468
  a173 := Tryz.isAgg468
  z173 := Tryz.sizeOf468
  v173 := Tryz.zeroValue468
  t175 := Tryz.underlying461
  a175 := Tryz.isAgg461
  z175 := Tryz.sizeOf461
  v175 := Tryz.zeroValue461
  t210 := Tryz.underlying464
  a210 := Tryz.isAgg464
  z210 := Tryz.sizeOf464
  v210 := Tryz.zeroValue464
  t212 := Tryz.underlying478
  a212 := Tryz.isAgg478
  z212 := Tryz.sizeOf478
  v212 := Tryz.zeroValue478
  t213 := Tryz.underlying479
  a213 := Tryz.isAgg479
  z213 := Tryz.sizeOf479
  t232 := Tryz.underlying482
  a232 := Tryz.isAgg482
  z232 := Tryz.sizeOf482
  v232 := Tryz.zeroValue482
  t233 := Tryz.underlying483
  a233 := Tryz.isAgg483
  z233 := Tryz.sizeOf483
  v233 := Tryz.zeroValue483
  g15 := by kernel_rfl
  g16 := by kernel_rfl
  g17 := by kernel_rfl
  g18 := by kernel_rfl
  g19 := by kernel_rfl
  t80 := Tryz.underlying317
  a80 := Tryz.isAgg317
  z80 := Tryz.sizeOf317
  v80 := Tryz.zeroValue317
  i0 := by kernel_rfl
  i2 := by kernel_rfl
  i3 := by kernel_rfl
  i4 := by kernel_rfl
  i5 := by kernel_rfl
  i9 := by kernel_rfl
  i20 := by kernel_rfl
  i21 := by kernel_rfl
  i37 := by kernel_rfl
  i46 := by kernel_rfl
  i51 := by kernel_rfl
  i53 := by kernel_rfl
  i75 := by kernel_rfl
  i76 := by kernel_rfl
  i80 := by kernel_rfl
  i85 := by kernel_rfl
  i127 := by kernel_rfl
  i143 := by kernel_rfl
  i145 := by kernel_rfl
  i167 := by kernel_rfl
  i168 := by kernel_rfl
  i171 := by kernel_rfl
  i173 := by kernel_rfl
  i175 := by kernel_rfl
  i210 := by kernel_rfl
  i212 := by kernel_rfl
  i232 := by kernel_rfl
  i233 := by kernel_rfl
  m15 := by kernel_rfl
  m16 := by kernel_rfl
  m17 := by kernel_rfl
  m18 := by kernel_rfl
  m19 := by kernel_rfl
  c0 := by kernel_rfl
  c2 := by kernel_rfl
  c3 := by kernel_rfl
  c4 := by kernel_rfl
  c5 := by kernel_rfl
  c9 := by kernel_rfl
  c20 := by kernel_rfl
  c21 := by kernel_rfl
  c37 := by kernel_rfl
  c46 := by kernel_rfl
  c51 := by kernel_rfl
  c53 := by kernel_rfl
  c75 := by kernel_rfl
  c76 := by kernel_rfl
  c80 := by kernel_rfl
  c85 := by kernel_rfl
  c127 := by kernel_rfl
  c143 := by kernel_rfl
  c145 := by kernel_rfl
  c167 := by kernel_rfl
  c168 := by kernel_rfl
  c171 := by kernel_rfl
  c173 := by kernel_rfl
  c175 := by kernel_rfl
  c210 := by kernel_rfl
  c212 := by kernel_rfl
  c213 := by kernel_rfl
  c232 := by kernel_rfl
  c233 := by kernel_rfl }
open Go.RowKit in
/-- strconv.Atoi, AT EVERY STRING THAT SPELLS AN int ('Lib.atoiAll .. = .ok v'; of whatever length: leading zeros count): v, AND NO ERROR. The world: as it was, or with the one new row that '[]byte(..)' lays. (LAID: no walk: one application.) -/
theorem Tryz.strconv_Atoi_ok (s : ByteArray) (hmax : s.size ≤ 9223372036854775806) (v : Int) (h : Lib.atoiAll s.data.toList = .ok v) (w : World) :
    Calls Tryz.prog 295 #[.string s] w fun e w' => e = .returned (.tuple #[.int .i64 v, .nilIface]) ∧ (w' = w ∨ ∃ t, w' = Lib.bytesWorld w 5 t) := Any.strconv_Atoi_ok Tryz.laysC172 s hmax v h w
open Go.RowKit in
/-- strconv.Atoi, AT EVERY STRING THAT IS NO DECIMAL NUMERAL ('.syntax'): 0, AND AN ERROR THAT IS NOT nil: a *NumError in a new block N: {Func: "Atoi", Num: s's bytes, Err: what the variable ErrSyntax holds}. Of what was there nothing has turned. (LAID: no walk: one application.) -/
theorem Tryz.strconv_Atoi_syntax (s : ByteArray) (hlim : s.size ≤ 281474976710656) (h : Lib.atoiAll s.data.toList = Lib.NumEnd.syntax) (ev : Value) (w : World) (hv : w.cell? ⟨5, 0, none⟩ = some ev) (hev : ev = .nilIface ∨ ∃ te pe, ev = .iface te pe) :
    Calls Tryz.prog 295 #[.string s] w fun e w' => ∃ N, e = .returned (.tuple #[.int .i64 (0), .iface 443 (.pointer (some ⟨N, 0, none⟩))]) ∧ w.heap.size ≤ N ∧ w'.heap[N]? = some (.cells #[.string ⟨#[65, 116, 111, 105]⟩, .string s, ev] 464 (0, 0)) ∧ Below w.heap.size w w' := Any.strconv_Atoi_syntax Tryz.laysC172 s hlim h ev w hv hev
open Go.RowKit in
/-- strconv.Atoi, AT EVERY NUMERAL THAT NO int HOLDS ('.range'): THE GREATEST OR THE LEAST int, BY THE SIGN ('Lib.atoiSat'), AND AN ERROR THAT IS NOT nil: a *NumError in a new block N: {Func: "Atoi", Num: s's bytes, Err: what the variable ErrRange holds}. Of what was there nothing has turned. (LAID: no walk: one application.) -/
theorem Tryz.strconv_Atoi_range (s : ByteArray) (hlim : s.size ≤ 281474976710656) (h : Lib.atoiAll s.data.toList = .range) (ev : Value) (w : World) (hv : w.cell? ⟨6, 0, none⟩ = some ev) (hev : ev = .nilIface ∨ ∃ te pe, ev = .iface te pe) :
    Calls Tryz.prog 295 #[.string s] w fun e w' => ∃ N, e = .returned (.tuple #[.int .i64 (Lib.atoiSat s.data.toList), .iface 443 (.pointer (some ⟨N, 0, none⟩))]) ∧ w.heap.size ≤ N ∧ w'.heap[N]? = some (.cells #[.string ⟨#[65, 116, 111, 105]⟩, .string s, ev] 464 (0, 0)) ∧ Below w.heap.size w w' := Any.strconv_Atoi_range Tryz.laysC172 s hlim h ev w hv hev
open Go.RowKit in
theorem Tryz.strconv_Atoi_syntax_var (s : ByteArray) (hlim : s.size ≤ 281474976710656) (h : Lib.atoiAll s.data.toList = Lib.NumEnd.syntax) (tp : TypeId) (p : Value) (w : World) (hvar : w.var? Tryz.prog "strconv.ErrSyntax" = some #[.iface tp p]) :
    Calls Tryz.prog 295 #[.string s] w fun e w' => ∃ N, e = .returned (.tuple #[.int .i64 0, .iface 443 (.pointer (some ⟨N, 0, none⟩))]) ∧ w.heap.size ≤ N ∧ w'.heap[N]? = some (.cells #[.string ⟨#[65, 116, 111, 105]⟩, .string s, .iface tp p] 464 (0, 0)) ∧ Below w.heap.size w w' := Any.strconv_Atoi_syntax_var Tryz.laysC172 s hlim h tp p w hvar
open Go.RowKit in
theorem Tryz.strconv_Atoi_range_var (s : ByteArray) (hlim : s.size ≤ 281474976710656) (h : Lib.atoiAll s.data.toList = .range) (tp : TypeId) (p : Value) (w : World) (hvar : w.var? Tryz.prog "strconv.ErrRange" = some #[.iface tp p]) :
    Calls Tryz.prog 295 #[.string s] w fun e w' => ∃ N, e = .returned (.tuple #[.int .i64 (Lib.atoiSat s.data.toList), .iface 443 (.pointer (some ⟨N, 0, none⟩))]) ∧ w.heap.size ≤ N ∧ w'.heap[N]? = some (.cells #[.string ⟨#[65, 116, 111, 105]⟩, .string s, .iface tp p] 464 (0, 0)) ∧ Below w.heap.size w w' := Any.strconv_Atoi_range_var Tryz.laysC172 s hlim h tp p w hvar
def Tryz.laysM145_ren : Go.Shelf.Ren := ⟨fun | 145 => 309 | 220 => 342 | 219 => 362 | 217 => 294 | 225 => 321 | 224 => 320 | 267 => 373 | 266 => 335 | 314 => 380 | n => n, fun | 9 => 9 | 4 => 4 | 59 => 406 | 3 => 3 | 5 => 5 | 46 => 393 | 146 => 480 | 51 => 425 | n => n, fun | 1 => 4 | n => n⟩
theorem Tryz.laysM145 : Go.Proofs.LaysM.n145 Tryz.prog Tryz.laysM145_ren := {
  mixed := by kernel_rfl
  f145 := Tryz.func309.trans (congrArg some (by kernel_rfl))
  f217 := Tryz.func294.trans (congrArg some (by kernel_rfl))
  f219 := Tryz.func362.trans (congrArg some (by kernel_rfl))
  f220 := Tryz.func342.trans (congrArg some (by kernel_rfl))
  f224 := Tryz.func320.trans (congrArg some (by kernel_rfl))
  f225 := Tryz.func321.trans (congrArg some (by kernel_rfl))
  f266 := Tryz.func335.trans (congrArg some (by kernel_rfl))
  f267 := Tryz.func373.trans (congrArg some (by kernel_rfl))
  f314 := Tryz.func380.trans (congrArg some (by kernel_rfl))
  t3 := Tryz.underlying3
  a3 := Tryz.isAgg3
  z3 := Tryz.sizeOf3
  v3 := Tryz.zeroValue3
  t4 := Tryz.underlying4
  a4 := Tryz.isAgg4
  z4 := Tryz.sizeOf4
  v4 := Tryz.zeroValue4
  t5 := Tryz.underlying5
  a5 := Tryz.isAgg5
  z5 := Tryz.sizeOf5
  v5 := Tryz.zeroValue5
  t9 := Tryz.underlying9
  a9 := Tryz.isAgg9
  z9 := Tryz.sizeOf9
  v9 := Tryz.zeroValue9
  t46 := Tryz.underlying393
  a46 := Tryz.isAgg393
  z46 := Tryz.sizeOf393
  v46 := Tryz.zeroValue393
  t51 := Tryz.underlying425
  a51 := Tryz.isAgg425
  z51 := Tryz.sizeOf425
  v51 := Tryz.zeroValue425
  t59 := Tryz.underlying406
  a59 := Tryz.isAgg406
  z59 := Tryz.sizeOf406
  v59 := Tryz.zeroValue406
  t146 := Tryz.underlying480
  a146 := Tryz.isAgg480
  z146 := Tryz.sizeOf480
  v146 := Tryz.zeroValue480
  g1 := by kernel_rfl
  i3 := by kernel_rfl
  i4 := by kernel_rfl
  i5 := by kernel_rfl
  i9 := by kernel_rfl
  i46 := by kernel_rfl
  i51 := by kernel_rfl
  i59 := by kernel_rfl
  i146 := by kernel_rfl
  m1 := by kernel_rfl
  s1_3 := fun w h => Go.Proofs.cell_of_shapedOpen_int (zero := #[.int .i64 0]) (t := 3) h (of_decide_eq_true (by kernel_rfl)) (by kernel_rfl) rfl (by kernel_rfl) (by kernel_rfl) Tryz.underlying3 }
open Go.RowKit Go.Lib in
theorem Tryz.strings_Cut_shaped (s sep : ByteArray) (w : World) (h : w.ShapedOpen Tryz.prog) (hs : s.size < 4294967281) :
    Calls Tryz.prog 309 #[.string s, .string sep] w fun e w' => e = .returned (.tuple #[.string ⟨(Lib.cut s.data.toList sep.data.toList).1.toArray⟩, .string ⟨(Lib.cut s.data.toList sep.data.toList).2.1.toArray⟩, .bool (Lib.cut s.data.toList sep.data.toList).2.2]) ∧ ∃ n, w' = w.drewN n := Any.strings_Cut_shaped Tryz.laysM145 s sep w h hs
def Tryz.laysM157_ren : Go.Shelf.Ren := ⟨fun | 157 => 254 | 229 => 298 | 199 => 299 | 261 => 339 | 311 => 359 | 312 => 360 | n => n, fun | 9 => 9 | 31 => 23 | 3 => 3 | 5 => 5 | 4 => 4 | 119 => 399 | 0 => 0 | 40 => 401 | 152 => 428 | 21 => 21 | 154 => 430 | 51 => 425 | 141 => 432 | 196 => 450 | 193 => 447 | 198 => 453 | 49 => 451 | 194 => 448 | 201 => 456 | 226 => 470 | 46 => 393 | 227 => 471 | n => n, fun | 0 => 0 | 6 => 3 | n => n⟩
theorem Tryz.laysM157 : Go.Proofs.LaysM.n157 Tryz.prog Tryz.laysM157_ren := {
  mixed := by kernel_rfl
  f157 := Tryz.func254.trans (congrArg some (by kernel_rfl))
  f199 := Tryz.func299.trans (congrArg some (by kernel_rfl))
  f229 := Tryz.func298.trans (congrArg some (by kernel_rfl))
  f261 := Tryz.func339.trans (congrArg some (by kernel_rfl))
  f311 := Tryz.func359.trans (congrArg some (by kernel_rfl))
  f312 := Tryz.func360.trans (congrArg some (by kernel_rfl))
  t0 := Tryz.underlying0
  a0 := Tryz.isAgg0
  z0 := Tryz.sizeOf0
  v0 := Tryz.zeroValue0
  t3 := Tryz.underlying3
  a3 := Tryz.isAgg3
  z3 := Tryz.sizeOf3
  v3 := Tryz.zeroValue3
  t4 := Tryz.underlying4
  a4 := Tryz.isAgg4
  z4 := Tryz.sizeOf4
  v4 := Tryz.zeroValue4
  t5 := Tryz.underlying5
  a5 := Tryz.isAgg5
  z5 := Tryz.sizeOf5
  v5 := Tryz.zeroValue5
  t9 := Tryz.underlying9
  a9 := Tryz.isAgg9
  z9 := Tryz.sizeOf9
  v9 := Tryz.zeroValue9
  t21 := Tryz.underlying21
  a21 := Tryz.isAgg21
  z21 := Tryz.sizeOf21
  v21 := Tryz.zeroValue21
  t31 := Tryz.underlying23
  a31 := Tryz.isAgg23
  z31 := Tryz.sizeOf23
  v31 := Tryz.zeroValue23
  t40 := Tryz.underlying401
  a40 := Tryz.isAgg401
  z40 := Tryz.sizeOf401
  v40 := Tryz.zeroValue401
  t46 := Tryz.underlying393
  a46 := Tryz.isAgg393
  z46 := Tryz.sizeOf393
  v46 := Tryz.zeroValue393
  t49 := Tryz.underlying451
  a49 := Tryz.isAgg451
  z49 := Tryz.sizeOf451
  v49 := Tryz.zeroValue451
  t51 := Tryz.underlying425
  a51 := Tryz.isAgg425
  z51 := Tryz.sizeOf425
  v51 := Tryz.zeroValue425
  t119 := Tryz.underlying399
  a119 := Tryz.isAgg399
  z119 := Tryz.sizeOf399
  t141 := Tryz.underlying432
  a141 := Tryz.isAgg432
  z141 := Tryz.sizeOf432
  v141 := Tryz.zeroValue432
  t152 := Tryz.underlying428
  a152 := Tryz.isAgg428
  z152 := Tryz.sizeOf428
  v152 := Tryz.zeroValue428
  t154 := Tryz.underlying430
  a154 := Tryz.isAgg430
  z154 := Tryz.sizeOf430
  v154 := Tryz.zeroValue430
  t193 := Tryz.underlying447
  a193 := Tryz.isAgg447
  z193 := Tryz.sizeOf447
  v193 := Tryz.zeroValue447
  t194 := Tryz.underlying448
  a194 := Tryz.isAgg448
  z194 := Tryz.sizeOf448
  v194 := Tryz.zeroValue448
  t196 := Tryz.underlying450
  a196 := Tryz.isAgg450
  z196 := Tryz.sizeOf450
  v196 := Tryz.zeroValue450
  t198 := Tryz.underlying453
  a198 := Tryz.isAgg453
  z198 := Tryz.sizeOf453
  v198 := Tryz.zeroValue453
  t201 := Tryz.underlying456
  a201 := Tryz.isAgg456
  z201 := Tryz.sizeOf456
  v201 := Tryz.zeroValue456
  t226 := Tryz.underlying470
  a226 := Tryz.isAgg470
  z226 := Tryz.sizeOf470
  v226 := Tryz.zeroValue470
  t227 := Tryz.underlying471
  a227 := Tryz.isAgg471
  z227 := Tryz.sizeOf471
  v227 := Tryz.zeroValue471
  g0 := by kernel_rfl
  g6 := by kernel_rfl
  i0 := by kernel_rfl
  i3 := by kernel_rfl
  i4 := by kernel_rfl
  i5 := by kernel_rfl
  i9 := by kernel_rfl
  i21 := by kernel_rfl
  i31 := by kernel_rfl
  i40 := by kernel_rfl
  i46 := by kernel_rfl
  i49 := by kernel_rfl
  i51 := by kernel_rfl
  i141 := by kernel_rfl
  i152 := by kernel_rfl
  i154 := by kernel_rfl
  i193 := by kernel_rfl
  i194 := by kernel_rfl
  i196 := by kernel_rfl
  i198 := by kernel_rfl
  i201 := by kernel_rfl
  i226 := by kernel_rfl
  i227 := by kernel_rfl
  m0 := by kernel_rfl
  m6 := by kernel_rfl }
open Go.RowKit Go.Lib in
/-- strings.Fields on ASCII bytes. (The table: 'Lib.TabIs', as strings.TrimSpace's contract asks it.) (LAID: no walk: one application.) -/
theorem Tryz.strings_Fields_laid (s : ByteArray) (w : World) (hs : s.size < 4294967281) (hascii : ∀ (j : Nat) b, s.data.toList[j]? = some b → b.toNat < 128) (htab : Lib.TabIs Tryz.prog w "strings.asciiSpace" .u8 Lib.asciiSpaceTab) :
    Calls Tryz.prog 254 #[.string s] w fun e w' =>
      e = .returned (.slice (some ⟨w.heap.size, 0, none⟩) (Lib.fields s.data.toList).length (Lib.fields s.data.toList).length) ∧ w' = w.alloc (.cells ((Lib.fields s.data.toList).map fun l => Value.string ⟨l.toArray⟩).toArray 9) := Any.strings_Fields_laid Tryz.laysM157 s w hs hascii htab
def Tryz.lays151_ren : Go.Shelf.Ren := ⟨fun | 151 => 226 | 152 => 283 | 137 => 249 | 119 => 319 | 224 => 320 | 225 => 321 | 217 => 294 | 266 => 335 | n => n, fun | 9 => 9 | 21 => 21 | 4 => 4 | 3 => 3 | 5 => 5 | 0 => 0 | 46 => 393 | n => n, fun | n => n⟩
theorem Tryz.lays151 : Go.Proofs.Lays.n151 Tryz.prog Tryz.lays151_ren := {
  mixed := by kernel_rfl
  f119 := Tryz.func319.trans (congrArg some (by kernel_rfl))
  f137 := Tryz.func249.trans (congrArg some (by kernel_rfl))
  f151 := Tryz.func226.trans (congrArg some (by kernel_rfl))
  f152 := Tryz.func283.trans (congrArg some (by kernel_rfl))
  f217 := Tryz.func294.trans (congrArg some (by kernel_rfl))
  f224 := Tryz.func320.trans (congrArg some (by kernel_rfl))
  f225 := Tryz.func321.trans (congrArg some (by kernel_rfl))
  f266 := Tryz.func335.trans (congrArg some (by kernel_rfl))
  t0 := Tryz.underlying0
  a0 := Tryz.isAgg0
  z0 := Tryz.sizeOf0
  v0 := Tryz.zeroValue0
  t3 := Tryz.underlying3
  a3 := Tryz.isAgg3
  z3 := Tryz.sizeOf3
  v3 := Tryz.zeroValue3
  t4 := Tryz.underlying4
  a4 := Tryz.isAgg4
  z4 := Tryz.sizeOf4
  v4 := Tryz.zeroValue4
  t5 := Tryz.underlying5
  a5 := Tryz.isAgg5
  z5 := Tryz.sizeOf5
  v5 := Tryz.zeroValue5
  t9 := Tryz.underlying9
  a9 := Tryz.isAgg9
  z9 := Tryz.sizeOf9
  v9 := Tryz.zeroValue9
  t21 := Tryz.underlying21
  a21 := Tryz.isAgg21
  z21 := Tryz.sizeOf21
  v21 := Tryz.zeroValue21
  t46 := Tryz.underlying393
  a46 := Tryz.isAgg393
  z46 := Tryz.sizeOf393
  v46 := Tryz.zeroValue393 }
open Go.RowKit Go.Lib in
theorem Tryz.strings_ContainsRune_ascii (s : ByteArray) (r : Int) (w : World) (h0 : 0 ≤ r) (h1 : r < 128) :
    Calls Tryz.prog 226 #[.string s, .int .i32 r] w fun e w' => e = .returned (.bool (decide (0 ≤ Lib.indexByte s.data.toList r.toNat.toUInt8))) ∧ w' = w := Any.strings_ContainsRune_ascii Tryz.lays151 s r w h0 h1
end Go.Proofs
