/-
 DERIVED: THE SHELF's CONTRACTS AT THIS DUMP, IN PLAIN WORDS (tools/lay-plain.mjs out of 'TryzShelf04s.lean', which tools/lay-shelf.mjs wrote): THE SAME DECLARATIONS UNDER THE SAME NAMES: 'import', 'namespace', 'open', 'def', 'theorem' AND NOTHING ELSE: no command of the shelf's: FOR A HAND-IN. Each laying: the table of numbers ('.._ren') and one theorem, a field a fact of the dump's own or the kernel's comparison; each contract: ONE APPLICATION.
-/
import Derived.Shelf.Strings.Builder1
import Derived.Shelf.Strings.Trim
import Derived.Shelf.Small.Utf8
import Derived.Shelf.Small.Strs
import Derived.Shelf.Small.Wraps
import Derived.Shelf.Strings.BuilderF
import Derived.Shelf.Strconv.Atoi
import Derived.Shelf.Strconv.Itoa0
import Derived.Shelf.Strconv.Itoa1
import Derived.Shelf.LaysM
import Derived.Shelf.Strconv.Itoa2
import Derived.Shelf.Strconv.Itoa3
import Derived.Shelf.Strconv.AtoiErrFast
import Derived.Shelf.Strconv.ParseIntEmpty
import Derived.Shelf.Strconv.AtoiFail
import Derived.Shelf.Strconv.Clone
import Derived.Shelf.Strconv.SyntaxError
import Derived.Shelf.LaysC
import Derived.Shelf.Strconv.ToError
import Derived.Shelf.Strconv.Lower
import Derived.Shelf.Strconv.ParseUint10
import Derived.Shelf.Strconv.ParseUint10Empty
import Derived.Shelf.Strconv.ParseUint10Any
import Derived.Shelf.Strconv.ParseInt10
import Derived.Shelf.Strconv.AtoiLong
import Derived.Shelf.Strconv.AtoiInnerAll
import Derived.Shelf.Strconv.RangeError
import Derived.Shelf.Strconv.ToErrorRange
import Derived.Shelf.Strconv.AtoiAll
import Derived.Shelf.Strconv.ErrVarAll
import Derived.Shelf.Strings.Search1
import Derived.Shelf.Strings.Search2
import Derived.Shelf.Strings.Cut
import Derived.Shelf.Strings.Shaped
import Derived.Shelf.Strings.Prefix
import Derived.Shelf.Strings.Fields
import Derived.Shelf.Strings.SplitShaped
import Derived.Shelf.Unicode.Latin
import Derived.Shelf.Strings.Runes
import Derived.Shelf.Strings.AsciiSet
import Derived.Shelf.Unicode.DecodeSlow
import Derived.Shelf.Unicode.Is16White
import Derived.Shelf.Unicode.IsSpaceAny
import Derived.Shelf.Unicode.Is16Any
import Derived.Shelf.Unicode.Is32Any
import Derived.Shelf.Unicode.ExclAny
import Derived.Test.YtnkingoidodnlaaGreatDoorProg
namespace Go.Proofs
open Go.Shelf
def Tryz.lays160_ren : Go.Shelf.Ren := ⟨fun | 160 => 160 | 232 => 189 | 231 => 188 | 227 => 190 | 234 => 192 | 233 => 191 | 236 => 194 | 235 => 193 | 228 => 209 | 271 => 211 | 151 => 103 | 197 => 210 | 120 => 223 | 152 => 140 | 260 => 222 | 137 => 62 | 119 => 175 | 224 => 176 | 225 => 177 | 217 => 102 | 266 => 139 | n => n, fun | 9 => 9 | 4 => 4 | 3 => 3 | 5 => 5 | 117 => 246 | 116 => 245 | 0 => 0 | 124 => 249 | 21 => 21 | 105 => 273 | 46 => 227 | 119 => 199 | 139 => 289 | 138 => 288 | n => n, fun | 3 => 6 | 4 => 7 | n => n⟩
theorem Tryz.lays160 : Go.Proofs.Lays.n160 Tryz.prog Tryz.lays160_ren := {
 mixed := by kernel_rfl
 f119 := Tryz.func175.trans (congrArg some (by kernel_rfl))
 f120 := Tryz.func223.trans (congrArg some (by kernel_rfl))
 f137 := Tryz.func62.trans (congrArg some (by kernel_rfl))
 f151 := Tryz.func103.trans (congrArg some (by kernel_rfl))
 f152 := Tryz.func140.trans (congrArg some (by kernel_rfl))
 f160 := Tryz.func160.trans (congrArg some (by kernel_rfl))
 f197 := Tryz.func210.trans (congrArg some (by kernel_rfl))
 f217 := Tryz.func102.trans (congrArg some (by kernel_rfl))
 f224 := Tryz.func176.trans (congrArg some (by kernel_rfl))
 f225 := Tryz.func177.trans (congrArg some (by kernel_rfl))
 f227 := Tryz.func190.trans (congrArg some (by kernel_rfl))
 f228 := Tryz.func209.trans (congrArg some (by kernel_rfl))
 f231 := Tryz.func188.trans (congrArg some (by kernel_rfl))
 f232 := Tryz.func189.trans (congrArg some (by kernel_rfl))
 f233 := Tryz.func191.trans (congrArg some (by kernel_rfl))
 f234 := Tryz.func192.trans (congrArg some (by kernel_rfl))
 f235 := Tryz.func193.trans (congrArg some (by kernel_rfl))
 f236 := Tryz.func194.trans (congrArg some (by kernel_rfl))
 f260 := Tryz.func222.trans (congrArg some (by kernel_rfl))
 f266 := Tryz.func139.trans (congrArg some (by kernel_rfl))
 f271 := Tryz.func211.trans (congrArg some (by kernel_rfl))
 t0 := Tryz.underlying0
 a0 := Tryz.isAgg0
 z0 := Tryz.sizeOf0
 v0 := Tryz.zeroValue0
 t3 := Tryz.underlying3
 a3 := Tryz.isAgg3
 z3 := Tryz.sizeOf3
 v3 := Tryz.zeroValue3
 t4 := Tryz.underlying4
 a4 := Tryz.isAgg4
 z4 := Tryz.sizeOf4
 v4 := Tryz.zeroValue4
 t5 := Tryz.underlying5
 a5 := Tryz.isAgg5
 z5 := Tryz.sizeOf5
 v5 := Tryz.zeroValue5
 t9 := Tryz.underlying9
 a9 := Tryz.isAgg9
 z9 := Tryz.sizeOf9
 v9 := Tryz.zeroValue9
 t21 := Tryz.underlying21
 a21 := Tryz.isAgg21
 z21 := Tryz.sizeOf21
 v21 := Tryz.zeroValue21
 t46 := Tryz.underlying227
 a46 := Tryz.isAgg227
 z46 := Tryz.sizeOf227
 v46 := Tryz.zeroValue227
 t105 := Tryz.underlying273
 a105 := Tryz.isAgg273
 z105 := Tryz.sizeOf273
 v105 := Tryz.zeroValue273
 t116 := Tryz.underlying245
 a116 := Tryz.isAgg245
 z116 := Tryz.sizeOf245
 t117 := Tryz.underlying246
 a117 := Tryz.isAgg246
 z117 := Tryz.sizeOf246
 v117 := Tryz.zeroValue246
 t119 := Tryz.underlying199
 a119 := Tryz.isAgg199
 z119 := Tryz.sizeOf199
 t124 := Tryz.underlying249
 a124 := Tryz.isAgg249
 z124 := Tryz.sizeOf249
 v124 := Tryz.zeroValue249
 t138 := Tryz.underlying288
 a138 := Tryz.isAgg288
 z138 := Tryz.sizeOf288
 v138 := Tryz.zeroValue288
 t139 := Tryz.underlying289
 a139 := Tryz.isAgg289
 z139 := Tryz.sizeOf289
 v139 := Tryz.zeroValue289
 g3 := by kernel_rfl
 g4 := by kernel_rfl }
def Tryz.lays137_ren : Go.Shelf.Ren := ⟨fun | 137 => 62 | 217 => 102 | 266 => 139 | n => n, fun | 9 => 9 | 5 => 5 | 3 => 3 | n => n, fun | n => n⟩
theorem Tryz.lays137 : Go.Proofs.Lays.n137 Tryz.prog Tryz.lays137_ren := {
 mixed := by kernel_rfl
 f137 := Tryz.func62.trans (congrArg some (by kernel_rfl))
 f217 := Tryz.func102.trans (congrArg some (by kernel_rfl))
 f266 := Tryz.func139.trans (congrArg some (by kernel_rfl))
 t3 := Tryz.underlying3
 a3 := Tryz.isAgg3
 z3 := Tryz.sizeOf3
 v3 := Tryz.zeroValue3
 t5 := Tryz.underlying5
 a5 := Tryz.isAgg5
 z5 := Tryz.sizeOf5
 v5 := Tryz.zeroValue5
 t9 := Tryz.underlying9
 a9 := Tryz.isAgg9
 z9 := Tryz.sizeOf9
 v9 := Tryz.zeroValue9 }
open Go.RowKit in
theorem Tryz.strings_IndexByte (s : ByteArray) (c : Int) (w : World) :
  Calls Tryz.prog 62 #[.string s, .int .u8 c] w fun e w' => e = .returned (.int .i64 (Lib.indexByte s.data.toList c.toNat.toUInt8)) ∧ w' = w := Any.strings_IndexByte Tryz.lays137 s c w
def Tryz.laysM171_ren : Go.Shelf.Ren := ⟨fun | 171 => 92 | 243 => 135 | 246 => 174 | 283 => 199 | 284 => 200 | 285 => 201 | 286 => 202 | 129 => 216 | 317 => 215 | 318 => 217 | 319 => 218 | 320 => 219 | 337 => 225 | 338 => 226 | n => n, fun | 3 => 3 | 9 => 9 | 2 => 2 | 4 => 4 | 171 => 251 | 0 => 0 | 53 => 252 | 37 => 89 | 5 => 5 | 173 => 255 | 212 => 276 | 51 => 238 | 20 => 20 | 213 => 277 | 46 => 227 | 232 => 292 | 233 => 293 | n => n, fun | 17 => 5 | 18 => 8 | 19 => 9 | n => n⟩
theorem Tryz.laysM171 : Go.Proofs.LaysM.n171 Tryz.prog Tryz.laysM171_ren := {
 mixed := by kernel_rfl
 f129 := Tryz.func216.trans (congrArg some (by kernel_rfl))
 f171 := Tryz.func92.trans (congrArg some (by kernel_rfl))
 f243 := Tryz.func135.trans (congrArg some (by kernel_rfl))
 f246 := Tryz.func174.trans (congrArg some (by kernel_rfl))
 f283 := Tryz.func199.trans (congrArg some (by kernel_rfl))
 f284 := Tryz.func200.trans (congrArg some (by kernel_rfl))
 f285 := Tryz.func201.trans (congrArg some (by kernel_rfl))
 f286 := Tryz.func202.trans (congrArg some (by kernel_rfl))
 f317 := Tryz.func215.trans (congrArg some (by kernel_rfl))
 f318 := Tryz.func217.trans (congrArg some (by kernel_rfl))
 f319 := Tryz.func218.trans (congrArg some (by kernel_rfl))
 f320 := Tryz.func219.trans (congrArg some (by kernel_rfl))
 f337 := Tryz.func225.trans (congrArg some (by kernel_rfl))
 f338 := Tryz.func226.trans (congrArg some (by kernel_rfl))
 t0 := Tryz.underlying0
 a0 := Tryz.isAgg0
 z0 := Tryz.sizeOf0
 v0 := Tryz.zeroValue0
 t2 := Tryz.underlying2
 a2 := Tryz.isAgg2
 z2 := Tryz.sizeOf2
 v2 := Tryz.zeroValue2
 t3 := Tryz.underlying3
 a3 := Tryz.isAgg3
 z3 := Tryz.sizeOf3
 v3 := Tryz.zeroValue3
 t4 := Tryz.underlying4
 a4 := Tryz.isAgg4
 z4 := Tryz.sizeOf4
 v4 := Tryz.zeroValue4
 t5 := Tryz.underlying5
 a5 := Tryz.isAgg5
 z5 := Tryz.sizeOf5
 v5 := Tryz.zeroValue5
 t9 := Tryz.underlying9
 a9 := Tryz.isAgg9
 z9 := Tryz.sizeOf9
 v9 := Tryz.zeroValue9
 t20 := Tryz.underlying20
 a20 := Tryz.isAgg20
 z20 := Tryz.sizeOf20
 v20 := Tryz.zeroValue20
 t37 := Tryz.underlying89
 a37 := Tryz.isAgg89
 z37 := Tryz.sizeOf89
 v37 := Tryz.zeroValue89
 t46 := Tryz.underlying227
 a46 := Tryz.isAgg227
 z46 := Tryz.sizeOf227
 v46 := Tryz.zeroValue227
 t51 := Tryz.underlying238
 a51 := Tryz.isAgg238
 z51 := Tryz.sizeOf238
 v51 := Tryz.zeroValue238
 t53 := Tryz.underlying252
 a53 := Tryz.isAgg252
 z53 := Tryz.sizeOf252
 v53 := Tryz.zeroValue252
 t171 := Tryz.underlying251
 a171 := Tryz.isAgg251
 z171 := Tryz.sizeOf251
 v171 := Tryz.zeroValue251
 t173 := Tryz.underlying255
 a173 := Tryz.isAgg255
 z173 := Tryz.sizeOf255
 v173 := Tryz.zeroValue255
 t212 := Tryz.underlying276
 a212 := Tryz.isAgg276
 z212 := Tryz.sizeOf276
 v212 := Tryz.zeroValue276
 t213 := Tryz.underlying277
 a213 := Tryz.isAgg277
 z213 := Tryz.sizeOf277
 t232 := Tryz.underlying292
 a232 := Tryz.isAgg292
 z232 := Tryz.sizeOf292
 v232 := Tryz.zeroValue292
 t233 := Tryz.underlying293
 a233 := Tryz.isAgg293
 z233 := Tryz.sizeOf293
 v233 := Tryz.zeroValue293
 g17 := by kernel_rfl
 g18 := by kernel_rfl
 g19 := by kernel_rfl
 i0 := by kernel_rfl
 i2 := by kernel_rfl
 i3 := by kernel_rfl
 i4 := by kernel_rfl
 i5 := by kernel_rfl
 i9 := by kernel_rfl
 i20 := by kernel_rfl
 i37 := by kernel_rfl
 i46 := by kernel_rfl
 i51 := by kernel_rfl
 i53 := by kernel_rfl
 i171 := by kernel_rfl
 i173 := by kernel_rfl
 i212 := by kernel_rfl
 i232 := by kernel_rfl
 i233 := by kernel_rfl
 m17 := by kernel_rfl
 m18 := by kernel_rfl
 m19 := by kernel_rfl }
open Go.RowKit Go.Sort Go.Lib in
theorem Tryz.strconv_Itoa (n : Int) (h0 : -9223372036854775808 ≤ n) (h1 : n ≤ 9223372036854775807) (w : World) (htab : Lib.TabIs Tryz.prog w "internal/strconv.uint64pow10" .u64 Lib.pow10Tab) :
  Calls Tryz.prog 92 #[.int .i64 n] w fun e w' => e = .returned (.string ⟨(Lib.itoa n).toArray⟩) ∧ ∃ k os, w' = grow (w.drewN k) os := Any.strconv_Itoa Tryz.laysM171 n h0 h1 w htab
def Tryz.laysC172_ren : Go.Shelf.Ren := ⟨fun | 172 => 104 | 244 => 141 | 245 => 142 | 247 => 178 | 279 => 179 | 280 => 180 | 281 => 181 | 282 => 182 | 287 => 203 | 316 => 204 | 171 => 92 | 205 => 205 | 321 => 220 | 322 => 221 | 243 => 135 | 246 => 174 | 283 => 199 | 284 => 200 | 285 => 201 | 286 => 202 | 129 => 216 | 317 => 215 | 318 => 217 | 319 => 218 | 320 => 219 | 337 => 225 | 338 => 226 | n => n, fun | 9 => 9 | 3 => 3 | 75 => 94 | 76 => 154 | 4 => 4 | 5 => 5 | 167 => 229 | 37 => 89 | 0 => 0 | 85 => 230 | 2 => 2 | 168 => 232 | 53 => 252 | 175 => 257 | 46 => 227 | 210 => 260 | 127 => 157 | 145 => 283 | 143 => 281 | 21 => 21 | 171 => 251 | 173 => 255 | 212 => 276 | 51 => 238 | 20 => 20 | 213 => 277 | 232 => 292 | 233 => 293 | 80 => 97 | n => n, fun | 15 => 3 | 16 => 4 | 17 => 5 | 18 => 8 | 19 => 9 | n => n⟩
theorem Tryz.laysC172 : Go.Proofs.LaysC.n172 Tryz.prog Tryz.laysC172_ren := {
 mixed := by kernel_rfl
 f129 := Tryz.func216.trans (congrArg some (by kernel_rfl))
 f171 := Tryz.func92.trans (congrArg some (by kernel_rfl))
 f172 := Tryz.func104.trans (congrArg some (by kernel_rfl))
 f205 := Tryz.func205.trans (congrArg some (by kernel_rfl))
 f243 := Tryz.func135.trans (congrArg some (by kernel_rfl))
 f244 := Tryz.func141.trans (congrArg some (by kernel_rfl))
 f245 := Tryz.func142.trans (congrArg some (by kernel_rfl))
 f246 := Tryz.func174.trans (congrArg some (by kernel_rfl))
 f247 := Tryz.func178.trans (congrArg some (by kernel_rfl))
 f279 := Tryz.func179.trans (congrArg some (by kernel_rfl))
 f280 := Tryz.func180.trans (congrArg some (by kernel_rfl))
 f281 := Tryz.func181.trans (congrArg some (by kernel_rfl))
 f282 := Tryz.func182.trans (congrArg some (by kernel_rfl))
 f283 := Tryz.func199.trans (congrArg some (by kernel_rfl))
 f284 := Tryz.func200.trans (congrArg some (by kernel_rfl))
 f285 := Tryz.func201.trans (congrArg some (by kernel_rfl))
 f286 := Tryz.func202.trans (congrArg some (by kernel_rfl))
 f287 := Tryz.func203.trans (congrArg some (by kernel_rfl))
 f316 := Tryz.func204.trans (congrArg some (by kernel_rfl))
 f317 := Tryz.func215.trans (congrArg some (by kernel_rfl))
 f318 := Tryz.func217.trans (congrArg some (by kernel_rfl))
 f319 := Tryz.func218.trans (congrArg some (by kernel_rfl))
 f320 := Tryz.func219.trans (congrArg some (by kernel_rfl))
 f321 := Tryz.func220.trans (congrArg some (by kernel_rfl))
 f322 := Tryz.func221.trans (congrArg some (by kernel_rfl))
 f337 := Tryz.func225.trans (congrArg some (by kernel_rfl))
 f338 := Tryz.func226.trans (congrArg some (by kernel_rfl))
 t0 := Tryz.underlying0
 a0 := Tryz.isAgg0
 z0 := Tryz.sizeOf0
 v0 := Tryz.zeroValue0
 t2 := Tryz.underlying2
 a2 := Tryz.isAgg2
 z2 := Tryz.sizeOf2
 v2 := Tryz.zeroValue2
 t3 := Tryz.underlying3
 a3 := Tryz.isAgg3
 z3 := Tryz.sizeOf3
 v3 := Tryz.zeroValue3
 t4 := Tryz.underlying4
 a4 := Tryz.isAgg4
 z4 := Tryz.sizeOf4
 v4 := Tryz.zeroValue4
 t5 := Tryz.underlying5
 a5 := Tryz.isAgg5
 z5 := Tryz.sizeOf5
 v5 := Tryz.zeroValue5
 t9 := Tryz.underlying9
 a9 := Tryz.isAgg9
 z9 := Tryz.sizeOf9
 v9 := Tryz.zeroValue9
 t20 := Tryz.underlying20
 a20 := Tryz.isAgg20
 z20 := Tryz.sizeOf20
 v20 := Tryz.zeroValue20
 t21 := Tryz.underlying21
 a21 := Tryz.isAgg21
 z21 := Tryz.sizeOf21
 v21 := Tryz.zeroValue21
 t37 := Tryz.underlying89
 a37 := Tryz.isAgg89
 z37 := Tryz.sizeOf89
 v37 := Tryz.zeroValue89
 t46 := Tryz.underlying227
 a46 := Tryz.isAgg227
 z46 := Tryz.sizeOf227
 v46 := Tryz.zeroValue227
 t51 := Tryz.underlying238
 a51 := Tryz.isAgg238
 z51 := Tryz.sizeOf238
 v51 := Tryz.zeroValue238
 t53 := Tryz.underlying252
 a53 := Tryz.isAgg252
 z53 := Tryz.sizeOf252
 v53 := Tryz.zeroValue252
 t75 := Tryz.underlying94
 a75 := Tryz.isAgg94
 z75 := Tryz.sizeOf94
 v75 := Tryz.zeroValue94
 t76 := Tryz.underlying154
 a76 := Tryz.isAgg154
 z76 := Tryz.sizeOf154
 v76 := Tryz.zeroValue154
 t85 := Tryz.underlying230
 a85 := Tryz.isAgg230
 z85 := Tryz.sizeOf230
 v85 := Tryz.zeroValue230
 t127 := Tryz.underlying157
 a127 := Tryz.isAgg157
 z127 := Tryz.sizeOf157
 v127 := Tryz.zeroValue157
 t143 := Tryz.underlying281
 a143 := Tryz.isAgg281
 z143 := Tryz.sizeOf281
 v143 := Tryz.zeroValue281
 t145 := Tryz.underlying283
 a145 := Tryz.isAgg283
 z145 := Tryz.sizeOf283
 v145 := Tryz.zeroValue283
 t167 := Tryz.underlying229
 a167 := Tryz.isAgg229
 z167 := Tryz.sizeOf229
 v167 := Tryz.zeroValue229
 t168 := Tryz.underlying232
 a168 := Tryz.isAgg232
 z168 := Tryz.sizeOf232
 v168 := Tryz.zeroValue232
 t171 := Tryz.underlying251
 a171 := Tryz.isAgg251
 z171 := Tryz.sizeOf251
 v171 := Tryz.zeroValue251
 t173 := Tryz.underlying255
 a173 := Tryz.isAgg255
 z173 := Tryz.sizeOf255
 v173 := Tryz.zeroValue255
 t175 := Tryz.underlying257
 a175 := Tryz.isAgg257
 z175 := Tryz.sizeOf257
 v175 := Tryz.zeroValue257
 t210 := Tryz.underlying260
 a210 := Tryz.isAgg260
 z210 := Tryz.sizeOf260
 v210 := Tryz.zeroValue260
 t212 := Tryz.underlying276
 a212 := Tryz.isAgg276
 z212 := Tryz.sizeOf276
 v212 := Tryz.zeroValue276
 t213 := Tryz.underlying277
 a213 := Tryz.isAgg277
 z213 := Tryz.sizeOf277
 t232 := Tryz.underlying292
 a232 := Tryz.isAgg292
 z232 := Tryz.sizeOf292
 v232 := Tryz.zeroValue292
 t233 := Tryz.underlying293
 a233 := Tryz.isAgg293
 z233 := Tryz.sizeOf293
 v233 := Tryz.zeroValue293
 g15 := by kernel_rfl
 g16 := by kernel_rfl
 g17 := by kernel_rfl
 g18 := by kernel_rfl
 g19 := by kernel_rfl
 t80 := Tryz.underlying97
 a80 := Tryz.isAgg97
 z80 := Tryz.sizeOf97
 v80 := Tryz.zeroValue97
 i0 := by kernel_rfl
 i2 := by kernel_rfl
 i3 := by kernel_rfl
 i4 := by kernel_rfl
 i5 := by kernel_rfl
 i9 := by kernel_rfl
 i20 := by kernel_rfl
 i21 := by kernel_rfl
 i37 := by kernel_rfl
 i46 := by kernel_rfl
 i51 := by kernel_rfl
 i53 := by kernel_rfl
 i75 := by kernel_rfl
 i76 := by kernel_rfl
 i80 := by kernel_rfl
 i85 := by kernel_rfl
 i127 := by kernel_rfl
 i143 := by kernel_rfl
 i145 := by kernel_rfl
 i167 := by kernel_rfl
 i168 := by kernel_rfl
 i171 := by kernel_rfl
 i173 := by kernel_rfl
 i175 := by kernel_rfl
 i210 := by kernel_rfl
 i212 := by kernel_rfl
 i232 := by kernel_rfl
 i233 := by kernel_rfl
 m15 := by kernel_rfl
 m16 := by kernel_rfl
 m17 := by kernel_rfl
 m18 := by kernel_rfl
 m19 := by kernel_rfl
 c0 := by kernel_rfl
 c2 := by kernel_rfl
 c3 := by kernel_rfl
 c4 := by kernel_rfl
 c5 := by kernel_rfl
 c9 := by kernel_rfl
 c20 := by kernel_rfl
 c21 := by kernel_rfl
 c37 := by kernel_rfl
 c46 := by kernel_rfl
 c51 := by kernel_rfl
 c53 := by kernel_rfl
 c75 := by kernel_rfl
 c76 := by kernel_rfl
 c80 := by kernel_rfl
 c85 := by kernel_rfl
 c127 := by kernel_rfl
 c143 := by kernel_rfl
 c145 := by kernel_rfl
 c167 := by kernel_rfl
 c168 := by kernel_rfl
 c171 := by kernel_rfl
 c173 := by kernel_rfl
 c175 := by kernel_rfl
 c210 := by kernel_rfl
 c212 := by kernel_rfl
 c213 := by kernel_rfl
 c232 := by kernel_rfl
 c233 := by kernel_rfl }
open Go.RowKit in
theorem Tryz.strconv_Atoi_ok (s : ByteArray) (hmax : s.size ≤ 9223372036854775806) (v : Int) (h : Lib.atoiAll s.data.toList = .ok v) (w : World) :
  Calls Tryz.prog 104 #[.string s] w fun e w' => e = .returned (.tuple #[.int .i64 v, .nilIface]) ∧ (w' = w ∨ ∃ t, w' = Lib.bytesWorld w 5 t) := Any.strconv_Atoi_ok Tryz.laysC172 s hmax v h w
open Go.RowKit in
theorem Tryz.strconv_Atoi_syntax_var (s : ByteArray) (hlim : s.size ≤ 281474976710656) (h : Lib.atoiAll s.data.toList = Lib.NumEnd.syntax) (tp : TypeId) (p : Value) (w : World) (hvar : w.var? Tryz.prog "strconv.ErrSyntax" = some #[.iface tp p]) :
  Calls Tryz.prog 104 #[.string s] w fun e w' => ∃ N, e = .returned (.tuple #[.int .i64 0, .iface 232 (.pointer (some ⟨N, 0, none⟩))]) ∧ w.heap.size ≤ N ∧ w'.heap[N]? = some (.cells #[.string ⟨#[65, 116, 111, 105]⟩, .string s, .iface tp p] 260 (0, 0)) ∧ Below w.heap.size w w' := Any.strconv_Atoi_syntax_var Tryz.laysC172 s hlim h tp p w hvar
open Go.RowKit in
theorem Tryz.strconv_Atoi_range_var (s : ByteArray) (hlim : s.size ≤ 281474976710656) (h : Lib.atoiAll s.data.toList = .range) (tp : TypeId) (p : Value) (w : World) (hvar : w.var? Tryz.prog "strconv.ErrRange" = some #[.iface tp p]) :
  Calls Tryz.prog 104 #[.string s] w fun e w' => ∃ N, e = .returned (.tuple #[.int .i64 (Lib.atoiSat s.data.toList), .iface 232 (.pointer (some ⟨N, 0, none⟩))]) ∧ w.heap.size ≤ N ∧ w'.heap[N]? = some (.cells #[.string ⟨#[65, 116, 111, 105]⟩, .string s, .iface tp p] 260 (0, 0)) ∧ Below w.heap.size w w' := Any.strconv_Atoi_range_var Tryz.laysC172 s hlim h tp p w hvar
def Tryz.laysM145_ren : Go.Shelf.Ren := ⟨fun | 145 => 161 | 220 => 195 | 219 => 212 | 217 => 102 | 225 => 177 | 224 => 176 | 267 => 224 | 266 => 139 | 314 => 227 | n => n, fun | 9 => 9 | 4 => 4 | 59 => 215 | 3 => 3 | 5 => 5 | 46 => 227 | 146 => 290 | 51 => 238 | n => n, fun | 1 => 1 | n => n⟩
theorem Tryz.laysM145 : Go.Proofs.LaysM.n145 Tryz.prog Tryz.laysM145_ren := {
 mixed := by kernel_rfl
 f145 := Tryz.func161.trans (congrArg some (by kernel_rfl))
 f217 := Tryz.func102.trans (congrArg some (by kernel_rfl))
 f219 := Tryz.func212.trans (congrArg some (by kernel_rfl))
 f220 := Tryz.func195.trans (congrArg some (by kernel_rfl))
 f224 := Tryz.func176.trans (congrArg some (by kernel_rfl))
 f225 := Tryz.func177.trans (congrArg some (by kernel_rfl))
 f266 := Tryz.func139.trans (congrArg some (by kernel_rfl))
 f267 := Tryz.func224.trans (congrArg some (by kernel_rfl))
 f314 := Tryz.func227.trans (congrArg some (by kernel_rfl))
 t3 := Tryz.underlying3
 a3 := Tryz.isAgg3
 z3 := Tryz.sizeOf3
 v3 := Tryz.zeroValue3
 t4 := Tryz.underlying4
 a4 := Tryz.isAgg4
 z4 := Tryz.sizeOf4
 v4 := Tryz.zeroValue4
 t5 := Tryz.underlying5
 a5 := Tryz.isAgg5
 z5 := Tryz.sizeOf5
 v5 := Tryz.zeroValue5
 t9 := Tryz.underlying9
 a9 := Tryz.isAgg9
 z9 := Tryz.sizeOf9
 v9 := Tryz.zeroValue9
 t46 := Tryz.underlying227
 a46 := Tryz.isAgg227
 z46 := Tryz.sizeOf227
 v46 := Tryz.zeroValue227
 t51 := Tryz.underlying238
 a51 := Tryz.isAgg238
 z51 := Tryz.sizeOf238
 v51 := Tryz.zeroValue238
 t59 := Tryz.underlying215
 a59 := Tryz.isAgg215
 z59 := Tryz.sizeOf215
 v59 := Tryz.zeroValue215
 t146 := Tryz.underlying290
 a146 := Tryz.isAgg290
 z146 := Tryz.sizeOf290
 v146 := Tryz.zeroValue290
 g1 := by kernel_rfl
 i3 := by kernel_rfl
 i4 := by kernel_rfl
 i5 := by kernel_rfl
 i9 := by kernel_rfl
 i46 := by kernel_rfl
 i51 := by kernel_rfl
 i59 := by kernel_rfl
 i146 := by kernel_rfl
 m1 := by kernel_rfl
 s1_3 := fun w h => Go.Proofs.cell_of_shapedOpen_int (zero := #[.int .i64 0]) (t := 3) h (of_decide_eq_true (by kernel_rfl)) (by kernel_rfl) rfl (by kernel_rfl) (by kernel_rfl) Tryz.underlying3 }
def Tryz.laysM157_ren : Go.Shelf.Ren := ⟨fun | 157 => 106 | 229 => 144 | 199 => 145 | 261 => 183 | 311 => 206 | 312 => 207 | n => n, fun | 9 => 9 | 31 => 29 | 3 => 3 | 5 => 5 | 4 => 4 | 119 => 199 | 0 => 0 | 40 => 153 | 152 => 235 | 21 => 21 | 154 => 237 | 51 => 238 | 141 => 240 | 196 => 265 | 193 => 262 | 198 => 268 | 49 => 266 | 194 => 263 | 201 => 271 | 226 => 284 | 46 => 227 | 227 => 285 | n => n, fun | 0 => 0 | 6 => 2 | n => n⟩
theorem Tryz.laysM157 : Go.Proofs.LaysM.n157 Tryz.prog Tryz.laysM157_ren := {
 mixed := by kernel_rfl
 f157 := Tryz.func106.trans (congrArg some (by kernel_rfl))
 f199 := Tryz.func145.trans (congrArg some (by kernel_rfl))
 f229 := Tryz.func144.trans (congrArg some (by kernel_rfl))
 f261 := Tryz.func183.trans (congrArg some (by kernel_rfl))
 f311 := Tryz.func206.trans (congrArg some (by kernel_rfl))
 f312 := Tryz.func207.trans (congrArg some (by kernel_rfl))
 t0 := Tryz.underlying0
 a0 := Tryz.isAgg0
 z0 := Tryz.sizeOf0
 v0 := Tryz.zeroValue0
 t3 := Tryz.underlying3
 a3 := Tryz.isAgg3
 z3 := Tryz.sizeOf3
 v3 := Tryz.zeroValue3
 t4 := Tryz.underlying4
 a4 := Tryz.isAgg4
 z4 := Tryz.sizeOf4
 v4 := Tryz.zeroValue4
 t5 := Tryz.underlying5
 a5 := Tryz.isAgg5
 z5 := Tryz.sizeOf5
 v5 := Tryz.zeroValue5
 t9 := Tryz.underlying9
 a9 := Tryz.isAgg9
 z9 := Tryz.sizeOf9
 v9 := Tryz.zeroValue9
 t21 := Tryz.underlying21
 a21 := Tryz.isAgg21
 z21 := Tryz.sizeOf21
 v21 := Tryz.zeroValue21
 t31 := Tryz.underlying29
 a31 := Tryz.isAgg29
 z31 := Tryz.sizeOf29
 v31 := Tryz.zeroValue29
 t40 := Tryz.underlying153
 a40 := Tryz.isAgg153
 z40 := Tryz.sizeOf153
 v40 := Tryz.zeroValue153
 t46 := Tryz.underlying227
 a46 := Tryz.isAgg227
 z46 := Tryz.sizeOf227
 v46 := Tryz.zeroValue227
 t49 := Tryz.underlying266
 a49 := Tryz.isAgg266
 z49 := Tryz.sizeOf266
 v49 := Tryz.zeroValue266
 t51 := Tryz.underlying238
 a51 := Tryz.isAgg238
 z51 := Tryz.sizeOf238
 v51 := Tryz.zeroValue238
 t119 := Tryz.underlying199
 a119 := Tryz.isAgg199
 z119 := Tryz.sizeOf199
 t141 := Tryz.underlying240
 a141 := Tryz.isAgg240
 z141 := Tryz.sizeOf240
 v141 := Tryz.zeroValue240
 t152 := Tryz.underlying235
 a152 := Tryz.isAgg235
 z152 := Tryz.sizeOf235
 v152 := Tryz.zeroValue235
 t154 := Tryz.underlying237
 a154 := Tryz.isAgg237
 z154 := Tryz.sizeOf237
 v154 := Tryz.zeroValue237
 t193 := Tryz.underlying262
 a193 := Tryz.isAgg262
 z193 := Tryz.sizeOf262
 v193 := Tryz.zeroValue262
 t194 := Tryz.underlying263
 a194 := Tryz.isAgg263
 z194 := Tryz.sizeOf263
 v194 := Tryz.zeroValue263
 t196 := Tryz.underlying265
 a196 := Tryz.isAgg265
 z196 := Tryz.sizeOf265
 v196 := Tryz.zeroValue265
 t198 := Tryz.underlying268
 a198 := Tryz.isAgg268
 z198 := Tryz.sizeOf268
 v198 := Tryz.zeroValue268
 t201 := Tryz.underlying271
 a201 := Tryz.isAgg271
 z201 := Tryz.sizeOf271
 v201 := Tryz.zeroValue271
 t226 := Tryz.underlying284
 a226 := Tryz.isAgg284
 z226 := Tryz.sizeOf284
 v226 := Tryz.zeroValue284
 t227 := Tryz.underlying285
 a227 := Tryz.isAgg285
 z227 := Tryz.sizeOf285
 v227 := Tryz.zeroValue285
 g0 := by kernel_rfl
 g6 := by kernel_rfl
 i0 := by kernel_rfl
 i3 := by kernel_rfl
 i4 := by kernel_rfl
 i5 := by kernel_rfl
 i9 := by kernel_rfl
 i21 := by kernel_rfl
 i31 := by kernel_rfl
 i40 := by kernel_rfl
 i46 := by kernel_rfl
 i49 := by kernel_rfl
 i51 := by kernel_rfl
 i141 := by kernel_rfl
 i152 := by kernel_rfl
 i154 := by kernel_rfl
 i193 := by kernel_rfl
 i194 := by kernel_rfl
 i196 := by kernel_rfl
 i198 := by kernel_rfl
 i201 := by kernel_rfl
 i226 := by kernel_rfl
 i227 := by kernel_rfl
 m0 := by kernel_rfl
 m6 := by kernel_rfl }
open Go.RowKit Go.Lib in
theorem Tryz.strings_Fields_laid (s : ByteArray) (w : World) (hs : s.size < 4294967281) (hascii : ∀ (j : Nat) b, s.data.toList[j]? = some b → b.toNat < 128) (htab : Lib.TabIs Tryz.prog w "strings.asciiSpace" .u8 Lib.asciiSpaceTab) :
  Calls Tryz.prog 106 #[.string s] w fun e w' =>
   e = .returned (.slice (some ⟨w.heap.size, 0, none⟩) (Lib.fields s.data.toList).length (Lib.fields s.data.toList).length) ∧ w' = w.alloc (.cells ((Lib.fields s.data.toList).map fun l => Value.string ⟨l.toArray⟩).toArray 9) := Any.strings_Fields_laid Tryz.laysM157 s w hs hascii htab
def Tryz.lays151_ren : Go.Shelf.Ren := ⟨fun | 151 => 103 | 152 => 140 | 137 => 62 | 119 => 175 | 224 => 176 | 225 => 177 | 217 => 102 | 266 => 139 | n => n, fun | 9 => 9 | 21 => 21 | 4 => 4 | 3 => 3 | 5 => 5 | 0 => 0 | 46 => 227 | n => n, fun | n => n⟩
theorem Tryz.lays151 : Go.Proofs.Lays.n151 Tryz.prog Tryz.lays151_ren := {
 mixed := by kernel_rfl
 f119 := Tryz.func175.trans (congrArg some (by kernel_rfl))
 f137 := Tryz.func62.trans (congrArg some (by kernel_rfl))
 f151 := Tryz.func103.trans (congrArg some (by kernel_rfl))
 f152 := Tryz.func140.trans (congrArg some (by kernel_rfl))
 f217 := Tryz.func102.trans (congrArg some (by kernel_rfl))
 f224 := Tryz.func176.trans (congrArg some (by kernel_rfl))
 f225 := Tryz.func177.trans (congrArg some (by kernel_rfl))
 f266 := Tryz.func139.trans (congrArg some (by kernel_rfl))
 t0 := Tryz.underlying0
 a0 := Tryz.isAgg0
 z0 := Tryz.sizeOf0
 v0 := Tryz.zeroValue0
 t3 := Tryz.underlying3
 a3 := Tryz.isAgg3
 z3 := Tryz.sizeOf3
 v3 := Tryz.zeroValue3
 t4 := Tryz.underlying4
 a4 := Tryz.isAgg4
 z4 := Tryz.sizeOf4
 v4 := Tryz.zeroValue4
 t5 := Tryz.underlying5
 a5 := Tryz.isAgg5
 z5 := Tryz.sizeOf5
 v5 := Tryz.zeroValue5
 t9 := Tryz.underlying9
 a9 := Tryz.isAgg9
 z9 := Tryz.sizeOf9
 v9 := Tryz.zeroValue9
 t21 := Tryz.underlying21
 a21 := Tryz.isAgg21
 z21 := Tryz.sizeOf21
 v21 := Tryz.zeroValue21
 t46 := Tryz.underlying227
 a46 := Tryz.isAgg227
 z46 := Tryz.sizeOf227
 v46 := Tryz.zeroValue227 }
open Go.RowKit Go.Lib in
theorem Tryz.strings_ContainsRune_ascii (s : ByteArray) (r : Int) (w : World) (h0 : 0 ≤ r) (h1 : r < 128) :
  Calls Tryz.prog 103 #[.string s, .int .i32 r] w fun e w' => e = .returned (.bool (decide (0 ≤ Lib.indexByte s.data.toList r.toNat.toUInt8))) ∧ w' = w := Any.strings_ContainsRune_ascii Tryz.lays151 s r w h0 h1
end Go.Proofs
