/-
  DERIVED: THE SHELF's CONTRACTS AT THIS DUMP, IN PLAIN WORDS (tools/lay-plain.mjs out of 'TryzIter10s.lean', which tools/lay-shelf.mjs wrote): THE SAME DECLARATIONS UNDER THE SAME NAMES: 'import', 'namespace', 'open', 'def', 'theorem' AND NOTHING ELSE: no command of the shelf's: FOR A HAND-IN. Each laying: the table of numbers ('.._ren') and one theorem, a field a fact of the dump's own or the kernel's comparison; each contract: ONE APPLICATION.
-/
import Derived.Shelf.SlIter.Nil
import Derived.Shelf.SortM.Plain
import Derived.Shelf.SortM.SortNone
import Derived.Ground.GgzProg
import Derived.Ground.SlgmProg
import Derived.Test.YtiommdibonjgjaaGreatDoorProg
namespace Go.Proofs
open Go.Shelf
def Tryz.keys167_ren : Go.Shelf.Ren := ⟨fun | 7 => 167 | 10 => 241 | n => n, fun | 23 => 282 | 26 => 9 | 3 => 289 | 28 => 298 | 0 => 0 | 27 => 297 | 33 => 43 | 4 => 4 | n => n, fun | n => n⟩
theorem Tryz.keys167 : Go.Proofs.SlLaysZ.n7 Tryz.prog Tryz.keys167_ren := {
  mixed := by kernel_rfl
  f7 := ⟨Tryz.f167.name, by decide, Tryz.func167.trans (congrArg some (by kernel_rfl))⟩
  f10 := ⟨Tryz.f241.name, by decide, Tryz.func241.trans (congrArg some (by kernel_rfl))⟩
  t0 := Tryz.underlying0
  a0 := Tryz.isAgg0
  z0 := Tryz.sizeOf0
  v0 := Tryz.zeroValue0
  t4 := Tryz.underlying4
  a4 := Tryz.isAgg4
  z4 := Tryz.sizeOf4
  v4 := Tryz.zeroValue4
  t23 := Tryz.underlying282
  a23 := Tryz.isAgg282
  z23 := Tryz.sizeOf282
  v23 := Tryz.zeroValue282
  t26 := Tryz.underlying9
  a26 := Tryz.isAgg9
  z26 := Tryz.sizeOf9
  v26 := Tryz.zeroValue9
  t27 := Tryz.underlying297
  a27 := Tryz.isAgg297
  z27 := Tryz.sizeOf297
  v27 := Tryz.zeroValue297
  t28 := Tryz.underlying298
  a28 := Tryz.isAgg298
  z28 := Tryz.sizeOf298
  v28 := Tryz.zeroValue298
  t33 := Tryz.underlying43
  a33 := Tryz.isAgg43
  z33 := Tryz.sizeOf43
  v33 := Tryz.zeroValue43 }
def Tryz.sorted166_ren : Go.Shelf.Ren := ⟨fun | 6 => 166 | 8 => 239 | 9 => 240 | 11 => 290 | 13 => 292 | 12 => 291 | 23 => 333 | 24 => 334 | 14 => 324 | 15 => 325 | 16 => 326 | 17 => 327 | 18 => 328 | 19 => 329 | 20 => 330 | 21 => 331 | 22 => 332 | 25 => 347 | 26 => 348 | 27 => 349 | 28 => 350 | 29 => 351 | 30 => 352 | 31 => 365 | n => n, fun | 26 => 9 | 28 => 298 | 24 => 23 | 0 => 0 | 3 => 3 | 37 => 393 | 48 => 425 | 50 => 96 | 4 => 4 | 40 => 419 | 39 => 418 | 45 => 44 | 5 => 5 | 9 => 9 | 51 => 434 | 55 => 438 | 57 => 458 | 58 => 459 | 33 => 43 | n => n, fun | n => n⟩
theorem Tryz.sorted166 : Go.Proofs.SlLaysZ.n6 Tryz.prog Tryz.sorted166_ren := {
  mixed := by kernel_rfl
  f6 := ⟨Tryz.f166.name, by decide, Tryz.func166.trans (congrArg some (by kernel_rfl))⟩
  f8 := ⟨Tryz.f239.name, by decide, Tryz.func239.trans (congrArg some (by kernel_rfl))⟩
  f11 := ⟨Tryz.f290.name, by decide, Tryz.func290.trans (congrArg some (by kernel_rfl))⟩
  t0 := Tryz.underlying0
  a0 := Tryz.isAgg0
  z0 := Tryz.sizeOf0
  v0 := Tryz.zeroValue0
  t24 := Tryz.underlying23
  a24 := Tryz.isAgg23
  z24 := Tryz.sizeOf23
  v24 := Tryz.zeroValue23
  t26 := Tryz.underlying9
  a26 := Tryz.isAgg9
  z26 := Tryz.sizeOf9
  v26 := Tryz.zeroValue9
  t28 := Tryz.underlying298
  a28 := Tryz.isAgg298
  z28 := Tryz.sizeOf298
  v28 := Tryz.zeroValue298
  i26 := by kernel_rfl }
def Tryz.sort240_ren : Go.Shelf.Ren := ⟨fun | 6 => 240 | 8 => 292 | 9 => 291 | 19 => 333 | 20 => 334 | 21 => 324 | 22 => 325 | 23 => 326 | 24 => 327 | 25 => 328 | 26 => 329 | 27 => 330 | 28 => 331 | 29 => 332 | 36 => 347 | 31 => 348 | 32 => 349 | 37 => 350 | 38 => 351 | 39 => 352 | 41 => 365 | n => n, fun | 27 => 23 | 29 => 9 | 3 => 3 | 32 => 393 | 26 => 23 | 0 => 0 | 44 => 425 | 46 => 96 | 4 => 4 | 36 => 419 | 35 => 418 | 41 => 44 | 5 => 5 | 9 => 9 | 53 => 434 | 57 => 438 | 63 => 458 | 64 => 459 | n => n, fun | n => n⟩
theorem Tryz.sort240 : Go.Proofs.SlLaysM.n6 Tryz.prog Tryz.sort240_ren := {
  mixed := by kernel_rfl
  f6 := ⟨Tryz.f240.name, by decide, Tryz.func240.trans (congrArg some (by kernel_rfl))⟩
  f8 := Tryz.func292.trans (congrArg some (by kernel_rfl))
  f9 := ⟨Tryz.f291.name, by decide, Tryz.func291.trans (congrArg some (by kernel_rfl))⟩
  f19 := Tryz.func333.trans (congrArg some (by kernel_rfl))
  f20 := Tryz.func334.trans (congrArg some (by kernel_rfl))
  f21 := ⟨Tryz.f324.name, by decide, Tryz.func324.trans (congrArg some (by kernel_rfl))⟩
  f22 := ⟨Tryz.f325.name, by decide, Tryz.func325.trans (congrArg some (by kernel_rfl))⟩
  f23 := ⟨Tryz.f326.name, by decide, Tryz.func326.trans (congrArg some (by kernel_rfl))⟩
  f24 := ⟨Tryz.f327.name, by decide, Tryz.func327.trans (congrArg some (by kernel_rfl))⟩
  f25 := ⟨Tryz.f328.name, by decide, Tryz.func328.trans (congrArg some (by kernel_rfl))⟩
  f26 := ⟨Tryz.f329.name, by decide, Tryz.func329.trans (congrArg some (by kernel_rfl))⟩
  f27 := ⟨Tryz.f330.name, by decide, Tryz.func330.trans (congrArg some (by kernel_rfl))⟩
  f28 := ⟨Tryz.f331.name, by decide, Tryz.func331.trans (congrArg some (by kernel_rfl))⟩
  f29 := ⟨Tryz.f332.name, by decide, Tryz.func332.trans (congrArg some (by kernel_rfl))⟩
  f31 := Tryz.func348.trans (congrArg some (by kernel_rfl))
  f32 := Tryz.func349.trans (congrArg some (by kernel_rfl))
  f36 := ⟨Tryz.f347.name, by decide, Tryz.func347.trans (congrArg some (by kernel_rfl))⟩
  f37 := ⟨Tryz.f350.name, by decide, Tryz.func350.trans (congrArg some (by kernel_rfl))⟩
  f38 := ⟨Tryz.f351.name, by decide, Tryz.func351.trans (congrArg some (by kernel_rfl))⟩
  f39 := ⟨Tryz.f352.name, by decide, Tryz.func352.trans (congrArg some (by kernel_rfl))⟩
  f41 := ⟨Tryz.f365.name, by decide, Tryz.func365.trans (congrArg some (by kernel_rfl))⟩
  t0 := Tryz.underlying0
  a0 := Tryz.isAgg0
  z0 := Tryz.sizeOf0
  v0 := Tryz.zeroValue0
  t3 := Tryz.underlying3
  a3 := Tryz.isAgg3
  z3 := Tryz.sizeOf3
  v3 := Tryz.zeroValue3
  t4 := Tryz.underlying4
  a4 := Tryz.isAgg4
  z4 := Tryz.sizeOf4
  v4 := Tryz.zeroValue4
  t5 := Tryz.underlying5
  a5 := Tryz.isAgg5
  z5 := Tryz.sizeOf5
  v5 := Tryz.zeroValue5
  t9 := Tryz.underlying9
  a9 := Tryz.isAgg9
  z9 := Tryz.sizeOf9
  v9 := Tryz.zeroValue9
  t26 := Tryz.underlying23
  a26 := Tryz.isAgg23
  z26 := Tryz.sizeOf23
  v26 := Tryz.zeroValue23
  t27 := Tryz.underlying23
  a27 := Tryz.isAgg23
  z27 := Tryz.sizeOf23
  v27 := Tryz.zeroValue23
  t29 := Tryz.underlying9
  a29 := Tryz.isAgg9
  z29 := Tryz.sizeOf9
  v29 := Tryz.zeroValue9
  t32 := Tryz.underlying393
  a32 := Tryz.isAgg393
  z32 := Tryz.sizeOf393
  v32 := Tryz.zeroValue393
  t35 := Tryz.underlying418
  a35 := Tryz.isAgg418
  z35 := Tryz.sizeOf418
  v35 := Tryz.zeroValue418
  t36 := Tryz.underlying419
  a36 := Tryz.isAgg419
  z36 := Tryz.sizeOf419
  v36 := Tryz.zeroValue419
  t41 := Tryz.underlying44
  a41 := Tryz.isAgg44
  z41 := Tryz.sizeOf44
  v41 := Tryz.zeroValue44
  t44 := Tryz.underlying425
  a44 := Tryz.isAgg425
  z44 := Tryz.sizeOf425
  v44 := Tryz.zeroValue425
  t46 := Tryz.underlying96
  a46 := Tryz.isAgg96
  z46 := Tryz.sizeOf96
  v46 := Tryz.zeroValue96
  t53 := Tryz.underlying434
  a53 := Tryz.isAgg434
  z53 := Tryz.sizeOf434
  v53 := Tryz.zeroValue434
  t57 := Tryz.underlying438
  a57 := Tryz.isAgg438
  z57 := Tryz.sizeOf438
  v57 := Tryz.zeroValue438
  t63 := Tryz.underlying458
  a63 := Tryz.isAgg458
  z63 := Tryz.sizeOf458
  v63 := Tryz.zeroValue458
  t64 := Tryz.underlying459
  a64 := Tryz.isAgg459
  z64 := Tryz.sizeOf459
  v64 := Tryz.zeroValue459 }
open Go.RowKit Go.Maps Go.Sort Go.Shelf in
/-- slices.Sort's two contracts at this dump, at the fence that asks nothing. -/
theorem Tryz.sorts166 (m : Nat) : AnyZ.SortsIn Tryz.prog Tryz.sorted166_ren Fence.wide m :=
  ⟨fun blk off cap ss W hH hblk hsz => callsIn_wide.2 (AnyM.slices_Sort_string Tryz.sort240 blk off cap ss W hH hblk hsz),
   fun p cap W => callsIn_wide.2 (AnyM.slices_Sort_string_none Tryz.sort240 p cap W)⟩
end Go.Proofs
