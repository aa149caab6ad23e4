/-
  DERIVED: THE SHELF's CONTRACTS AT THIS DUMP, IN PLAIN WORDS (tools/lay-plain.mjs out of 'TryzIter12s.lean', which tools/lay-shelf.mjs wrote): THE SAME DECLARATIONS UNDER THE SAME NAMES: 'import', 'namespace', 'open', 'def', 'theorem' AND NOTHING ELSE: no command of the shelf's: FOR A HAND-IN. Each laying: the table of numbers ('.._ren') and one theorem, a field a fact of the dump's own or the kernel's comparison; each contract: ONE APPLICATION.
-/
import Derived.Shelf.SlIter.Nil
import Derived.Shelf.SortM.Plain
import Derived.Shelf.SortM.SortNone
import Derived.Ground.GgzProg
import Derived.Ground.SlgmProg
import Derived.Test.YtljjgaakmaifkaaGreatDoorProg
namespace Go.Proofs
open Go.Shelf
def Tryz.keys43_ren : Go.Shelf.Ren := ⟨fun | 7 => 43 | 10 => 49 | n => n, fun | 23 => 65 | 26 => 9 | 3 => 3 | 28 => 75 | 0 => 0 | 27 => 74 | 33 => 52 | 4 => 4 | n => n, fun | n => n⟩
theorem Tryz.keys43 : Go.Proofs.SlLaysZ.n7 Tryz.prog Tryz.keys43_ren := {
  mixed := by kernel_rfl
  f7 := ⟨Tryz.f43.name, by decide, Tryz.func43.trans (congrArg some (by kernel_rfl))⟩
  f10 := ⟨Tryz.f49.name, by decide, Tryz.func49.trans (congrArg some (by kernel_rfl))⟩
  t0 := Tryz.underlying0
  a0 := Tryz.isAgg0
  z0 := Tryz.sizeOf0
  v0 := Tryz.zeroValue0
  t4 := Tryz.underlying4
  a4 := Tryz.isAgg4
  z4 := Tryz.sizeOf4
  v4 := Tryz.zeroValue4
  t23 := Tryz.underlying65
  a23 := Tryz.isAgg65
  z23 := Tryz.sizeOf65
  v23 := Tryz.zeroValue65
  t26 := Tryz.underlying9
  a26 := Tryz.isAgg9
  z26 := Tryz.sizeOf9
  v26 := Tryz.zeroValue9
  t27 := Tryz.underlying74
  a27 := Tryz.isAgg74
  z27 := Tryz.sizeOf74
  v27 := Tryz.zeroValue74
  t28 := Tryz.underlying75
  a28 := Tryz.isAgg75
  z28 := Tryz.sizeOf75
  v28 := Tryz.zeroValue75
  t33 := Tryz.underlying52
  a33 := Tryz.isAgg52
  z33 := Tryz.sizeOf52
  v33 := Tryz.zeroValue52 }
def Tryz.sorted42_ren : Go.Shelf.Ren := ⟨fun | 6 => 42 | 8 => 47 | 9 => 48 | 11 => 58 | 13 => 60 | 12 => 59 | 23 => 83 | 24 => 62 | 14 => 74 | 15 => 75 | 16 => 76 | 17 => 77 | 18 => 78 | 19 => 79 | 20 => 80 | 21 => 81 | 22 => 82 | 25 => 100 | 26 => 101 | 27 => 102 | 28 => 103 | 29 => 104 | 30 => 105 | 31 => 112 | n => n, fun | 26 => 9 | 28 => 75 | 24 => 22 | 0 => 0 | 3 => 3 | 37 => 94 | 48 => 98 | 50 => 81 | 4 => 4 | 40 => 108 | 39 => 107 | 45 => 36 | 5 => 5 | 9 => 9 | 51 => 128 | 55 => 132 | 57 => 144 | 58 => 145 | 33 => 52 | n => n, fun | n => n⟩
theorem Tryz.sorted42 : Go.Proofs.SlLaysZ.n6 Tryz.prog Tryz.sorted42_ren := {
  mixed := by kernel_rfl
  f6 := ⟨Tryz.f42.name, by decide, Tryz.func42.trans (congrArg some (by kernel_rfl))⟩
  f8 := ⟨Tryz.f47.name, by decide, Tryz.func47.trans (congrArg some (by kernel_rfl))⟩
  f11 := ⟨Tryz.f58.name, by decide, Tryz.func58.trans (congrArg some (by kernel_rfl))⟩
  t0 := Tryz.underlying0
  a0 := Tryz.isAgg0
  z0 := Tryz.sizeOf0
  v0 := Tryz.zeroValue0
  t24 := Tryz.underlying22
  a24 := Tryz.isAgg22
  z24 := Tryz.sizeOf22
  v24 := Tryz.zeroValue22
  t26 := Tryz.underlying9
  a26 := Tryz.isAgg9
  z26 := Tryz.sizeOf9
  v26 := Tryz.zeroValue9
  t28 := Tryz.underlying75
  a28 := Tryz.isAgg75
  z28 := Tryz.sizeOf75
  v28 := Tryz.zeroValue75
  i26 := by kernel_rfl }
def Tryz.sort48_ren : Go.Shelf.Ren := ⟨fun | 6 => 48 | 8 => 60 | 9 => 59 | 19 => 83 | 20 => 62 | 21 => 74 | 22 => 75 | 23 => 76 | 24 => 77 | 25 => 78 | 26 => 79 | 27 => 80 | 28 => 81 | 29 => 82 | 36 => 100 | 31 => 101 | 32 => 102 | 37 => 103 | 38 => 104 | 39 => 105 | 41 => 112 | n => n, fun | 27 => 22 | 29 => 9 | 3 => 3 | 32 => 94 | 26 => 22 | 0 => 0 | 44 => 98 | 46 => 81 | 4 => 4 | 36 => 108 | 35 => 107 | 41 => 36 | 5 => 5 | 9 => 9 | 53 => 128 | 57 => 132 | 63 => 144 | 64 => 145 | n => n, fun | n => n⟩
theorem Tryz.sort48 : Go.Proofs.SlLaysM.n6 Tryz.prog Tryz.sort48_ren := {
  mixed := by kernel_rfl
  f6 := ⟨Tryz.f48.name, by decide, Tryz.func48.trans (congrArg some (by kernel_rfl))⟩
  f8 := Tryz.func60.trans (congrArg some (by kernel_rfl))
  f9 := ⟨Tryz.f59.name, by decide, Tryz.func59.trans (congrArg some (by kernel_rfl))⟩
  f19 := Tryz.func83.trans (congrArg some (by kernel_rfl))
  f20 := Tryz.func62.trans (congrArg some (by kernel_rfl))
  f21 := ⟨Tryz.f74.name, by decide, Tryz.func74.trans (congrArg some (by kernel_rfl))⟩
  f22 := ⟨Tryz.f75.name, by decide, Tryz.func75.trans (congrArg some (by kernel_rfl))⟩
  f23 := ⟨Tryz.f76.name, by decide, Tryz.func76.trans (congrArg some (by kernel_rfl))⟩
  f24 := ⟨Tryz.f77.name, by decide, Tryz.func77.trans (congrArg some (by kernel_rfl))⟩
  f25 := ⟨Tryz.f78.name, by decide, Tryz.func78.trans (congrArg some (by kernel_rfl))⟩
  f26 := ⟨Tryz.f79.name, by decide, Tryz.func79.trans (congrArg some (by kernel_rfl))⟩
  f27 := ⟨Tryz.f80.name, by decide, Tryz.func80.trans (congrArg some (by kernel_rfl))⟩
  f28 := ⟨Tryz.f81.name, by decide, Tryz.func81.trans (congrArg some (by kernel_rfl))⟩
  f29 := ⟨Tryz.f82.name, by decide, Tryz.func82.trans (congrArg some (by kernel_rfl))⟩
  f31 := Tryz.func101.trans (congrArg some (by kernel_rfl))
  f32 := Tryz.func102.trans (congrArg some (by kernel_rfl))
  f36 := ⟨Tryz.f100.name, by decide, Tryz.func100.trans (congrArg some (by kernel_rfl))⟩
  f37 := ⟨Tryz.f103.name, by decide, Tryz.func103.trans (congrArg some (by kernel_rfl))⟩
  f38 := ⟨Tryz.f104.name, by decide, Tryz.func104.trans (congrArg some (by kernel_rfl))⟩
  f39 := ⟨Tryz.f105.name, by decide, Tryz.func105.trans (congrArg some (by kernel_rfl))⟩
  f41 := ⟨Tryz.f112.name, by decide, Tryz.func112.trans (congrArg some (by kernel_rfl))⟩
  t0 := Tryz.underlying0
  a0 := Tryz.isAgg0
  z0 := Tryz.sizeOf0
  v0 := Tryz.zeroValue0
  t3 := Tryz.underlying3
  a3 := Tryz.isAgg3
  z3 := Tryz.sizeOf3
  v3 := Tryz.zeroValue3
  t4 := Tryz.underlying4
  a4 := Tryz.isAgg4
  z4 := Tryz.sizeOf4
  v4 := Tryz.zeroValue4
  t5 := Tryz.underlying5
  a5 := Tryz.isAgg5
  z5 := Tryz.sizeOf5
  v5 := Tryz.zeroValue5
  t9 := Tryz.underlying9
  a9 := Tryz.isAgg9
  z9 := Tryz.sizeOf9
  v9 := Tryz.zeroValue9
  t26 := Tryz.underlying22
  a26 := Tryz.isAgg22
  z26 := Tryz.sizeOf22
  v26 := Tryz.zeroValue22
  t27 := Tryz.underlying22
  a27 := Tryz.isAgg22
  z27 := Tryz.sizeOf22
  v27 := Tryz.zeroValue22
  t29 := Tryz.underlying9
  a29 := Tryz.isAgg9
  z29 := Tryz.sizeOf9
  v29 := Tryz.zeroValue9
  t32 := Tryz.underlying94
  a32 := Tryz.isAgg94
  z32 := Tryz.sizeOf94
  v32 := Tryz.zeroValue94
  t35 := Tryz.underlying107
  a35 := Tryz.isAgg107
  z35 := Tryz.sizeOf107
  v35 := Tryz.zeroValue107
  t36 := Tryz.underlying108
  a36 := Tryz.isAgg108
  z36 := Tryz.sizeOf108
  v36 := Tryz.zeroValue108
  t41 := Tryz.underlying36
  a41 := Tryz.isAgg36
  z41 := Tryz.sizeOf36
  v41 := Tryz.zeroValue36
  t44 := Tryz.underlying98
  a44 := Tryz.isAgg98
  z44 := Tryz.sizeOf98
  v44 := Tryz.zeroValue98
  t46 := Tryz.underlying81
  a46 := Tryz.isAgg81
  z46 := Tryz.sizeOf81
  v46 := Tryz.zeroValue81
  t53 := Tryz.underlying128
  a53 := Tryz.isAgg128
  z53 := Tryz.sizeOf128
  v53 := Tryz.zeroValue128
  t57 := Tryz.underlying132
  a57 := Tryz.isAgg132
  z57 := Tryz.sizeOf132
  v57 := Tryz.zeroValue132
  t63 := Tryz.underlying144
  a63 := Tryz.isAgg144
  z63 := Tryz.sizeOf144
  v63 := Tryz.zeroValue144
  t64 := Tryz.underlying145
  a64 := Tryz.isAgg145
  z64 := Tryz.sizeOf145
  v64 := Tryz.zeroValue145 }
open Go.RowKit Go.Maps Go.Sort Go.Shelf in
/-- slices.Sort's two contracts at this dump, at the fence that asks nothing. -/
theorem Tryz.sorts42 (m : Nat) : AnyZ.SortsIn Tryz.prog Tryz.sorted42_ren Fence.wide m :=
  ⟨fun blk off cap ss W hH hblk hsz => callsIn_wide.2 (AnyM.slices_Sort_string Tryz.sort48 blk off cap ss W hH hblk hsz),
   fun p cap W => callsIn_wide.2 (AnyM.slices_Sort_string_none Tryz.sort48 p cap W)⟩
end Go.Proofs
