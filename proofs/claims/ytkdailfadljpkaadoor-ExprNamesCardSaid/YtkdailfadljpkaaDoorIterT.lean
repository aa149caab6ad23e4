/-
  DERIVED: THE SHELF's CONTRACTS AT THIS DUMP, IN PLAIN WORDS (tools/lay-plain.mjs out of 'TrydIter12s.lean', which tools/lay-shelf.mjs wrote): THE SAME DECLARATIONS UNDER THE SAME NAMES: 'import', 'namespace', 'open', 'def', 'theorem' AND NOTHING ELSE: no command of the shelf's: FOR A HAND-IN. Each laying: the table of numbers ('.._ren') and one theorem, a field a fact of the dump's own or the kernel's comparison; each contract: ONE APPLICATION.
-/
import Derived.Shelf.SlIter.Nil
import Derived.Shelf.SortM.Plain
import Derived.Shelf.SortM.SortNone
import Derived.Ground.GgzProg
import Derived.Ground.SlgmProg
import Derived.Test.YtkdailfadljpkaaDoorProg
namespace Go.Proofs
open Go.Shelf
def Tryd.keys20_ren : Go.Shelf.Ren := ⟨fun | 7 => 20 | 10 => 28 | n => n, fun | 23 => 39 | 26 => 9 | 3 => 3 | 28 => 50 | 0 => 0 | 27 => 49 | 33 => 64 | 4 => 4 | n => n, fun | n => n⟩
theorem Tryd.keys20 : Go.Proofs.SlLaysZ.n7 Tryd.prog Tryd.keys20_ren := {
  mixed := by kernel_rfl
  f7 := ⟨Tryd.f20.name, by decide, Tryd.func20.trans (congrArg some (by kernel_rfl))⟩
  f10 := ⟨Tryd.f28.name, by decide, Tryd.func28.trans (congrArg some (by kernel_rfl))⟩
  t0 := Tryd.underlying0
  a0 := Tryd.isAgg0
  z0 := Tryd.sizeOf0
  v0 := Tryd.zeroValue0
  t4 := Tryd.underlying4
  a4 := Tryd.isAgg4
  z4 := Tryd.sizeOf4
  v4 := Tryd.zeroValue4
  t23 := Tryd.underlying39
  a23 := Tryd.isAgg39
  z23 := Tryd.sizeOf39
  v23 := Tryd.zeroValue39
  t26 := Tryd.underlying9
  a26 := Tryd.isAgg9
  z26 := Tryd.sizeOf9
  v26 := Tryd.zeroValue9
  t27 := Tryd.underlying49
  a27 := Tryd.isAgg49
  z27 := Tryd.sizeOf49
  v27 := Tryd.zeroValue49
  t28 := Tryd.underlying50
  a28 := Tryd.isAgg50
  z28 := Tryd.sizeOf50
  v28 := Tryd.zeroValue50
  t33 := Tryd.underlying64
  a33 := Tryd.isAgg64
  z33 := Tryd.sizeOf64
  v33 := Tryd.zeroValue64 }
def Tryd.sorted19_ren : Go.Shelf.Ren := ⟨fun | 6 => 19 | 8 => 26 | 9 => 27 | 11 => 40 | 13 => 42 | 12 => 41 | 23 => 68 | 24 => 69 | 14 => 59 | 15 => 60 | 16 => 61 | 17 => 62 | 18 => 63 | 19 => 64 | 20 => 65 | 21 => 66 | 22 => 67 | 25 => 81 | 26 => 82 | 27 => 83 | 28 => 84 | 29 => 85 | 30 => 86 | 31 => 94 | n => n, fun | 26 => 9 | 28 => 50 | 24 => 23 | 0 => 0 | 3 => 3 | 37 => 77 | 48 => 102 | 50 => 54 | 4 => 4 | 40 => 96 | 39 => 95 | 45 => 45 | 5 => 5 | 9 => 9 | 51 => 118 | 55 => 122 | 57 => 139 | 58 => 140 | 33 => 64 | n => n, fun | n => n⟩
theorem Tryd.sorted19 : Go.Proofs.SlLaysZ.n6 Tryd.prog Tryd.sorted19_ren := {
  mixed := by kernel_rfl
  f6 := ⟨Tryd.f19.name, by decide, Tryd.func19.trans (congrArg some (by kernel_rfl))⟩
  f8 := ⟨Tryd.f26.name, by decide, Tryd.func26.trans (congrArg some (by kernel_rfl))⟩
  f11 := ⟨Tryd.f40.name, by decide, Tryd.func40.trans (congrArg some (by kernel_rfl))⟩
  t0 := Tryd.underlying0
  a0 := Tryd.isAgg0
  z0 := Tryd.sizeOf0
  v0 := Tryd.zeroValue0
  t24 := Tryd.underlying23
  a24 := Tryd.isAgg23
  z24 := Tryd.sizeOf23
  v24 := Tryd.zeroValue23
  t26 := Tryd.underlying9
  a26 := Tryd.isAgg9
  z26 := Tryd.sizeOf9
  v26 := Tryd.zeroValue9
  t28 := Tryd.underlying50
  a28 := Tryd.isAgg50
  z28 := Tryd.sizeOf50
  v28 := Tryd.zeroValue50
  i26 := by kernel_rfl }
def Tryd.sort27_ren : Go.Shelf.Ren := ⟨fun | 6 => 27 | 8 => 42 | 9 => 41 | 19 => 68 | 20 => 69 | 21 => 59 | 22 => 60 | 23 => 61 | 24 => 62 | 25 => 63 | 26 => 64 | 27 => 65 | 28 => 66 | 29 => 67 | 36 => 81 | 31 => 82 | 32 => 83 | 37 => 84 | 38 => 85 | 39 => 86 | 41 => 94 | n => n, fun | 27 => 23 | 29 => 9 | 3 => 3 | 32 => 77 | 26 => 23 | 0 => 0 | 44 => 102 | 46 => 54 | 4 => 4 | 36 => 96 | 35 => 95 | 41 => 45 | 5 => 5 | 9 => 9 | 53 => 118 | 57 => 122 | 63 => 139 | 64 => 140 | n => n, fun | n => n⟩
theorem Tryd.sort27 : Go.Proofs.SlLaysM.n6 Tryd.prog Tryd.sort27_ren := {
  mixed := by kernel_rfl
  f6 := ⟨Tryd.f27.name, by decide, Tryd.func27.trans (congrArg some (by kernel_rfl))⟩
  f8 := Tryd.func42.trans (congrArg some (by kernel_rfl))
  f9 := ⟨Tryd.f41.name, by decide, Tryd.func41.trans (congrArg some (by kernel_rfl))⟩
  f19 := Tryd.func68.trans (congrArg some (by kernel_rfl))
  f20 := Tryd.func69.trans (congrArg some (by kernel_rfl))
  f21 := ⟨Tryd.f59.name, by decide, Tryd.func59.trans (congrArg some (by kernel_rfl))⟩
  f22 := ⟨Tryd.f60.name, by decide, Tryd.func60.trans (congrArg some (by kernel_rfl))⟩
  f23 := ⟨Tryd.f61.name, by decide, Tryd.func61.trans (congrArg some (by kernel_rfl))⟩
  f24 := ⟨Tryd.f62.name, by decide, Tryd.func62.trans (congrArg some (by kernel_rfl))⟩
  f25 := ⟨Tryd.f63.name, by decide, Tryd.func63.trans (congrArg some (by kernel_rfl))⟩
  f26 := ⟨Tryd.f64.name, by decide, Tryd.func64.trans (congrArg some (by kernel_rfl))⟩
  f27 := ⟨Tryd.f65.name, by decide, Tryd.func65.trans (congrArg some (by kernel_rfl))⟩
  f28 := ⟨Tryd.f66.name, by decide, Tryd.func66.trans (congrArg some (by kernel_rfl))⟩
  f29 := ⟨Tryd.f67.name, by decide, Tryd.func67.trans (congrArg some (by kernel_rfl))⟩
  f31 := Tryd.func82.trans (congrArg some (by kernel_rfl))
  f32 := Tryd.func83.trans (congrArg some (by kernel_rfl))
  f36 := ⟨Tryd.f81.name, by decide, Tryd.func81.trans (congrArg some (by kernel_rfl))⟩
  f37 := ⟨Tryd.f84.name, by decide, Tryd.func84.trans (congrArg some (by kernel_rfl))⟩
  f38 := ⟨Tryd.f85.name, by decide, Tryd.func85.trans (congrArg some (by kernel_rfl))⟩
  f39 := ⟨Tryd.f86.name, by decide, Tryd.func86.trans (congrArg some (by kernel_rfl))⟩
  f41 := ⟨Tryd.f94.name, by decide, Tryd.func94.trans (congrArg some (by kernel_rfl))⟩
  t0 := Tryd.underlying0
  a0 := Tryd.isAgg0
  z0 := Tryd.sizeOf0
  v0 := Tryd.zeroValue0
  t3 := Tryd.underlying3
  a3 := Tryd.isAgg3
  z3 := Tryd.sizeOf3
  v3 := Tryd.zeroValue3
  t4 := Tryd.underlying4
  a4 := Tryd.isAgg4
  z4 := Tryd.sizeOf4
  v4 := Tryd.zeroValue4
  t5 := Tryd.underlying5
  a5 := Tryd.isAgg5
  z5 := Tryd.sizeOf5
  v5 := Tryd.zeroValue5
  t9 := Tryd.underlying9
  a9 := Tryd.isAgg9
  z9 := Tryd.sizeOf9
  v9 := Tryd.zeroValue9
  t26 := Tryd.underlying23
  a26 := Tryd.isAgg23
  z26 := Tryd.sizeOf23
  v26 := Tryd.zeroValue23
  t27 := Tryd.underlying23
  a27 := Tryd.isAgg23
  z27 := Tryd.sizeOf23
  v27 := Tryd.zeroValue23
  t29 := Tryd.underlying9
  a29 := Tryd.isAgg9
  z29 := Tryd.sizeOf9
  v29 := Tryd.zeroValue9
  t32 := Tryd.underlying77
  a32 := Tryd.isAgg77
  z32 := Tryd.sizeOf77
  v32 := Tryd.zeroValue77
  t35 := Tryd.underlying95
  a35 := Tryd.isAgg95
  z35 := Tryd.sizeOf95
  v35 := Tryd.zeroValue95
  t36 := Tryd.underlying96
  a36 := Tryd.isAgg96
  z36 := Tryd.sizeOf96
  v36 := Tryd.zeroValue96
  t41 := Tryd.underlying45
  a41 := Tryd.isAgg45
  z41 := Tryd.sizeOf45
  v41 := Tryd.zeroValue45
  t44 := Tryd.underlying102
  a44 := Tryd.isAgg102
  z44 := Tryd.sizeOf102
  v44 := Tryd.zeroValue102
  t46 := Tryd.underlying54
  a46 := Tryd.isAgg54
  z46 := Tryd.sizeOf54
  v46 := Tryd.zeroValue54
  t53 := Tryd.underlying118
  a53 := Tryd.isAgg118
  z53 := Tryd.sizeOf118
  v53 := Tryd.zeroValue118
  t57 := Tryd.underlying122
  a57 := Tryd.isAgg122
  z57 := Tryd.sizeOf122
  v57 := Tryd.zeroValue122
  t63 := Tryd.underlying139
  a63 := Tryd.isAgg139
  z63 := Tryd.sizeOf139
  v63 := Tryd.zeroValue139
  t64 := Tryd.underlying140
  a64 := Tryd.isAgg140
  z64 := Tryd.sizeOf140
  v64 := Tryd.zeroValue140 }
open Go.RowKit Go.Maps Go.Sort Go.Shelf in
/-- slices.Sort's two contracts at this dump, at the fence that asks nothing. -/
theorem Tryd.sorts19 (m : Nat) : AnyZ.SortsIn Tryd.prog Tryd.sorted19_ren Fence.wide m :=
  ⟨fun blk off cap ss W hH hblk hsz => callsIn_wide.2 (AnyM.slices_Sort_string Tryd.sort27 blk off cap ss W hH hblk hsz),
   fun p cap W => callsIn_wide.2 (AnyM.slices_Sort_string_none Tryd.sort27 p cap W)⟩
end Go.Proofs
