/-
  DERIVED: THE SHELF's CONTRACTS AT THIS DUMP, IN PLAIN WORDS (tools/lay-plain.mjs out of 'TryIter20s.lean', which tools/lay-shelf.mjs wrote): THE SAME DECLARATIONS UNDER THE SAME NAMES: 'import', 'namespace', 'open', 'def', 'theorem' AND NOTHING ELSE: no command of the shelf's: FOR A HAND-IN. Each laying: the table of numbers ('.._ren') and one theorem, a field a fact of the dump's own or the kernel's comparison; each contract: ONE APPLICATION.
-/
import Derived.Shelf.SlIter.Nil
import Derived.Shelf.SortM.Plain
import Derived.Shelf.SortM.SortNone
import Derived.Ground.GgzProg
import Derived.Ground.SlgmProg
import Derived.Test.YtkdailfadljpkaaProg
namespace Go.Proofs
open Go.Shelf
def Try.keys10_ren : Go.Shelf.Ren := ⟨fun | 7 => 10 | 10 => 18 | n => n, fun | 23 => 40 | 26 => 9 | 3 => 44 | 28 => 54 | 0 => 0 | 27 => 53 | 33 => 61 | 4 => 4 | n => n, fun | n => n⟩
theorem Try.keys10 : Go.Proofs.SlLaysZ.n7 Try.prog Try.keys10_ren := {
  mixed := by kernel_rfl
  f7 := ⟨Try.f10.name, by decide, Try.func10.trans (congrArg some (by kernel_rfl))⟩
  f10 := ⟨Try.f18.name, by decide, Try.func18.trans (congrArg some (by kernel_rfl))⟩
  t0 := Try.underlying0
  a0 := Try.isAgg0
  z0 := Try.sizeOf0
  v0 := Try.zeroValue0
  t4 := Try.underlying4
  a4 := Try.isAgg4
  z4 := Try.sizeOf4
  v4 := Try.zeroValue4
  t23 := Try.underlying40
  a23 := Try.isAgg40
  z23 := Try.sizeOf40
  v23 := Try.zeroValue40
  t26 := Try.underlying9
  a26 := Try.isAgg9
  z26 := Try.sizeOf9
  v26 := Try.zeroValue9
  t27 := Try.underlying53
  a27 := Try.isAgg53
  z27 := Try.sizeOf53
  v27 := Try.zeroValue53
  t28 := Try.underlying54
  a28 := Try.isAgg54
  z28 := Try.sizeOf54
  v28 := Try.zeroValue54
  t33 := Try.underlying61
  a33 := Try.isAgg61
  z33 := Try.sizeOf61
  v33 := Try.zeroValue61 }
def Try.sorted9_ren : Go.Shelf.Ren := ⟨fun | 6 => 9 | 8 => 16 | 9 => 17 | 11 => 24 | 13 => 26 | 12 => 25 | 23 => 39 | 24 => 40 | 14 => 30 | 15 => 31 | 16 => 32 | 17 => 33 | 18 => 34 | 19 => 35 | 20 => 36 | 21 => 37 | 22 => 38 | 25 => 42 | 26 => 43 | 27 => 44 | 28 => 45 | 29 => 46 | 30 => 47 | 31 => 49 | n => n, fun | 26 => 9 | 28 => 54 | 24 => 51 | 0 => 0 | 3 => 3 | 37 => 74 | 48 => 87 | 50 => 89 | 4 => 4 | 40 => 80 | 39 => 79 | 45 => 84 | 5 => 5 | 9 => 9 | 51 => 91 | 55 => 95 | 57 => 97 | 58 => 98 | 33 => 61 | n => n, fun | n => n⟩
theorem Try.sorted9 : Go.Proofs.SlLaysZ.n6 Try.prog Try.sorted9_ren := {
  mixed := by kernel_rfl
  f6 := ⟨Try.f9.name, by decide, Try.func9.trans (congrArg some (by kernel_rfl))⟩
  f8 := ⟨Try.f16.name, by decide, Try.func16.trans (congrArg some (by kernel_rfl))⟩
  f11 := ⟨Try.f24.name, by decide, Try.func24.trans (congrArg some (by kernel_rfl))⟩
  t0 := Try.underlying0
  a0 := Try.isAgg0
  z0 := Try.sizeOf0
  v0 := Try.zeroValue0
  t24 := Try.underlying51
  a24 := Try.isAgg51
  z24 := Try.sizeOf51
  v24 := Try.zeroValue51
  t26 := Try.underlying9
  a26 := Try.isAgg9
  z26 := Try.sizeOf9
  v26 := Try.zeroValue9
  t28 := Try.underlying54
  a28 := Try.isAgg54
  z28 := Try.sizeOf54
  v28 := Try.zeroValue54
  i26 := by kernel_rfl }
def Try.sort17_ren : Go.Shelf.Ren := ⟨fun | 6 => 17 | 8 => 26 | 9 => 25 | 19 => 39 | 20 => 40 | 21 => 30 | 22 => 31 | 23 => 32 | 24 => 33 | 25 => 34 | 26 => 35 | 27 => 36 | 28 => 37 | 29 => 38 | 36 => 42 | 31 => 43 | 32 => 44 | 37 => 45 | 38 => 46 | 39 => 47 | 41 => 49 | n => n, fun | 27 => 51 | 29 => 9 | 3 => 3 | 32 => 74 | 26 => 51 | 0 => 0 | 44 => 87 | 46 => 89 | 4 => 4 | 36 => 80 | 35 => 79 | 41 => 84 | 5 => 5 | 9 => 9 | 53 => 91 | 57 => 95 | 63 => 97 | 64 => 98 | n => n, fun | n => n⟩
theorem Try.sort17 : Go.Proofs.SlLaysM.n6 Try.prog Try.sort17_ren := {
  mixed := by kernel_rfl
  f6 := ⟨Try.f17.name, by decide, Try.func17.trans (congrArg some (by kernel_rfl))⟩
  f8 := Try.func26.trans (congrArg some (by kernel_rfl))
  f9 := ⟨Try.f25.name, by decide, Try.func25.trans (congrArg some (by kernel_rfl))⟩
  f19 := Try.func39.trans (congrArg some (by kernel_rfl))
  f20 := Try.func40.trans (congrArg some (by kernel_rfl))
  f21 := ⟨Try.f30.name, by decide, Try.func30.trans (congrArg some (by kernel_rfl))⟩
  f22 := ⟨Try.f31.name, by decide, Try.func31.trans (congrArg some (by kernel_rfl))⟩
  f23 := ⟨Try.f32.name, by decide, Try.func32.trans (congrArg some (by kernel_rfl))⟩
  f24 := ⟨Try.f33.name, by decide, Try.func33.trans (congrArg some (by kernel_rfl))⟩
  f25 := ⟨Try.f34.name, by decide, Try.func34.trans (congrArg some (by kernel_rfl))⟩
  f26 := ⟨Try.f35.name, by decide, Try.func35.trans (congrArg some (by kernel_rfl))⟩
  f27 := ⟨Try.f36.name, by decide, Try.func36.trans (congrArg some (by kernel_rfl))⟩
  f28 := ⟨Try.f37.name, by decide, Try.func37.trans (congrArg some (by kernel_rfl))⟩
  f29 := ⟨Try.f38.name, by decide, Try.func38.trans (congrArg some (by kernel_rfl))⟩
  f31 := Try.func43.trans (congrArg some (by kernel_rfl))
  f32 := Try.func44.trans (congrArg some (by kernel_rfl))
  f36 := ⟨Try.f42.name, by decide, Try.func42.trans (congrArg some (by kernel_rfl))⟩
  f37 := ⟨Try.f45.name, by decide, Try.func45.trans (congrArg some (by kernel_rfl))⟩
  f38 := ⟨Try.f46.name, by decide, Try.func46.trans (congrArg some (by kernel_rfl))⟩
  f39 := ⟨Try.f47.name, by decide, Try.func47.trans (congrArg some (by kernel_rfl))⟩
  f41 := ⟨Try.f49.name, by decide, Try.func49.trans (congrArg some (by kernel_rfl))⟩
  t0 := Try.underlying0
  a0 := Try.isAgg0
  z0 := Try.sizeOf0
  v0 := Try.zeroValue0
  t3 := Try.underlying3
  a3 := Try.isAgg3
  z3 := Try.sizeOf3
  v3 := Try.zeroValue3
  t4 := Try.underlying4
  a4 := Try.isAgg4
  z4 := Try.sizeOf4
  v4 := Try.zeroValue4
  t5 := Try.underlying5
  a5 := Try.isAgg5
  z5 := Try.sizeOf5
  v5 := Try.zeroValue5
  t9 := Try.underlying9
  a9 := Try.isAgg9
  z9 := Try.sizeOf9
  v9 := Try.zeroValue9
  t26 := Try.underlying51
  a26 := Try.isAgg51
  z26 := Try.sizeOf51
  v26 := Try.zeroValue51
  t27 := Try.underlying51
  a27 := Try.isAgg51
  z27 := Try.sizeOf51
  v27 := Try.zeroValue51
  t29 := Try.underlying9
  a29 := Try.isAgg9
  z29 := Try.sizeOf9
  v29 := Try.zeroValue9
  t32 := Try.underlying74
  a32 := Try.isAgg74
  z32 := Try.sizeOf74
  v32 := Try.zeroValue74
  t35 := Try.underlying79
  a35 := Try.isAgg79
  z35 := Try.sizeOf79
  v35 := Try.zeroValue79
  t36 := Try.underlying80
  a36 := Try.isAgg80
  z36 := Try.sizeOf80
  v36 := Try.zeroValue80
  t41 := Try.underlying84
  a41 := Try.isAgg84
  z41 := Try.sizeOf84
  v41 := Try.zeroValue84
  t44 := Try.underlying87
  a44 := Try.isAgg87
  z44 := Try.sizeOf87
  v44 := Try.zeroValue87
  t46 := Try.underlying89
  a46 := Try.isAgg89
  z46 := Try.sizeOf89
  v46 := Try.zeroValue89
  t53 := Try.underlying91
  a53 := Try.isAgg91
  z53 := Try.sizeOf91
  v53 := Try.zeroValue91
  t57 := Try.underlying95
  a57 := Try.isAgg95
  z57 := Try.sizeOf95
  v57 := Try.zeroValue95
  t63 := Try.underlying97
  a63 := Try.isAgg97
  z63 := Try.sizeOf97
  v63 := Try.zeroValue97
  t64 := Try.underlying98
  a64 := Try.isAgg98
  z64 := Try.sizeOf98
  v64 := Try.zeroValue98 }
open Go.RowKit Go.Maps Go.Sort Go.Shelf in
/-- slices.Sort's two contracts at this dump, at the fence that asks nothing. -/
theorem Try.sorts9 (m : Nat) : AnyZ.SortsIn Try.prog Try.sorted9_ren Fence.wide m :=
  ⟨fun blk off cap ss W hH hblk hsz => callsIn_wide.2 (AnyM.slices_Sort_string Try.sort17 blk off cap ss W hH hblk hsz),
   fun p cap W => callsIn_wide.2 (AnyM.slices_Sort_string_none Try.sort17 p cap W)⟩
end Go.Proofs
