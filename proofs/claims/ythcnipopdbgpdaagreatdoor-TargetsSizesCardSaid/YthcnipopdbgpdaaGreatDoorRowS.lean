/- The row's own facts, and the world of its witness. No condition. -/
import Derived.Test.YthcnipopdbgpdaaGreatDoorCards
import Derived.Test.YthcnipopdbgpdaaGreatDoorTie
import Derived.WalkKit
import Derived.ProofKit
import Derived.OpenShut
import Derived.Deep.DeepHandedRow
import Derived.Deep.DeepWitnessRowRef
import Derived.Lib.LaidIn
import Derived.Test.YthcnipopdbgpdaaGreatDoorDmD
import Derived.Test.YthcnipopdbgpdaaGreatDoorPrimsT
namespace Go.Proofs.YthcnipopdbgpdaaGreatDoor.targetsSizes
open Go.ChangeShapes Go.WideShapes Go.ChangeAt Go.RowKit
set_option maxRecDepth 1000000
noncomputable def Sj (os : Os) : World := DM.layWorld Tryz.prog 338 340 (World.holding Tryz.prog os ⟨#[], #[], []⟩) [("math/bits.deBruijn32tab", Rows.laid_math_bits_deBruijn32tab), ("math/bits.deBruijn64tab", Rows.laid_math_bits_deBruijn64tab), ("internal/strconv.uint64pow10", Rows.laid_internal_strconv_uint64pow10), ("unicode/utf8.acceptRanges", Rows.laid_unicode_utf8_acceptRanges), ("strconv.ErrRange", Rows.laid_strconv_ErrRange), ("strconv.ErrSyntax", Rows.laid_strconv_ErrSyntax), ("strings.asciiSpace", Rows.laid_strings_asciiSpace), ("unicode/utf8.first", Rows.laid_unicode_utf8_first)]
noncomputable def Ni : Nat := (World.holding Tryz.prog default ⟨#[], #[], []⟩).heap.size
noncomputable def Wz (w : World) : World := { w with heap := ((w.heap.modify 3 (DM.withCells #[.pointer (some ⟨Ni + 2, 0, none⟩)])).push (.cells #[.slice (some ⟨Ni + 3, 0, none⟩) 7 7, .slice none 0 0, .int .i64 2] 315 (0, 0))).push (.cells #[.int .u16 9, .int .u16 13, .int .u16 1, .int .u16 32, .int .u16 133, .int .u16 101, .int .u16 160, .int .u16 5760, .int .u16 5600, .int .u16 8192, .int .u16 8202, .int .u16 1, .int .u16 8232, .int .u16 8233, .int .u16 1, .int .u16 8239, .int .u16 8287, .int .u16 48, .int .u16 12288, .int .u16 12288, .int .u16 1] 318 (0, 0)) }
theorem Ur (w : World) : (Wz w).os = w.os := rfl
noncomputable def Cs (os : Os) : World := Wz (Sj os)
theorem Us (os : Os) : (Sj os).os = os := DM.layWorld_os _ _ _ _ _
theorem O8 (os : Os) : (Cs os).os = os := (Ur (Sj os)).trans (Us os)
def Ab9 : List (String × DataW Unit) := [("math/bits.deBruijn32tab", Rows.laid_math_bits_deBruijn32tab), ("math/bits.deBruijn64tab", Rows.laid_math_bits_deBruijn64tab), ("internal/strconv.uint64pow10", Rows.laid_internal_strconv_uint64pow10), ("unicode/utf8.acceptRanges", Rows.laid_unicode_utf8_acceptRanges), ("strconv.ErrRange", Rows.laid_strconv_ErrRange), ("strconv.ErrSyntax", Rows.laid_strconv_ErrSyntax)]
def Aca : List (String × DataW Unit) := [("unicode.White_Space", Rows.laid_unicode_White_Space)]
def Acb : List (String × DataW Unit) := [("strings.asciiSpace", Rows.laid_strings_asciiSpace)]
def Acc : List (String × DataW Unit) := [("unicode/utf8.first", Rows.laid_unicode_utf8_first)]
theorem Yg : Rows.targetsSizesRow.laid = Ab9 ++ Aca ++ Acb ++ Acc := rfl
theorem W0 (os : Os) : laidMet Tryz.prog Rows.targetsSizesRow.laid ((Cs os).forCall (fun _ _ => 0) ⟨#[], #[], []⟩).memory := by
 rw [Yg]
 exact LaidIn.met ((((LaidIn.of_run [8, 9, 7, 2, 6, Ni, Ni + 1, 5] 8 (by kernel_rfl) (by kernel_rfl) (by kernel_rfl) (by kernel_rfl) : LaidIn Tryz.prog ((Cs os).forCall (fun _ _ => 0) ⟨#[], #[], []⟩).memory Ab9 _).append
  (LaidIn.of_run [3, Ni + 2, Ni + 3] 8 (by kernel_rfl) (by kernel_rfl) (by kernel_rfl) (by kernel_rfl) : LaidIn Tryz.prog _ Aca _) (by kernel_rfl)).append
  (LaidIn.of_run [0] 8 (by kernel_rfl) (by kernel_rfl) (by kernel_rfl) (by kernel_rfl) : LaidIn Tryz.prog _ Acb _) (by kernel_rfl)).append
  (LaidIn.of_run [1] 8 (by kernel_rfl) (by kernel_rfl) (by kernel_rfl) (by kernel_rfl) : LaidIn Tryz.prog _ Acc _) (by kernel_rfl))
theorem Afg (os : Os) {H : Type} (enc : TypeId × Value → H) : ∃ Gp, DataW.whole enc Tryz.prog ((Cs os).forCall (fun _ _ => 0) ⟨#[], #[], []⟩).memory Tryz.f4.params.toList Rows.targetsSizesSpec.vars false (#[] : Array Value).toList 8 = some ([], [], Gp) :=
 ⟨[], by kernel_rfl⟩

theorem Adk : Tryz.checked.prog.inits.idxOf? 4 = none := by kernel_rfl
theorem Adl (os : Os) : ((Cs os).forCall (fun _ _ => 0) ⟨#[], #[], []⟩).variablesRefB Tryz.checked.prog = true := by kernel_rfl
theorem Adm (os : Os) : (((Cs os).forCall (fun _ _ => 0) ⟨#[], #[], []⟩).heap.toList.drop Tryz.checked.prog.globals.size).take ((begin Tryz.checked.prog (fun _ _ => 0) default).world.heap.size - Tryz.checked.prog.globals.size) =
  (begin Tryz.checked.prog (fun _ _ => 0) default).world.heap.toList.drop Tryz.checked.prog.globals.size := by kernel_rfl
theorem f_ok (os : Os) : Input.okWideB Tryz.checked.prog ((Cs os).forCall (fun _ _ => 0) ⟨#[], #[], []⟩) 4 ⟨#[], #[], []⟩ = true := by kernel_rfl
theorem Adn (os : Os) {H : Type} (enc : TypeId × Value → H) : (OpenSpec.ofChange Rows.targetsSizesSpec).bare.sizedB enc Tryz.prog Tryz.f4 false ((Cs os).forCall (fun _ _ => 0) ⟨#[], #[], []⟩).memory #[] 8 = true := by kernel_rfl
theorem Yh : Tryz.pinned.checked.prog.funcNamed Rows.targetsSizesRow.func = some 4 := by kernel_rfl
theorem j0 : (Rows.targetsSizesRow.wf (OpenSpec.ofChange (OpenSpec.ofChange Rows.targetsSizesSpec).bare)) = true := by kernel_rfl
theorem j1 : (laidOutB Tryz.pinned.checked.prog) = true := by kernel_rfl
theorem j2 : (mapsRowed Tryz.pinned.checked.prog) = true := by kernel_rfl
theorem j3 : (Tryz.f4.params.all (Tryz.pinned.checked.prog.readableRec ·)) = true := by kernel_rfl
theorem j4 : (namedTie Tryz.pinned.checked.prog Rows.targetsSizesRow.named (OpenSpec.ofChange Rows.targetsSizesSpec).bare.vars) = true := by kernel_rfl
theorem j5 : ((Rows.targetsSizesRow.stops == [])) = true := by kernel_rfl
theorem j6 : ((Tryz.pinned.checked.prog.stops == [])) = true := by kernel_rfl
theorem j7 : ((Rows.targetsSizesRow.knobs == [])) = true := by kernel_rfl
theorem j8 : ((Tryz.pinned.checked.prog.stopKnobs == [])) = true := by kernel_rfl
theorem j9 : ((Rows.targetsSizesRow.inPlace == Tryz.pinned.checked.prog.inPlace 4)) = true := by kernel_rfl
theorem j10 : ((Rows.targetsSizesRow.unfollowed == Tryz.pinned.checked.prog.unfollowed 4)) = true := by kernel_rfl
theorem j11 : ((Rows.targetsSizesRow.recurses == Tryz.pinned.checked.prog.recurses 4)) = true := by kernel_rfl
theorem j12 : ((Rows.targetsSizesRow.named == Tryz.pinned.checked.prog.varsNamed 4)) = true := by kernel_rfl
theorem j13 : ((Rows.targetsSizesRow.maps == (Tryz.f4.params.toList ++ (OpenSpec.ofChange Rows.targetsSizesSpec).bare.plain.varTypes Tryz.pinned.checked.prog).any (Tryz.pinned.checked.prog.mapsRec ·))) = true := by kernel_rfl
theorem j14 : ((Rows.targetsSizesRow.ifaces == (Tryz.f4.params.toList ++ (OpenSpec.ofChange Rows.targetsSizesSpec).bare.plain.varTypes Tryz.pinned.checked.prog).any (Tryz.pinned.checked.prog.ifacesRec ·))) = true := by kernel_rfl
theorem j15 : ((Rows.targetsSizesRow.mapsOut == Tryz.pinned.checked.prog.mapsAmong Tryz.f4.resultTypes.toList)) = true := by kernel_rfl
theorem j16 : ((Rows.targetsSizesRow.loops == (Tryz.f4.params.toList ++ (OpenSpec.ofChange Rows.targetsSizesSpec).bare.plain.varTypes Tryz.pinned.checked.prog).any (Tryz.pinned.checked.prog.loopsFrom ·))) = true := by kernel_rfl
theorem j17 : ((Rows.targetsSizesRow.wideKeys == (Tryz.f4.params.toList ++ (OpenSpec.ofChange Rows.targetsSizesSpec).bare.plain.varTypes Tryz.pinned.checked.prog ++ Tryz.f4.resultTypes.toList).any (Tryz.pinned.checked.prog.wideKeysFrom ·))) = true := by kernel_rfl
theorem j18 : ((OpenSpec.ofChange Rows.targetsSizesSpec).bare.vars.all (Tryz.pinned.checked.prog.varReadable ·)) = true := by kernel_rfl
theorem j19 : (Tryz.f4.resultTypes.all (fun t => Tryz.pinned.checked.prog.readableRec t && decide (t < Tryz.pinned.checked.prog.types.size))) = true := by kernel_rfl
theorem j20 : ((Rows.targetsSizesRow.ifacesOut == Tryz.f4.resultTypes.toList.any (Tryz.pinned.checked.prog.ifacesRec ·))) = true := by kernel_rfl
theorem j21 : ((Rows.targetsSizesRow.loopsOut == Tryz.f4.resultTypes.toList.any (Tryz.pinned.checked.prog.loopsFrom ·))) = true := by kernel_rfl
theorem j22 : ((Rows.targetsSizesRow.plainKeys == Tryz.pinned.checked.prog.plainKeys)) = true := by kernel_rfl
theorem j23 : (Rows.targetsSizesRow.shortTexts.isNone) = true := by kernel_rfl
theorem j24 : (Tryz.pinned.checked.prog.stopsHeard) = true := by kernel_rfl
theorem j25 : (Tryz.pinned.checked.prog.mayEnter) = true := by kernel_rfl
theorem j26 : ((Rows.targetsSizesRow.lifted == Tryz.pinned.checked.prog.liftsFinal)) = true := by kernel_rfl
theorem j27 : ((Tryz.pinned.checked.prog.make == some Rows.targetsSizesRow.make)) = true := by kernel_rfl
theorem j28 : ((Rows.targetsSizesRow.kinds == (if Rows.targetsSizesRow.domain.isEmpty then [] else Tryz.f4.params.toList.map fun t => match Tryz.pinned.checked.prog.underlying t with | some (.int k) => some k | _ => none))) = true := by kernel_rfl
theorem j29 : ((Rows.targetsSizesRow.pinned == Rows.targetsSizesRow.pinnedBy)) = true := by kernel_rfl
theorem j30 : ((Rows.targetsSizesRow.veiled == (Tryz.f4.params.toList ++ (OpenSpec.ofChange Rows.targetsSizesSpec).bare.plain.varTypes Tryz.pinned.checked.prog ++ Tryz.f4.resultTypes.toList).any (Tryz.pinned.checked.prog.veiledRec ·))) = true := by kernel_rfl
theorem j31 : (Rows.targetsSizesRow.veiledFits Tryz.pinned.checked.prog Tryz.f4.params.toList (Tryz.f4.params.toList ++ (OpenSpec.ofChange Rows.targetsSizesSpec).bare.plain.varTypes Tryz.pinned.checked.prog ++ Tryz.f4.resultTypes.toList)) = true := by kernel_rfl
theorem W1 : joinedFacts Tryz.pinned.checked.prog 4 Tryz.f4 (OpenSpec.ofChange Rows.targetsSizesSpec).bare Rows.targetsSizesRow = true := by
 unfold joinedFacts
 exact (Bool.and_eq_true_iff.2 ⟨(Bool.and_eq_true_iff.2 ⟨(Bool.and_eq_true_iff.2 ⟨(Bool.and_eq_true_iff.2 ⟨(Bool.and_eq_true_iff.2 ⟨(Bool.and_eq_true_iff.2 ⟨(Bool.and_eq_true_iff.2 ⟨(Bool.and_eq_true_iff.2 ⟨(Bool.and_eq_true_iff.2 ⟨(Bool.and_eq_true_iff.2 ⟨(Bool.and_eq_true_iff.2 ⟨(Bool.and_eq_true_iff.2 ⟨(Bool.and_eq_true_iff.2 ⟨(Bool.and_eq_true_iff.2 ⟨(Bool.and_eq_true_iff.2 ⟨(Bool.and_eq_true_iff.2 ⟨(Bool.and_eq_true_iff.2 ⟨(Bool.and_eq_true_iff.2 ⟨(Bool.and_eq_true_iff.2 ⟨(Bool.and_eq_true_iff.2 ⟨(Bool.and_eq_true_iff.2 ⟨(Bool.and_eq_true_iff.2 ⟨(Bool.and_eq_true_iff.2 ⟨(Bool.and_eq_true_iff.2 ⟨(Bool.and_eq_true_iff.2 ⟨(Bool.and_eq_true_iff.2 ⟨(Bool.and_eq_true_iff.2 ⟨(Bool.and_eq_true_iff.2 ⟨(Bool.and_eq_true_iff.2 ⟨(Bool.and_eq_true_iff.2 ⟨(Bool.and_eq_true_iff.2 ⟨j0, j1⟩), j2⟩), j3⟩), j4⟩), j5⟩), j6⟩), j7⟩), j8⟩), j9⟩), j10⟩), j11⟩), j12⟩), j13⟩), j14⟩), j15⟩), j16⟩), j17⟩), j18⟩), j19⟩), j20⟩), j21⟩), j22⟩), j23⟩), j24⟩), j25⟩), j26⟩), j27⟩), j28⟩), j29⟩), j30⟩), j31⟩)
theorem plain (f : FuncId) (fn : Func) (hf : Tryz.pinned.checked.prog.funcNamed "dovetail/dovetaillaw10.TargetsSizes" = some f) (hfn : Tryz.pinned.checked.prog.funcs[f]? = some fn) :
  true = Tryz.pinned.checked.prog.looks [] ∧ ∀ (j : Nat) t, fn.params[j]? = some t → Tryz.pinned.checked.prog.wantsStandIn t = false := by
 obtain rfl : f = 4 := Option.some.inj ((show Tryz.prog.funcNamed "dovetail/dovetaillaw10.TargetsSizes" = some 4 by kernel_rfl).symm.trans hf) |>.symm
 obtain rfl : fn = Tryz.f4 := (Option.some.inj (Tryz.func4.symm.trans hfn)).symm
 refine ⟨by kernel_rfl, fun j t ht => ?_⟩
 rw [Tryz.params4] at ht
 simp at ht

theorem Ado : Rows.targetsSizesRow.wfByText (OpenSpec.ofChange Rows.targetsSizesSpec) = true := by kernel_rfl
theorem Adp : Tryz.pinned.checked.prog.mainIs = some (true, "9a846014459d128685bc1bcb9b75686fb70b6664444d1c2130fb27e327dbe72a".toList) := by kernel_rfl
theorem Adq : false = Rows.targetsSizesRow.goesBy Tryz.pinned.checked.prog := by kernel_rfl
end Go.Proofs.YthcnipopdbgpdaaGreatDoor.targetsSizes
