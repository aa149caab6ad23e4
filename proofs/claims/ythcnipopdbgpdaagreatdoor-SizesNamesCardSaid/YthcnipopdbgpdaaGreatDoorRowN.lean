/- The row's own facts, and the world of its witness. No condition. -/
import Derived.Test.YthcnipopdbgpdaaGreatDoorCards
import Derived.Test.YthcnipopdbgpdaaGreatDoorTie
import Derived.WalkKit
import Derived.ProofKit
import Derived.OpenShut
import Derived.Deep.DeepHandedRow
import Derived.Deep.DeepWitnessRowRef
import Derived.Lib.LaidIn
import Derived.Test.YthcnipopdbgpdaaGreatDoorDmD
import Derived.Test.YthcnipopdbgpdaaGreatDoorPrimsT
namespace Go.Proofs.YthcnipopdbgpdaaGreatDoor.sizesNames
open Go.ChangeShapes Go.WideShapes Go.ChangeAt Go.RowKit
set_option maxRecDepth 1000000
noncomputable def world0 (os : Os) : World := DM.layWorld Tryz.prog 338 340 (World.holding Tryz.prog os ⟨#[], #[], []⟩) [("math/bits.deBruijn32tab", Rows.laid_math_bits_deBruijn32tab), ("math/bits.deBruijn64tab", Rows.laid_math_bits_deBruijn64tab), ("internal/strconv.uint64pow10", Rows.laid_internal_strconv_uint64pow10), ("unicode/utf8.acceptRanges", Rows.laid_unicode_utf8_acceptRanges), ("strconv.ErrRange", Rows.laid_strconv_ErrRange), ("strconv.ErrSyntax", Rows.laid_strconv_ErrSyntax), ("strings.asciiSpace", Rows.laid_strings_asciiSpace), ("unicode/utf8.first", Rows.laid_unicode_utf8_first)]
noncomputable def size0 : Nat := (World.holding Tryz.prog default ⟨#[], #[], []⟩).heap.size
noncomputable def pushWs (w : World) : World := { w with heap := ((w.heap.modify 3 (DM.withCells #[.pointer (some ⟨size0 + 2, 0, none⟩)])).push (.cells #[.slice (some ⟨size0 + 3, 0, none⟩) 7 7, .slice none 0 0, .int .i64 2] 315 (0, 0))).push (.cells #[.int .u16 9, .int .u16 13, .int .u16 1, .int .u16 32, .int .u16 133, .int .u16 101, .int .u16 160, .int .u16 5760, .int .u16 5600, .int .u16 8192, .int .u16 8202, .int .u16 1, .int .u16 8232, .int .u16 8233, .int .u16 1, .int .u16 8239, .int .u16 8287, .int .u16 48, .int .u16 12288, .int .u16 12288, .int .u16 1] 318 (0, 0)) }
theorem pushWs_os (w : World) : (pushWs w).os = w.os := rfl
noncomputable def laidWorld (os : Os) : World := pushWs (world0 os)
theorem world0_os (os : Os) : (world0 os).os = os := DM.layWorld_os _ _ _ _ _
theorem laidWorld_os (os : Os) : (laidWorld os).os = os := (pushWs_os (world0 os)).trans (world0_os os)
def laid0 : List (String × DataW Unit) := [("math/bits.deBruijn32tab", Rows.laid_math_bits_deBruijn32tab), ("math/bits.deBruijn64tab", Rows.laid_math_bits_deBruijn64tab), ("internal/strconv.uint64pow10", Rows.laid_internal_strconv_uint64pow10), ("unicode/utf8.acceptRanges", Rows.laid_unicode_utf8_acceptRanges), ("strconv.ErrRange", Rows.laid_strconv_ErrRange), ("strconv.ErrSyntax", Rows.laid_strconv_ErrSyntax)]
def laid1 : List (String × DataW Unit) := [("unicode.White_Space", Rows.laid_unicode_White_Space)]
def laid2 : List (String × DataW Unit) := [("strings.asciiSpace", Rows.laid_strings_asciiSpace)]
def laid3 : List (String × DataW Unit) := [("unicode/utf8.first", Rows.laid_unicode_utf8_first)]
theorem laid_eq : Rows.sizesNamesRow.laid = laid0 ++ laid1 ++ laid2 ++ laid3 := rfl
theorem laid_met (os : Os) : laidMet Tryz.prog Rows.sizesNamesRow.laid ((laidWorld os).forCall (fun _ _ => 0) ⟨#[], #[], []⟩).memory := by
 rw [laid_eq]
 exact LaidIn.met ((((LaidIn.of_run [8, 9, 7, 2, 6, size0, size0 + 1, 5] 8 (by kernel_rfl) (by kernel_rfl) (by kernel_rfl) (by kernel_rfl) : LaidIn Tryz.prog ((laidWorld os).forCall (fun _ _ => 0) ⟨#[], #[], []⟩).memory laid0 _).append
  (LaidIn.of_run [3, size0 + 2, size0 + 3] 8 (by kernel_rfl) (by kernel_rfl) (by kernel_rfl) (by kernel_rfl) : LaidIn Tryz.prog _ laid1 _) (by kernel_rfl)).append
  (LaidIn.of_run [0] 8 (by kernel_rfl) (by kernel_rfl) (by kernel_rfl) (by kernel_rfl) : LaidIn Tryz.prog _ laid2 _) (by kernel_rfl)).append
  (LaidIn.of_run [1] 8 (by kernel_rfl) (by kernel_rfl) (by kernel_rfl) (by kernel_rfl) : LaidIn Tryz.prog _ laid3 _) (by kernel_rfl))
theorem reads (os : Os) {H : Type} (enc : TypeId × Value → H) : ∃ Fs, DataW.whole enc Tryz.prog ((laidWorld os).forCall (fun _ _ => 0) ⟨#[], #[], []⟩).memory Tryz.f5.params.toList Rows.sizesNamesSpec.vars false (#[] : Array Value).toList 8 = some ([], [], Fs) :=
 ⟨[], by kernel_rfl⟩

theorem f_init : Tryz.checked.prog.inits.idxOf? 5 = none := by kernel_rfl
theorem f_vars (os : Os) : ((laidWorld os).forCall (fun _ _ => 0) ⟨#[], #[], []⟩).variablesRefB Tryz.checked.prog = true := by kernel_rfl
theorem f_heap (os : Os) : (((laidWorld os).forCall (fun _ _ => 0) ⟨#[], #[], []⟩).heap.toList.drop Tryz.checked.prog.globals.size).take ((begin Tryz.checked.prog (fun _ _ => 0) default).world.heap.size - Tryz.checked.prog.globals.size) =
  (begin Tryz.checked.prog (fun _ _ => 0) default).world.heap.toList.drop Tryz.checked.prog.globals.size := by kernel_rfl
theorem f_ok (os : Os) : Input.okWideB Tryz.checked.prog ((laidWorld os).forCall (fun _ _ => 0) ⟨#[], #[], []⟩) 5 ⟨#[], #[], []⟩ = true := by kernel_rfl
theorem f_size (os : Os) {H : Type} (enc : TypeId × Value → H) : (OpenSpec.ofChange Rows.sizesNamesSpec).bare.sizedB enc Tryz.prog Tryz.f5 false ((laidWorld os).forCall (fun _ _ => 0) ⟨#[], #[], []⟩).memory #[] 8 = true := by kernel_rfl
theorem f_named : Tryz.pinned.checked.prog.funcNamed Rows.sizesNamesRow.func = some 5 := by kernel_rfl
theorem j0 : (Rows.sizesNamesRow.wf (OpenSpec.ofChange (OpenSpec.ofChange Rows.sizesNamesSpec).bare)) = true := by kernel_rfl
theorem j1 : (laidOutB Tryz.pinned.checked.prog) = true := by kernel_rfl
theorem j2 : (mapsRowed Tryz.pinned.checked.prog) = true := by kernel_rfl
theorem j3 : (Tryz.f5.params.all (Tryz.pinned.checked.prog.readableRec ·)) = true := by kernel_rfl
theorem j4 : (namedTie Tryz.pinned.checked.prog Rows.sizesNamesRow.named (OpenSpec.ofChange Rows.sizesNamesSpec).bare.vars) = true := by kernel_rfl
theorem j5 : ((Rows.sizesNamesRow.stops == [])) = true := by kernel_rfl
theorem j6 : ((Tryz.pinned.checked.prog.stops == [])) = true := by kernel_rfl
theorem j7 : ((Rows.sizesNamesRow.knobs == [])) = true := by kernel_rfl
theorem j8 : ((Tryz.pinned.checked.prog.stopKnobs == [])) = true := by kernel_rfl
theorem j9 : ((Rows.sizesNamesRow.inPlace == Tryz.pinned.checked.prog.inPlace 5)) = true := by kernel_rfl
theorem j10 : ((Rows.sizesNamesRow.unfollowed == Tryz.pinned.checked.prog.unfollowed 5)) = true := by kernel_rfl
theorem j11 : ((Rows.sizesNamesRow.recurses == Tryz.pinned.checked.prog.recurses 5)) = true := by kernel_rfl
theorem j12 : ((Rows.sizesNamesRow.named == Tryz.pinned.checked.prog.varsNamed 5)) = true := by kernel_rfl
theorem j13 : ((Rows.sizesNamesRow.maps == (Tryz.f5.params.toList ++ (OpenSpec.ofChange Rows.sizesNamesSpec).bare.plain.varTypes Tryz.pinned.checked.prog).any (Tryz.pinned.checked.prog.mapsRec ·))) = true := by kernel_rfl
theorem j14 : ((Rows.sizesNamesRow.ifaces == (Tryz.f5.params.toList ++ (OpenSpec.ofChange Rows.sizesNamesSpec).bare.plain.varTypes Tryz.pinned.checked.prog).any (Tryz.pinned.checked.prog.ifacesRec ·))) = true := by kernel_rfl
theorem j15 : ((Rows.sizesNamesRow.mapsOut == Tryz.pinned.checked.prog.mapsAmong Tryz.f5.resultTypes.toList)) = true := by kernel_rfl
theorem j16 : ((Rows.sizesNamesRow.loops == (Tryz.f5.params.toList ++ (OpenSpec.ofChange Rows.sizesNamesSpec).bare.plain.varTypes Tryz.pinned.checked.prog).any (Tryz.pinned.checked.prog.loopsFrom ·))) = true := by kernel_rfl
theorem j17 : ((Rows.sizesNamesRow.wideKeys == (Tryz.f5.params.toList ++ (OpenSpec.ofChange Rows.sizesNamesSpec).bare.plain.varTypes Tryz.pinned.checked.prog ++ Tryz.f5.resultTypes.toList).any (Tryz.pinned.checked.prog.wideKeysFrom ·))) = true := by kernel_rfl
theorem j18 : ((OpenSpec.ofChange Rows.sizesNamesSpec).bare.vars.all (Tryz.pinned.checked.prog.varReadable ·)) = true := by kernel_rfl
theorem j19 : (Tryz.f5.resultTypes.all (fun t => Tryz.pinned.checked.prog.readableRec t && decide (t < Tryz.pinned.checked.prog.types.size))) = true := by kernel_rfl
theorem j20 : ((Rows.sizesNamesRow.ifacesOut == Tryz.f5.resultTypes.toList.any (Tryz.pinned.checked.prog.ifacesRec ·))) = true := by kernel_rfl
theorem j21 : ((Rows.sizesNamesRow.loopsOut == Tryz.f5.resultTypes.toList.any (Tryz.pinned.checked.prog.loopsFrom ·))) = true := by kernel_rfl
theorem j22 : ((Rows.sizesNamesRow.plainKeys == Tryz.pinned.checked.prog.plainKeys)) = true := by kernel_rfl
theorem j23 : (Rows.sizesNamesRow.shortTexts.isNone) = true := by kernel_rfl
theorem j24 : (Tryz.pinned.checked.prog.stopsHeard) = true := by kernel_rfl
theorem j25 : (Tryz.pinned.checked.prog.mayEnter) = true := by kernel_rfl
theorem j26 : ((Rows.sizesNamesRow.lifted == Tryz.pinned.checked.prog.liftsFinal)) = true := by kernel_rfl
theorem j27 : ((Tryz.pinned.checked.prog.make == some Rows.sizesNamesRow.make)) = true := by kernel_rfl
theorem j28 : ((Rows.sizesNamesRow.kinds == (if Rows.sizesNamesRow.domain.isEmpty then [] else Tryz.f5.params.toList.map fun t => match Tryz.pinned.checked.prog.underlying t with | some (.int k) => some k | _ => none))) = true := by kernel_rfl
theorem j29 : ((Rows.sizesNamesRow.pinned == Rows.sizesNamesRow.pinnedBy)) = true := by kernel_rfl
theorem j30 : ((Rows.sizesNamesRow.veiled == (Tryz.f5.params.toList ++ (OpenSpec.ofChange Rows.sizesNamesSpec).bare.plain.varTypes Tryz.pinned.checked.prog ++ Tryz.f5.resultTypes.toList).any (Tryz.pinned.checked.prog.veiledRec ·))) = true := by kernel_rfl
theorem j31 : (Rows.sizesNamesRow.veiledFits Tryz.pinned.checked.prog Tryz.f5.params.toList (Tryz.f5.params.toList ++ (OpenSpec.ofChange Rows.sizesNamesSpec).bare.plain.varTypes Tryz.pinned.checked.prog ++ Tryz.f5.resultTypes.toList)) = true := by kernel_rfl
theorem f_joined : joinedFacts Tryz.pinned.checked.prog 5 Tryz.f5 (OpenSpec.ofChange Rows.sizesNamesSpec).bare Rows.sizesNamesRow = true := by
 unfold joinedFacts
 exact (Bool.and_eq_true_iff.2 ⟨(Bool.and_eq_true_iff.2 ⟨(Bool.and_eq_true_iff.2 ⟨(Bool.and_eq_true_iff.2 ⟨(Bool.and_eq_true_iff.2 ⟨(Bool.and_eq_true_iff.2 ⟨(Bool.and_eq_true_iff.2 ⟨(Bool.and_eq_true_iff.2 ⟨(Bool.and_eq_true_iff.2 ⟨(Bool.and_eq_true_iff.2 ⟨(Bool.and_eq_true_iff.2 ⟨(Bool.and_eq_true_iff.2 ⟨(Bool.and_eq_true_iff.2 ⟨(Bool.and_eq_true_iff.2 ⟨(Bool.and_eq_true_iff.2 ⟨(Bool.and_eq_true_iff.2 ⟨(Bool.and_eq_true_iff.2 ⟨(Bool.and_eq_true_iff.2 ⟨(Bool.and_eq_true_iff.2 ⟨(Bool.and_eq_true_iff.2 ⟨(Bool.and_eq_true_iff.2 ⟨(Bool.and_eq_true_iff.2 ⟨(Bool.and_eq_true_iff.2 ⟨(Bool.and_eq_true_iff.2 ⟨(Bool.and_eq_true_iff.2 ⟨(Bool.and_eq_true_iff.2 ⟨(Bool.and_eq_true_iff.2 ⟨(Bool.and_eq_true_iff.2 ⟨(Bool.and_eq_true_iff.2 ⟨(Bool.and_eq_true_iff.2 ⟨(Bool.and_eq_true_iff.2 ⟨j0, j1⟩), j2⟩), j3⟩), j4⟩), j5⟩), j6⟩), j7⟩), j8⟩), j9⟩), j10⟩), j11⟩), j12⟩), j13⟩), j14⟩), j15⟩), j16⟩), j17⟩), j18⟩), j19⟩), j20⟩), j21⟩), j22⟩), j23⟩), j24⟩), j25⟩), j26⟩), j27⟩), j28⟩), j29⟩), j30⟩), j31⟩)
theorem plain (f : FuncId) (fn : Func) (hf : Tryz.pinned.checked.prog.funcNamed "dovetail/dovetaillaw15.SizesNames" = some f) (hfn : Tryz.pinned.checked.prog.funcs[f]? = some fn) :
  true = Tryz.pinned.checked.prog.looks [] ∧ ∀ (j : Nat) t, fn.params[j]? = some t → Tryz.pinned.checked.prog.wantsStandIn t = false := by
 obtain rfl : f = 5 := Option.some.inj ((show Tryz.prog.funcNamed "dovetail/dovetaillaw15.SizesNames" = some 5 by kernel_rfl).symm.trans hf) |>.symm
 obtain rfl : fn = Tryz.f5 := (Option.some.inj (Tryz.func5.symm.trans hfn)).symm
 refine ⟨by kernel_rfl, fun j t ht => ?_⟩
 rw [Tryz.params5] at ht
 simp at ht

theorem f_text : Rows.sizesNamesRow.wfByText (OpenSpec.ofChange Rows.sizesNamesSpec) = true := by kernel_rfl
theorem f_main : Tryz.pinned.checked.prog.mainIs = some (true, "9a846014459d128685bc1bcb9b75686fb70b6664444d1c2130fb27e327dbe72a".toList) := by kernel_rfl
theorem f_goes : false = Rows.sizesNamesRow.goesBy Tryz.pinned.checked.prog := by kernel_rfl
end Go.Proofs.YthcnipopdbgpdaaGreatDoor.sizesNames
