/- The row's own facts, and the world of its witness. No condition. -/
import Derived.Test.YtjcpllbpkdfakaaGreatDoorCards
import Derived.Test.YtjcpllbpkdfakaaGreatDoorTieM
import Derived.WalkKit
import Derived.ProofKit
import Derived.OpenShut
import Derived.Deep.DeepHandedRow
import Derived.Deep.DeepWitnessRowRef
import Derived.Lib.LaidIn
import Derived.LaidSub
import Derived.Great.CaseRows
import Derived.PinnedBridge
import Derived.Test.YtjcpllbpkdfakaaGreatDoorDmD
import Derived.Test.YtjcpllbpkdfakaaGreatDoorPrimsT
namespace Go.Proofs.YtjcpllbpkdfakaaGreatDoor.matchNames
open Go.ChangeShapes Go.WideShapes Go.ChangeAt Go.RowKit
set_option maxRecDepth 1000000
/-- a world for the witness -/
noncomputable def world0 (os : Os) : World := DM.layWorld Tryz.prog 443 445 (World.holding Tryz.prog os ⟨#[], #[], []⟩) [("math/bits.deBruijn32tab", Rows.laid_math_bits_deBruijn32tab), ("math/bits.deBruijn64tab", Rows.laid_math_bits_deBruijn64tab), ("internal/strconv.uint64pow10", Rows.laid_internal_strconv_uint64pow10), ("unicode/utf8.acceptRanges", Rows.laid_unicode_utf8_acceptRanges), ("strconv.ErrRange", Rows.laid_strconv_ErrRange), ("strconv.ErrSyntax", Rows.laid_strconv_ErrSyntax), ("strings.asciiSpace", Rows.laid_strings_asciiSpace), ("unicode/utf8.first", Rows.laid_unicode_utf8_first)]
noncomputable def size0 : Nat := (World.holding Tryz.prog default ⟨#[], #[], []⟩).heap.size
noncomputable def pushWs (w : World) : World := { w with heap := ((w.heap.modify 4 (DM.withCells #[.pointer (some ⟨size0 + 2, 0, none⟩)])).push (.cells #[.slice (some ⟨size0 + 3, 0, none⟩) 7 7, .slice none 0 0, .int .i64 2] 434 (0, 0))).push (.cells #[.int .u16 9, .int .u16 13, .int .u16 1, .int .u16 32, .int .u16 133, .int .u16 101, .int .u16 160, .int .u16 5760, .int .u16 5600, .int .u16 8192, .int .u16 8202, .int .u16 1, .int .u16 8232, .int .u16 8233, .int .u16 1, .int .u16 8239, .int .u16 8287, .int .u16 48, .int .u16 12288, .int .u16 12288, .int .u16 1] 437 (0, 0)) }
theorem pushWs_os (w : World) : (pushWs w).os = w.os := rfl
noncomputable def pushCase (w : World) : World := { w with heap := (w.heap.modify 10 (DM.withCells #[.slice (some ⟨size0 + 4, 0, none⟩) Lib.caseT.length Lib.caseT.length])).push (.cells (Lib.caseT.flatMap Lib.cells5).toArray 490 (0, 0)) }
theorem pushCase_os (w : World) : (pushCase w).os = w.os := rfl
noncomputable def laidWorld (os : Os) : World := pushCase (pushWs (world0 os))
theorem world0_os (os : Os) : (world0 os).os = os := DM.layWorld_os _ _ _ _ _
theorem laidWorld_os (os : Os) : (laidWorld os).os = os := (pushCase_os _).trans ((pushWs_os (world0 os)).trans (world0_os os))
def laid0 : List (String × DataW Unit) := [("strconv.ErrSyntax", Rows.laid_strconv_ErrSyntax), ("strconv.ErrRange", Rows.laid_strconv_ErrRange), ("internal/strconv.uint64pow10", Rows.laid_internal_strconv_uint64pow10), ("math/bits.deBruijn32tab", Rows.laid_math_bits_deBruijn32tab), ("math/bits.deBruijn64tab", Rows.laid_math_bits_deBruijn64tab)]
def laid1 : List (String × DataW Unit) := [("strings.asciiSpace", Rows.laid_strings_asciiSpace)]
def laid2 : List (String × DataW Unit) := [("unicode.White_Space", Rows.laid_unicode_White_Space)]
def laid3 : List (String × DataW Unit) := [("unicode/utf8.first", Rows.laid_unicode_utf8_first)]
def laid4 : List (String × DataW Unit) := [("unicode/utf8.acceptRanges", Rows.laid_unicode_utf8_acceptRanges)]
theorem ctypes : Go.Great.CTypes Tryz.prog 474 490 488 370 21 := ⟨Tryz.underlying474, Tryz.underlying490, Tryz.underlying488, Tryz.underlying370, Tryz.underlying21, by kernel_rfl, by kernel_rfl, by kernel_rfl, by kernel_rfl⟩
theorem laid_eq : Rows.matchNamesRow.laid = laid0 ++ laid1 ++ laid2 ++ laid3 ++ laid4 ++ [("unicode.CaseRanges", .slice (Lib.caseT.map Lib.rowData) [])] := by
  show laid0 ++ laid1 ++ laid2 ++ laid3 ++ laid4 ++ [("unicode.CaseRanges", Pinned.caseRanges)] = _
  rw [Pinned.caseRanges_eq]
  rfl
theorem laid_met (os : Os) : laidMet Tryz.prog Rows.matchNamesRow.laid ((laidWorld os).forCall (fun _ _ => 0) ⟨#[], #[], []⟩).memory := by
  rw [laid_eq]
  exact LaidIn.met ((((((LaidIn.of_run [5, size0, size0 + 1, 6, 7, 8, 9] 8 (by kernel_rfl) (by kernel_rfl) (by kernel_rfl) (by kernel_rfl) : LaidIn Tryz.prog ((laidWorld os).forCall (fun _ _ => 0) ⟨#[], #[], []⟩).memory laid0 _).append
    (LaidIn.of_run [3] 8 (by kernel_rfl) (by kernel_rfl) (by kernel_rfl) (by kernel_rfl) : LaidIn Tryz.prog _ laid1 _) (by kernel_rfl)).append
    (LaidIn.of_run [4, size0 + 2, size0 + 3] 8 (by kernel_rfl) (by kernel_rfl) (by kernel_rfl) (by kernel_rfl) : LaidIn Tryz.prog _ laid2 _) (by kernel_rfl)).append
    (LaidIn.of_run [1] 8 (by kernel_rfl) (by kernel_rfl) (by kernel_rfl) (by kernel_rfl) : LaidIn Tryz.prog _ laid3 _) (by kernel_rfl)).append
    (LaidIn.of_run [2] 8 (by kernel_rfl) (by kernel_rfl) (by kernel_rfl) (by kernel_rfl) : LaidIn Tryz.prog _ laid4 _) (by kernel_rfl)).append
    (Go.Great.laidIn_case (g := 10) (B := size0 + 4) (tg := 474) (tb := 490) ctypes Lib.caseT (by kernel_rfl) (by kernel_rfl) (of_decide_eq_true (by kernel_rfl)) Lib.rowsWf (by kernel_rfl) (by kernel_rfl) (of_decide_eq_true (by kernel_rfl))) (by kernel_rfl))
theorem reads (os : Os) {H : Type} (enc : TypeId × Value → H) : ∃ places, DataW.whole enc Tryz.prog ((laidWorld os).forCall (fun _ _ => 0) ⟨#[], #[], []⟩).memory Tryz.f4.params.toList Rows.matchNamesSpec.vars false (#[] : Array Value).toList 8 = some ([], [], places) :=
  ⟨[], by kernel_rfl⟩

set_option maxRecDepth 1000000 in
theorem f_init : Tryz.checked.prog.inits.idxOf? 4 = none := by kernel_rfl
set_option maxRecDepth 1000000 in
theorem f_vars (os : Os) : ((laidWorld os).forCall (fun _ _ => 0) ⟨#[], #[], []⟩).variablesRefB Tryz.checked.prog = true := by kernel_rfl
set_option maxRecDepth 1000000 in
theorem f_heap (os : Os) : (((laidWorld os).forCall (fun _ _ => 0) ⟨#[], #[], []⟩).heap.toList.drop Tryz.checked.prog.globals.size).take ((begin Tryz.checked.prog (fun _ _ => 0) default).world.heap.size - Tryz.checked.prog.globals.size) =
    (begin Tryz.checked.prog (fun _ _ => 0) default).world.heap.toList.drop Tryz.checked.prog.globals.size := by kernel_rfl
set_option maxRecDepth 1000000 in
theorem f_ok (os : Os) : Input.okWideB Tryz.checked.prog ((laidWorld os).forCall (fun _ _ => 0) ⟨#[], #[], []⟩) 4 ⟨#[], #[], []⟩ = true := by kernel_rfl
set_option maxRecDepth 1000000 in
theorem f_size (os : Os) {H : Type} (enc : TypeId × Value → H) : (OpenSpec.ofChange Rows.matchNamesSpec).bare.sizedB enc Tryz.prog Tryz.f4 false ((laidWorld os).forCall (fun _ _ => 0) ⟨#[], #[], []⟩).memory #[] 8 = true := by kernel_rfl
set_option maxRecDepth 1000000 in
theorem f_named : Tryz.pinned.checked.prog.funcNamed Rows.matchNamesRow.func = some 4 := by kernel_rfl
set_option maxRecDepth 1000000 in
theorem j0 : (Rows.matchNamesRow.wf (OpenSpec.ofChange (OpenSpec.ofChange Rows.matchNamesSpec).bare)) = true := by kernel_rfl
set_option maxRecDepth 1000000 in
theorem j1 : (laidOutB Tryz.pinned.checked.prog) = true := by kernel_rfl
set_option maxRecDepth 1000000 in
theorem j2 : (mapsRowed Tryz.pinned.checked.prog) = true := by kernel_rfl
set_option maxRecDepth 1000000 in
theorem j3 : (Tryz.f4.params.all (Tryz.pinned.checked.prog.readableRec ·)) = true := by kernel_rfl
set_option maxRecDepth 1000000 in
theorem j4 : (namedTie Tryz.pinned.checked.prog Rows.matchNamesRow.named (OpenSpec.ofChange Rows.matchNamesSpec).bare.vars) = true := by kernel_rfl
set_option maxRecDepth 1000000 in
theorem j5 : ((Rows.matchNamesRow.stops == [])) = true := by kernel_rfl
set_option maxRecDepth 1000000 in
theorem j6 : ((Tryz.pinned.checked.prog.stops == [])) = true := by kernel_rfl
set_option maxRecDepth 1000000 in
theorem j7 : ((Rows.matchNamesRow.knobs == [])) = true := by kernel_rfl
set_option maxRecDepth 1000000 in
theorem j8 : ((Tryz.pinned.checked.prog.stopKnobs == [])) = true := by kernel_rfl
set_option maxRecDepth 1000000 in
theorem j9 : ((Rows.matchNamesRow.inPlace == Tryz.pinned.checked.prog.inPlace 4)) = true := by kernel_rfl
set_option maxRecDepth 1000000 in
theorem j10 : ((Rows.matchNamesRow.unfollowed == Tryz.pinned.checked.prog.unfollowed 4)) = true := by kernel_rfl
set_option maxRecDepth 1000000 in
theorem j11 : ((Rows.matchNamesRow.recurses == Tryz.pinned.checked.prog.recurses 4)) = true := by kernel_rfl
set_option maxRecDepth 1000000 in
theorem j12 : ((Rows.matchNamesRow.named == Tryz.pinned.checked.prog.varsNamed 4)) = true := by kernel_rfl
set_option maxRecDepth 1000000 in
theorem j13 : ((Rows.matchNamesRow.maps == (Tryz.f4.params.toList ++ (OpenSpec.ofChange Rows.matchNamesSpec).bare.plain.varTypes Tryz.pinned.checked.prog).any (Tryz.pinned.checked.prog.mapsRec ·))) = true := by kernel_rfl
set_option maxRecDepth 1000000 in
theorem j14 : ((Rows.matchNamesRow.ifaces == (Tryz.f4.params.toList ++ (OpenSpec.ofChange Rows.matchNamesSpec).bare.plain.varTypes Tryz.pinned.checked.prog).any (Tryz.pinned.checked.prog.ifacesRec ·))) = true := by kernel_rfl
set_option maxRecDepth 1000000 in
theorem j15 : ((Rows.matchNamesRow.mapsOut == Tryz.pinned.checked.prog.mapsAmong Tryz.f4.resultTypes.toList)) = true := by kernel_rfl
set_option maxRecDepth 1000000 in
theorem j16 : ((Rows.matchNamesRow.loops == (Tryz.f4.params.toList ++ (OpenSpec.ofChange Rows.matchNamesSpec).bare.plain.varTypes Tryz.pinned.checked.prog).any (Tryz.pinned.checked.prog.loopsFrom ·))) = true := by kernel_rfl
set_option maxRecDepth 1000000 in
theorem j17 : ((Rows.matchNamesRow.wideKeys == (Tryz.f4.params.toList ++ (OpenSpec.ofChange Rows.matchNamesSpec).bare.plain.varTypes Tryz.pinned.checked.prog ++ Tryz.f4.resultTypes.toList).any (Tryz.pinned.checked.prog.wideKeysFrom ·))) = true := by kernel_rfl
set_option maxRecDepth 1000000 in
theorem j18 : ((OpenSpec.ofChange Rows.matchNamesSpec).bare.vars.all (Tryz.pinned.checked.prog.varReadable ·)) = true := by kernel_rfl
set_option maxRecDepth 1000000 in
theorem j19 : (Tryz.f4.resultTypes.all (fun t => Tryz.pinned.checked.prog.readableRec t && decide (t < Tryz.pinned.checked.prog.types.size))) = true := by kernel_rfl
set_option maxRecDepth 1000000 in
theorem j20 : ((Rows.matchNamesRow.ifacesOut == Tryz.f4.resultTypes.toList.any (Tryz.pinned.checked.prog.ifacesRec ·))) = true := by kernel_rfl
set_option maxRecDepth 1000000 in
theorem j21 : ((Rows.matchNamesRow.loopsOut == Tryz.f4.resultTypes.toList.any (Tryz.pinned.checked.prog.loopsFrom ·))) = true := by kernel_rfl
set_option maxRecDepth 1000000 in
theorem j22 : ((Rows.matchNamesRow.plainKeys == Tryz.pinned.checked.prog.plainKeys)) = true := by kernel_rfl
set_option maxRecDepth 1000000 in
theorem j23 : (Rows.matchNamesRow.shortTexts.isNone) = true := by kernel_rfl
set_option maxRecDepth 1000000 in
theorem j24 : (Tryz.pinned.checked.prog.stopsHeard) = true := by kernel_rfl
set_option maxRecDepth 1000000 in
theorem j25 : (Tryz.pinned.checked.prog.mayEnter) = true := by kernel_rfl
set_option maxRecDepth 1000000 in
theorem j26 : ((Rows.matchNamesRow.lifted == Tryz.pinned.checked.prog.liftsFinal)) = true := by kernel_rfl
set_option maxRecDepth 1000000 in
theorem j27 : ((Tryz.pinned.checked.prog.make == some Rows.matchNamesRow.make)) = true := by kernel_rfl
set_option maxRecDepth 1000000 in
theorem j28 : ((Rows.matchNamesRow.kinds == (if Rows.matchNamesRow.domain.isEmpty then [] else Tryz.f4.params.toList.map fun t => match Tryz.pinned.checked.prog.underlying t with | some (.int k) => some k | _ => none))) = true := by kernel_rfl
set_option maxRecDepth 1000000 in
theorem j29 : ((Rows.matchNamesRow.pinned == Rows.matchNamesRow.pinnedBy)) = true := by kernel_rfl
set_option maxRecDepth 1000000 in
theorem j30 : ((Rows.matchNamesRow.veiled == (Tryz.f4.params.toList ++ (OpenSpec.ofChange Rows.matchNamesSpec).bare.plain.varTypes Tryz.pinned.checked.prog ++ Tryz.f4.resultTypes.toList).any (Tryz.pinned.checked.prog.veiledRec ·))) = true := by kernel_rfl
set_option maxRecDepth 1000000 in
theorem j31 : (Rows.matchNamesRow.veiledFits Tryz.pinned.checked.prog Tryz.f4.params.toList (Tryz.f4.params.toList ++ (OpenSpec.ofChange Rows.matchNamesSpec).bare.plain.varTypes Tryz.pinned.checked.prog ++ Tryz.f4.resultTypes.toList)) = true := by kernel_rfl
set_option maxRecDepth 100000 in
theorem f_joined : joinedFacts Tryz.pinned.checked.prog 4 Tryz.f4 (OpenSpec.ofChange Rows.matchNamesSpec).bare Rows.matchNamesRow = true := by
  unfold joinedFacts
  exact (Bool.and_eq_true_iff.2 ⟨(Bool.and_eq_true_iff.2 ⟨(Bool.and_eq_true_iff.2 ⟨(Bool.and_eq_true_iff.2 ⟨(Bool.and_eq_true_iff.2 ⟨(Bool.and_eq_true_iff.2 ⟨(Bool.and_eq_true_iff.2 ⟨(Bool.and_eq_true_iff.2 ⟨(Bool.and_eq_true_iff.2 ⟨(Bool.and_eq_true_iff.2 ⟨(Bool.and_eq_true_iff.2 ⟨(Bool.and_eq_true_iff.2 ⟨(Bool.and_eq_true_iff.2 ⟨(Bool.and_eq_true_iff.2 ⟨(Bool.and_eq_true_iff.2 ⟨(Bool.and_eq_true_iff.2 ⟨(Bool.and_eq_true_iff.2 ⟨(Bool.and_eq_true_iff.2 ⟨(Bool.and_eq_true_iff.2 ⟨(Bool.and_eq_true_iff.2 ⟨(Bool.and_eq_true_iff.2 ⟨(Bool.and_eq_true_iff.2 ⟨(Bool.and_eq_true_iff.2 ⟨(Bool.and_eq_true_iff.2 ⟨(Bool.and_eq_true_iff.2 ⟨(Bool.and_eq_true_iff.2 ⟨(Bool.and_eq_true_iff.2 ⟨(Bool.and_eq_true_iff.2 ⟨(Bool.and_eq_true_iff.2 ⟨(Bool.and_eq_true_iff.2 ⟨(Bool.and_eq_true_iff.2 ⟨j0, j1⟩), j2⟩), j3⟩), j4⟩), j5⟩), j6⟩), j7⟩), j8⟩), j9⟩), j10⟩), j11⟩), j12⟩), j13⟩), j14⟩), j15⟩), j16⟩), j17⟩), j18⟩), j19⟩), j20⟩), j21⟩), j22⟩), j23⟩), j24⟩), j25⟩), j26⟩), j27⟩), j28⟩), j29⟩), j30⟩), j31⟩)
theorem plain (f : FuncId) (fn : Func) (hf : Tryz.pinned.checked.prog.funcNamed "dovetail/dovetaillaw14.MatchNames" = some f) (hfn : Tryz.pinned.checked.prog.funcs[f]? = some fn) :
    true = Tryz.pinned.checked.prog.looks [] ∧ ∀ (j : Nat) t, fn.params[j]? = some t → Tryz.pinned.checked.prog.wantsStandIn t = false := by
  obtain rfl : f = 4 := Option.some.inj ((show Tryz.prog.funcNamed "dovetail/dovetaillaw14.MatchNames" = some 4 by kernel_rfl).symm.trans hf) |>.symm
  obtain rfl : fn = Tryz.f4 := (Option.some.inj (Tryz.func4.symm.trans hfn)).symm
  refine ⟨by kernel_rfl, fun j t ht => ?_⟩
  rw [Tryz.params4] at ht
  simp at ht

set_option maxRecDepth 1000000 in
theorem f_text : Rows.matchNamesRow.wfByText (OpenSpec.ofChange Rows.matchNamesSpec) = true := by kernel_rfl
set_option maxRecDepth 1000000 in
theorem f_main : Tryz.pinned.checked.prog.mainIs = some (true, "e4397f2a9bdf12a93b4aab666694ba88a112a9a89f1ba2c07e02af29007542ba".toList) := by kernel_rfl
set_option maxRecDepth 1000000 in
theorem f_goes : false = Rows.matchNamesRow.goesBy Tryz.pinned.checked.prog := by kernel_rfl
end Go.Proofs.YtjcpllbpkdfakaaGreatDoor.matchNames
