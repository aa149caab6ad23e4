/- What a row lists is tied to the program's text. Condition: none. -/
import Derived.Test.YtjcpllbpkdfakaaGreatDoorRows
import Derived.LaidByTextLater
import Derived.SevenTiedAt
namespace Go.Proofs.YtjcpllbpkdfakaaGreatDoor
open Go
theorem pin_laid_unicode_utf8_first : Tryz.pinned.checked.prog.pinnedFits "unicode/utf8.first" = true := by kernel_rfl
theorem pin_laid_unicode_CaseRanges : Tryz.pinned.checked.prog.pinnedFits "unicode.CaseRanges" = true := by kernel_rfl
theorem noOwnUnsafe : Tryz.pinned.checked.prog.headLifts.contains "ownunsafe" = false := by kernel_rfl
theorem fits2 : Tryz.pinned.checked.prog.listedFits [("strconv.ErrSyntax", Rows.laid_strconv_ErrSyntax), ("strconv.ErrRange", Rows.laid_strconv_ErrRange), ("internal/strconv.uint64pow10", Rows.laid_internal_strconv_uint64pow10), ("math/bits.deBruijn32tab", Rows.laid_math_bits_deBruijn32tab), ("math/bits.deBruijn64tab", Rows.laid_math_bits_deBruijn64tab), ("strings.asciiSpace", Rows.laid_strings_asciiSpace), ("unicode.White_Space", Rows.laid_unicode_White_Space), ("unicode/utf8.first", Rows.laid_unicode_utf8_first), ("unicode/utf8.acceptRanges", Rows.laid_unicode_utf8_acceptRanges), ("unicode.CaseRanges", Rows.laid_unicode_CaseRanges)] = true := by
  unfold Program.listedFits
  rw [noOwnUnsafe]
  kernel_rfl
def t_tie2l : List (String × DataW Unit) := [("strconv.ErrSyntax", Rows.laid_strconv_ErrSyntax), ("strconv.ErrRange", Rows.laid_strconv_ErrRange), ("internal/strconv.uint64pow10", Rows.laid_internal_strconv_uint64pow10), ("math/bits.deBruijn32tab", Rows.laid_math_bits_deBruijn32tab), ("math/bits.deBruijn64tab", Rows.laid_math_bits_deBruijn64tab), ("strings.asciiSpace", Rows.laid_strings_asciiSpace), ("unicode.White_Space", Rows.laid_unicode_White_Space), ("unicode/utf8.acceptRanges", Rows.laid_unicode_utf8_acceptRanges)]
theorem t_tie21 : (Tryz.prog.worded (varsWordLater true) = true) := by kernel_rfl
theorem t_tie22 : (Tryz.prog.worded (varsWordLater !true) = false) := by kernel_rfl
theorem t_tie23 : Tryz.prog.worded rootWordLater = true := by kernel_rfl
theorem t_tie24 : t_tie2l.map (fun x => Tryz.prog.kindOfLater x.1) = ([.sentinel, .sentinel, .data, .data, .data, .data, .listed, .data] : List LaidKind).map some := by kernel_rfl
theorem t_tie25 : (Tryz.prog.funcNamed "gosem.cut.vars").isSome = true := by kernel_rfl
theorem t_tie26 : varsNamedLaterB Tryz.prog (varsId Tryz.prog) t_tie2l = true := by kernel_rfl
theorem t_tie27 (os : Os) (tape : Nat → Question → Nat) : varsDone Tryz.prog 400 (varsId Tryz.prog) os tape = true := by kernel_rfl
theorem t_tie28 (os : Os) (tape : Nat → Question → Nat) : (DataW.laidRun Tryz.prog (varsWorld Tryz.prog 400 (varsId Tryz.prog) os tape).memory 8 (t_tie2l.map (·.1))).map (·.1) = some t_tie2l := by kernel_rfl
theorem t_tie29 (os : Os) (tape : Nat → Question → Nat) : (DataW.laidRun Tryz.prog (varsWorld Tryz.prog 400 (varsId Tryz.prog) os tape).memory 8 (t_tie2l.map (·.1))).map (fun x => decide x.2.Nodup && laidRowsB Tryz.prog (varsWorld Tryz.prog 400 (varsId Tryz.prog) os tape).memory x.2) = some true := by kernel_rfl
theorem tie2 : Tryz.prog.laidByTextLater t_tie2l [.sentinel, .sentinel, .data, .data, .data, .data, .listed, .data] true :=
  Program.laidByTextLater_by_run 400 8 t_tie21 t_tie22 t_tie23 t_tie24 t_tie25 t_tie26 t_tie27 t_tie28 t_tie29
theorem matchNames_row_tie : Rows.matchNamesRow.laidByTextAt .later Tryz.pinned [.sentinel, .sentinel, .data, .data, .data, .data, .listed, .pinned, .data, .pinned] true :=
  OpenClaim.laidByTextAt_pinned rfl rfl tie2 rfl rfl rfl rfl (fun y hy _e => by
    simp only [Rows.matchNamesRow, List.zip_cons_cons, List.zip_nil_right, List.mem_cons, List.mem_nil_iff, or_false] at hy
    rcases hy with rfl | rfl | rfl | rfl | rfl | rfl | rfl | rfl | rfl | rfl
    · cases _e
    · cases _e
    · cases _e
    · cases _e
    · cases _e
    · cases _e
    · cases _e
    · exact ⟨pin_laid_unicode_utf8_first, by kernel_rfl⟩
    · cases _e
    · exact ⟨pin_laid_unicode_CaseRanges, by kernel_rfl⟩) fits2
end Go.Proofs.YtjcpllbpkdfakaaGreatDoor
