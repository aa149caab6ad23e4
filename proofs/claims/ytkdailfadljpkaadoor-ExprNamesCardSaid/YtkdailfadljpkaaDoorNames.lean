/- dovetaillaw12.ExprNames returns true at every call (its tied card). Condition: none beyond the row's own. -/
import Derived.Test.YtkdailfadljpkaaDoorCards
import Derived.Test.YtkdailfadljpkaaDoorTie
import Derived.WalkKit
import Derived.ProofKit
import Derived.OpenShut
import Derived.Deep.DeepHandedRow
import Derived.Deep.DeepWitnessRowRef
import Derived.Lib.LaidIn
import Derived.Great.CaseRows
import Derived.PinnedBridge
import Derived.Test.YtkdailfadljpkaaDoorDmD
import Derived.Test.YtkdailfadljpkaaDoorSortT
import Derived.Test.YtkdailfadljpkaaDoorIterT
namespace Go.Proofs.YtkdailfadljpkaaDoor.names
open Go.ChangeShapes Go.WideShapes Go.ChangeAt Go.RowKit

theorem own : ownKnob Tryd.prog.godebug = none := by kernel_rfl
def pow10 : List Int := [1, 10, 100, 1000, 10000, 100000, 1000000, 10000000, 100000000, 1000000000, 10000000000, 100000000000, 1000000000000, 10000000000000, 100000000000000, 1000000000000000, 10000000000000000, 100000000000000000, 1000000000000000000, 10000000000000000000]
def tabs : List (Nat × IntKind × List Int) := [(6, .u64, pow10)]
noncomputable def cfg : DM.Cfg := { P := Tryd.prog, glob := DM.globOf tabs, prim := fun f => if f = 19 then some (DM.sortedG 28) else none }
theorem orders : cfg.P.follows .mixedOrders = true := by kernel_rfl
theorem cfgP : cfg.P = Tryd.prog := by unfold cfg; rfl
set_option maxRecDepth 1000000 in
theorem runs : DM.isTrue (DM.call cfg 1000 3 [] DM.σ0) = true := by kernel_rfl

theorem gPow : Tryd.prog.globalNamed "internal/strconv.uint64pow10" = some 6 := by kernel_rfl
theorem gPowType : (Tryd.prog.globals[6]?).map (·.type) = some 136 := by kernel_rfl
theorem cellsArr : Tryd.prog.cellsOf 136 = 20 := by kernel_rfl
theorem cellsU64 : Tryd.prog.cellsOf 54 = 1 := by kernel_rfl
theorem table {W : World} (h : laidMetH Tryd.prog Rows.exprNamesRow.laid W) : Lib.TabIs Tryd.prog W "internal/strconv.uint64pow10" .u64 pow10 := by
  have h' : laidMet Tryd.prog Rows.exprNamesRow.laid W := h
  exact Lib.tabIs_of_head (rest := [("unicode/utf8.acceptRanges", Rows.laid_unicode_utf8_acceptRanges), ("strconv.ErrRange", Rows.laid_strconv_ErrRange), ("strconv.ErrSyntax", Rows.laid_strconv_ErrSyntax), ("unicode.CaseRanges", Rows.laid_unicode_CaseRanges), ("unicode/utf8.first", Rows.laid_unicode_utf8_first)])
    gPow gPowType Tryd.underlying136 Tryd.underlying54 cellsU64 cellsArr h'.tail.tail
theorem globs {W : World} (h : laidMetH Tryd.prog Rows.exprNamesRow.laid W) : DM.GlobOk cfg (DM.start W) :=
  DM.globOf_ok (C := cfg) tabs (fun x hx => by
    simp only [tabs, List.mem_singleton] at hx
    subst hx
    exact DM.tab_rel (table h) gPow)
/-- the function by hand is the library's -/
theorem prims {W : World} : DM.PrimOk cfg W := by
  intro f g args σ σ' x k us hf hg hI _ hr
  rw [cfgP]
  have hf' : (if f = 19 then some (DM.sortedG 28) else none) = some g := hf
  split at hf'
  · rename_i e; subst e; cases hf'
    exact DM.sorted_prim (P := Tryd.prog) (g := 28) (c := 19) (K0 := 9) Tryd.underlying9
      (fun Bm b nn D w hBm hm hown => Go.Proofs.AnyZ.keys_gives (ρ := Tryd.keys20_ren) { Tryd.keys20 with } Fence.wide 2 trivial rfl (by omega) Bm b nn D w hBm hm hown)
      (fun lb S N w hN hNb hseq => Go.Proofs.AnyZ.sorted_in Tryd.sorted19 Fence.wide 5 trivial trivial trivial trivial rfl (by omega) (Tryd.sorts19 _) (enters_of Tryd.func27 (by kernel_rfl) rfl) 28 lb trivial (enters_of Tryd.func28 (by kernel_rfl) rfl) S N hN hNb w hseq)
      hg hI hr
  · cases hf'
theorem calls {W : World} (h : laidMetH Tryd.prog Rows.exprNamesRow.laid W) : Calls Tryd.prog 3 #[] W fun e W' => e = .returned (.bool true) ∧ Below W.heap.size W W' := by
  have h := DM.calls_true2 (C := cfg) (w := W) orders prims (globs h) (DM.RelL.nil _) runs
  rw [cfgP] at h
  exact h

set_option maxRecDepth 100000 in
theorem contract (H : Type) (enc : TypeId × Value → H) (W : World) (base : Nat) (args : Array Value) (ds gs : List (DataW H)) (before : List MemPlace)
    (hW : DataW.Whole enc Tryd.prog Tryd.f3.params.toList Rows.exprNamesSpec.vars false W args.toList ds gs before) (hL : laidMetH Tryd.prog Rows.exprNamesRow.laid W) :
    Calls Tryd.prog 3 args W fun e W' => ∃ v, e = .returned v ∧ Rows.exprNamesSpec.post enc Tryd.prog Tryd.f3 false true false false W args v W' := by
  have hW' := hW
  obtain ⟨p, q, hA0, hV, rfl, hfz, hnd⟩ := hW
  have hA : DataW.TrodAll enc Tryd.prog W 0 (fun _ => true) true Tryd.f3.params.toList args.toList ds p := hA0
  rw [Tryd.params3] at hA
  obtain ⟨h1, rfl, rfl⟩ := trodAll_nil hA
  obtain rfl : args = #[] := by cases args; simp_all
  obtain ⟨rfl, rfl⟩ := trodVars_none hV
  clear hA0
  simp only [List.append_nil] at hW'
  refine (calls hL).mono fun e W' ⟨he, hb⟩ => ?_
  subst he
  exact ⟨_, rfl, DM.post_of_below (pa := []) (pv := []) hW' (fun _ _ _ => trodAll_cons_mk (shut_bool Tryd.underlying4 _) trodAll_mk0) (fun _ _ => trodAll_mk0) (fun _ _ => rfl) rfl
    hb (ok_one (by kernel_rfl) rfl (okWide_bool_mk Tryd.underlying4 _))⟩

/-- a world for the witness -/
def laidA : List (String × DataW Unit) := [("math/bits.deBruijn32tab", Rows.laid_math_bits_deBruijn32tab), ("math/bits.deBruijn64tab", Rows.laid_math_bits_deBruijn64tab), ("internal/strconv.uint64pow10", Rows.laid_internal_strconv_uint64pow10), ("unicode/utf8.acceptRanges", Rows.laid_unicode_utf8_acceptRanges), ("strconv.ErrRange", Rows.laid_strconv_ErrRange), ("strconv.ErrSyntax", Rows.laid_strconv_ErrSyntax)]
def laidB : List (String × DataW Unit) := [("unicode/utf8.first", Rows.laid_unicode_utf8_first)]
noncomputable def world0 (os : Os) : World := DM.layWorld Tryd.prog 124 126 (World.holding Tryd.prog os ⟨#[], #[], []⟩) (laidA ++ laidB)
noncomputable def size0 : Nat := (World.holding Tryd.prog default ⟨#[], #[], []⟩).heap.size
noncomputable def pushCase (w : World) : World := { w with heap := (w.heap.modify 2 (DM.withCells #[.slice (some ⟨size0 + 2, 0, none⟩) Lib.caseT.length Lib.caseT.length])).push (.cells (Lib.caseT.flatMap Lib.cells5).toArray 145 (0, 0)) }
theorem pushCase_os (w : World) : (pushCase w).os = w.os := rfl
noncomputable def laidWorld (os : Os) : World := pushCase (world0 os)
theorem world0_os (os : Os) : (world0 os).os = os := DM.layWorld_os _ _ _ _ _
theorem laidWorld_os (os : Os) : (laidWorld os).os = os := (pushCase_os (world0 os)).trans (world0_os os)
theorem ctypes : Go.Great.CTypes Tryd.prog 113 145 143 102 21 := ⟨Tryd.underlying113, Tryd.underlying145, Tryd.underlying143, Tryd.underlying102, Tryd.underlying21, by kernel_rfl, by kernel_rfl, by kernel_rfl, by kernel_rfl⟩
theorem case_eq : Rows.exprNamesRow.laid = laidA ++ [("unicode.CaseRanges", .slice (Lib.caseT.map Lib.rowData) [])] ++ laidB := by
  show laidA ++ ("unicode.CaseRanges", Pinned.caseRanges) :: laidB = _
  rw [Pinned.caseRanges_eq]
  rfl
theorem laid_met (os : Os) : laidMet Tryd.prog Rows.exprNamesRow.laid ((laidWorld os).forCall (fun _ _ => 0) ⟨#[], #[], []⟩).memory := by
  rw [case_eq]
  exact LaidIn.met (((LaidIn.of_run [7, 8, 6, 5, 1, 0, size0, size0 + 1] 8 (by kernel_rfl) (by kernel_rfl) (by kernel_rfl) (by kernel_rfl) : LaidIn Tryd.prog ((laidWorld os).forCall (fun _ _ => 0) ⟨#[], #[], []⟩).memory laidA _).append
    (Go.Great.laidIn_case (g := 2) (B := size0 + 2) (tg := 113) (tb := 145) ctypes Lib.caseT (by kernel_rfl) (by kernel_rfl) (of_decide_eq_true (by kernel_rfl)) Lib.rowsWf (by kernel_rfl) (by kernel_rfl) (of_decide_eq_true (by kernel_rfl))) (by kernel_rfl)).append
    (LaidIn.of_run [4] 8 (by kernel_rfl) (by kernel_rfl) (by kernel_rfl) (by kernel_rfl) : LaidIn Tryd.prog _ laidB _) (by kernel_rfl))
theorem reads (os : Os) {H : Type} (enc : TypeId × Value → H) : ∃ places, DataW.whole enc Tryd.prog ((laidWorld os).forCall (fun _ _ => 0) ⟨#[], #[], []⟩).memory Tryd.f3.params.toList Rows.exprNamesSpec.vars false (#[] : Array Value).toList 8 = some ([], [], places) :=
  ⟨[], by kernel_rfl⟩

set_option maxRecDepth 100000 in
theorem lifted (os : Os) (started : os.Started) (H : Type) (enc : TypeId × Value → H) (F : Stop.Interp) :
    ReturnsInHanded {} Tryd.checked os 3 .any ((OpenSpec.ofChange Rows.exprNamesSpec).preRow enc Tryd.prog Tryd.f3 Rows.exprNamesRow.domain false Rows.exprNamesRow.laid) (((OpenSpec.ofChange Rows.exprNamesSpec).at F).post enc Tryd.prog Tryd.f3 false true false false) := by
  obtain ⟨places, hx⟩ := reads os enc
  refine returnsInHanded_of_row (C := Tryd.checked) (s := OpenSpec.ofChange Rows.exprNamesSpec) own started (by kernel_rfl) Tryd.func3
    (witness_row_atRef (enc := enc) (C := Tryd.checked) false (laidWorld os) #[] (laidWorld_os os) (by kernel_rfl) (by kernel_rfl) (by kernel_rfl)
      (OpenSpec.preRow_of_cond 8 hx (by kernel_rfl) (fun k hk => by cases hk) (by kernel_rfl) (laid_met os))) ?_
  intro W base args ds gs before _ hW _ _ _ hL _ _
  exact contract H enc W base args ds gs before hW hL

theorem said : Rows.ExprNamesSaid :=
  OpenClaim.holds_of_cond 3 Tryd.f3 rfl rfl rfl rfl rfl rfl rfl ⟨rfl, rfl, rfl, rfl, rfl⟩ rfl rfl rfl rfl rfl (by kernel_rfl) Tryd.func3 (by kernel_rfl)
    (of_decide_eq_true (by kernel_rfl)) (by unfold Func.isWrapper; first | (rw [if_pos (by decide +kernel)]; kernel_rfl) | (rw [if_neg (by decide +kernel)]; exact ⟨rfl, rfl⟩))
    (fun os started H enc _ F => by rw [OpenClaim.pre_eq_preRow]; exact lifted os started H enc F)

theorem plain (f : FuncId) (fn : Func) (hf : Tryd.pinned.checked.prog.funcNamed "dovetail/dovetaillaw12.ExprNames" = some f) (hfn : Tryd.pinned.checked.prog.funcs[f]? = some fn) :
    true = Tryd.pinned.checked.prog.looks [] ∧ ∀ (j : Nat) t, fn.params[j]? = some t → Tryd.pinned.checked.prog.wantsStandIn t = false := by
  obtain rfl : f = 3 := Option.some.inj ((show Tryd.prog.funcNamed "dovetail/dovetaillaw12.ExprNames" = some 3 by kernel_rfl).symm.trans hf) |>.symm
  obtain rfl : fn = Tryd.f3 := (Option.some.inj (Tryd.func3.symm.trans hfn)).symm
  refine ⟨by kernel_rfl, fun j t ht => ?_⟩
  rw [Tryd.params3] at ht
  simp at ht

/-- the card -/
theorem card : Rows.ExprNamesCardSaid :=
  Claim7.holds_tied_plain_at .later [] _ _ _ _ said (fun _ h => by cases h) (by kernel_rfl) (fun _ h => by cases h) exprNames_row_tie rfl ⟨rfl, rfl⟩ (by kernel_rfl) rfl plain (by kernel_rfl)
end Go.Proofs.YtkdailfadljpkaaDoor.names
