/- dovetaillaw03.SexpNames returns true at every call (its tied card). Condition: none beyond the row's own. -/
import Derived.Test.YtceegpggbbdieaaDoorCards
import Derived.Test.YtceegpggbbdieaaDoorTie
import Derived.WalkKit
import Derived.ProofKit
import Derived.OpenShut
import Derived.Deep.DeepHandedRow
import Derived.Test.YtceegpggbbdieaaDoorDmD
namespace Go.Proofs.YtceegpggbbdieaaDoor.names
open Go.ChangeShapes Go.WideShapes Go.ChangeAt Go.RowKit

theorem own : ownKnob Tryd.prog.godebug = none := by kernel_rfl
def pow10 : List Int := [1, 10, 100, 1000, 10000, 100000, 1000000, 10000000, 100000000, 1000000000, 10000000000, 100000000000, 1000000000000, 10000000000000, 100000000000000, 1000000000000000, 10000000000000000, 100000000000000000, 1000000000000000000, 10000000000000000000]
def tabs : List (Nat × IntKind × List Int) := [(3, .u64, pow10)]
noncomputable def cfg : DM.Cfg := { P := Tryd.prog, glob := DM.globOf tabs, prim := fun _ => none }
theorem orders : cfg.P.follows .mixedOrders = true := by kernel_rfl
set_option maxRecDepth 1000000 in
theorem runs : DM.isTrue (DM.call cfg 1000 3 [] DM.σ0) = true := by kernel_rfl

theorem gPow : Tryd.prog.globalNamed "internal/strconv.uint64pow10" = some 3 := by kernel_rfl
theorem gPowType : (Tryd.prog.globals[3]?).map (·.type) = some 80 := by kernel_rfl
theorem cellsArr : Tryd.prog.cellsOf 80 = 20 := by kernel_rfl
theorem cellsU64 : Tryd.prog.cellsOf 62 = 1 := by kernel_rfl
theorem table {W : World} (h : laidMetH Tryd.prog Rows.sexpNamesRow.laid W) : Lib.TabIs Tryd.prog W "internal/strconv.uint64pow10" .u64 pow10 := by
  have h' : laidMet Tryd.prog Rows.sexpNamesRow.laid W := h
  exact Lib.tabIs_of_head (rest := [("strconv.ErrRange", Rows.laid_strconv_ErrRange), ("strconv.ErrSyntax", Rows.laid_strconv_ErrSyntax)]) gPow gPowType Tryd.underlying80 Tryd.underlying62 cellsU64 cellsArr h'.tail.tail

theorem noPrim : cfg.prim = fun _ => none := rfl
theorem globs {W : World} (h : laidMetH Tryd.prog Rows.sexpNamesRow.laid W) : DM.GlobOk cfg (DM.start W) :=
  DM.globOf_ok (C := cfg) tabs (fun x hx => by
    simp only [tabs, List.mem_singleton] at hx
    subst hx
    exact DM.tab_rel (table h) gPow)
theorem cfgP : cfg.P = Tryd.prog := by unfold cfg; rfl
theorem calls {W : World} (h : laidMetH Tryd.prog Rows.sexpNamesRow.laid W) : Calls Tryd.prog 3 #[] W fun e W' => e = .returned (.bool true) ∧ Below W.heap.size W W' := by
  have h := DM.calls_true (C := cfg) (w := W) orders noPrim (globs h) (DM.RelL.nil _) runs
  rw [cfgP] at h
  exact h

set_option maxRecDepth 100000 in
theorem contract (H : Type) (enc : TypeId × Value → H) (W : World) (base : Nat) (args : Array Value) (ds gs : List (DataW H)) (before : List MemPlace)
    (hval : ∀ (j : Nat) t v, Tryd.f3.params[j]? = some t → args[j]? = some v → Value.okWide Tryd.prog W .any base t v)
    (hW : DataW.Whole enc Tryd.prog Tryd.f3.params.toList Rows.sexpNamesSpec.vars false W args.toList ds gs before) (hL : laidMetH Tryd.prog Rows.sexpNamesRow.laid W) :
    Calls Tryd.prog 3 args W fun e W' => ∃ v, e = .returned v ∧ Rows.sexpNamesSpec.post enc Tryd.prog Tryd.f3 false true false false W args v W' := by
  have hW' := hW
  obtain ⟨p, q, hA0, hV, rfl, hfz, hnd⟩ := hW
  have hA : DataW.TrodAll enc Tryd.prog W 0 (fun _ => true) true Tryd.f3.params.toList args.toList ds p := hA0
  rw [Tryd.params3] at hA
  obtain ⟨h1, rfl, rfl⟩ := trodAll_nil hA
  obtain rfl : args = #[] := by cases args; simp_all
  obtain ⟨rfl, rfl⟩ := trodVars_none hV
  clear hA0
  simp only [List.append_nil] at hW'
  refine (calls hL).mono fun e W' ⟨he, hb⟩ => ?_
  subst he
  exact ⟨_, rfl, DM.post_of_below (pa := []) (pv := []) hW' (fun _ _ _ => trodAll_cons_mk (shut_bool Tryd.underlying4 _) trodAll_mk0) (fun _ _ => trodAll_mk0) (fun _ _ => rfl) rfl
    hb (ok_one (by kernel_rfl) rfl (okWide_bool_mk Tryd.underlying4 _))⟩

/-- a world for the witness -/
noncomputable def laidWorld (os : Os) : World := DM.layWorld Tryd.prog 76 78 (World.holding Tryd.prog os ⟨#[], #[], []⟩) Rows.sexpNamesRow.laid
theorem laid_met (os : Os) : laidMet Tryd.prog Rows.sexpNamesRow.laid ((laidWorld os).forCall (fun _ _ => 0) ⟨#[], #[], []⟩).memory :=
  laidMet_of_run' 8 (by kernel_rfl) (by kernel_rfl)
theorem reads (os : Os) {H : Type} (enc : TypeId × Value → H) : ∃ places, DataW.whole enc Tryd.prog ((laidWorld os).forCall (fun _ _ => 0) ⟨#[], #[], []⟩).memory Tryd.f3.params.toList Rows.sexpNamesSpec.vars false (#[] : Array Value).toList 8 = some ([], [], places) :=
  ⟨[], by kernel_rfl⟩

set_option maxRecDepth 100000 in
theorem lifted (os : Os) (started : os.Started) (H : Type) (enc : TypeId × Value → H) (F : Stop.Interp) :
    ReturnsInHanded {} Tryd.checked os 3 .any ((OpenSpec.ofChange Rows.sexpNamesSpec).preRow enc Tryd.prog Tryd.f3 Rows.sexpNamesRow.domain false Rows.sexpNamesRow.laid) (((OpenSpec.ofChange Rows.sexpNamesSpec).at F).post enc Tryd.prog Tryd.f3 false true false false) := by
  obtain ⟨places, hx⟩ := reads os enc
  refine returnsInHanded_of_row (C := Tryd.checked) (s := OpenSpec.ofChange Rows.sexpNamesSpec) own started (by kernel_rfl) Tryd.func3
    (witness_row_at (enc := enc) (C := Tryd.checked) false (laidWorld os) #[] (DM.layWorld_os _ _ _ _ _) (by kernel_rfl) (by kernel_rfl) (by kernel_rfl)
      (OpenSpec.preRow_of_cond 8 hx (by kernel_rfl) (fun k hk => by cases hk) (by kernel_rfl) (laid_met os))) ?_
  intro W base args ds gs before hval hW _ _ _ hL _ _
  exact contract H enc W base args ds gs before hval hW hL

theorem said : Rows.SexpNamesSaid :=
  OpenClaim.holds_of_cond 3 Tryd.f3 rfl rfl rfl rfl rfl rfl rfl ⟨rfl, rfl, rfl, rfl, rfl⟩ rfl rfl rfl rfl rfl (by kernel_rfl) Tryd.func3 (by kernel_rfl)
    (of_decide_eq_true (by kernel_rfl)) (by unfold Func.isWrapper; first | (rw [if_pos (by decide +kernel)]; kernel_rfl) | (rw [if_neg (by decide +kernel)]; exact ⟨rfl, rfl⟩))
    (fun os started H enc _ F => by rw [OpenClaim.pre_eq_preRow]; exact lifted os started H enc F)

theorem plain (f : FuncId) (fn : Func) (hf : Tryd.pinned.checked.prog.funcNamed "dovetail/dovetaillaw03.SexpNames" = some f) (hfn : Tryd.pinned.checked.prog.funcs[f]? = some fn) :
    true = Tryd.pinned.checked.prog.looks [] ∧ ∀ (j : Nat) t, fn.params[j]? = some t → Tryd.pinned.checked.prog.wantsStandIn t = false := by
  obtain rfl : f = 3 := Option.some.inj ((show Tryd.prog.funcNamed "dovetail/dovetaillaw03.SexpNames" = some 3 by kernel_rfl).symm.trans hf) |>.symm
  obtain rfl : fn = Tryd.f3 := (Option.some.inj (Tryd.func3.symm.trans hfn)).symm
  refine ⟨by kernel_rfl, fun j t ht => ?_⟩
  rw [Tryd.params3] at ht
  simp at ht

/-- the card -/
theorem card : Rows.SexpNamesCardSaid :=
  Claim7.holds_tied_plain_at .later [] _ _ _ _ said (fun _ h => by cases h) (by kernel_rfl) (fun _ h => by cases h) sexpNames_row_tie rfl ⟨rfl, rfl⟩ (by kernel_rfl) rfl plain (by kernel_rfl)
end Go.Proofs.YtceegpggbbdieaaDoor.names
