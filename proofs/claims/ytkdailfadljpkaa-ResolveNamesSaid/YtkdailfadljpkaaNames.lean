/- dovetaillaw20.ResolveNames returns true at every call. Condition: none beyond the row's own. -/
import Derived.Test.YtkdailfadljpkaaRows
import Derived.WalkKit
import Derived.ProofKit
import Derived.OpenShut
import Derived.Deep.DeepHandedRow
import Derived.Test.YtkdailfadljpkaaDmD
import Derived.Test.YtkdailfadljpkaaSortT
import Derived.Test.YtkdailfadljpkaaIterT
namespace Go.Proofs.Ytkdailfadljpkaa.names
open Go.ChangeShapes Go.WideShapes Go.ChangeAt Go.RowKit

theorem own : ownKnob Try.prog.godebug = none := by kernel_rfl
noncomputable def cfg : DM.Cfg := { P := Try.prog, glob := fun _ => none, prim := fun f => if f = 9 then some (DM.sortedG 18) else none }
theorem orders : cfg.P.follows .mixedOrders = true := by kernel_rfl
theorem cfgP : cfg.P = Try.prog := by unfold cfg; rfl
set_option maxRecDepth 1000000 in
theorem runs : DM.isTrue (DM.call cfg 1000 3 [] DM.σ0) = true := by kernel_rfl
theorem globs (k : DM.K) : DM.GlobOk cfg k := fun g a h => by cases h
/-- the function by hand is the library's -/
theorem prims {W : World} : DM.PrimOk cfg W := by
  intro f g args σ σ' x k us hf hg hI _ hr
  rw [cfgP]
  have hf' : (if f = 9 then some (DM.sortedG 18) else none) = some g := hf
  split at hf'
  · rename_i e; subst e; cases hf'
    exact DM.sorted_prim (P := Try.prog) (g := 18) (c := 9) (K0 := 9) Try.underlying9
      (fun Bm b nn D w hBm hm hown => Go.Proofs.AnyZ.keys_gives (ρ := Try.keys10_ren) { Try.keys10 with } Fence.wide 2 trivial rfl (by omega) Bm b nn D w hBm hm hown)
      (fun lb S N w hN hNb hseq => Go.Proofs.AnyZ.sorted_in Try.sorted9 Fence.wide 5 trivial trivial trivial trivial rfl (by omega) (Try.sorts9 _) (enters_of Try.func17 (by kernel_rfl) rfl) 18 lb trivial (enters_of Try.func18 (by kernel_rfl) rfl) S N hN hNb w hseq)
      hg hI hr
  · cases hf'
theorem calls {W : World} : Calls Try.prog 3 #[] W fun e W' => e = .returned (.bool true) ∧ Below W.heap.size W W' := by
  have h := DM.calls_true2 (C := cfg) (w := W) orders prims (globs _) (DM.RelL.nil _) runs
  rw [cfgP] at h
  exact h

set_option maxRecDepth 100000 in
theorem contract (H : Type) (enc : TypeId × Value → H) (W : World) (base : Nat) (args : Array Value) (ds gs : List (DataW H)) (before : List MemPlace)
    (hW : DataW.Whole enc Try.prog Try.f3.params.toList Rows.resolveNamesSpec.vars false W args.toList ds gs before) :
    Calls Try.prog 3 args W fun e W' => ∃ v, e = .returned v ∧ Rows.resolveNamesSpec.post enc Try.prog Try.f3 false true false false W args v W' := by
  have hW' := hW
  obtain ⟨p, q, hA0, hV, rfl, hfz, hnd⟩ := hW
  have hA : DataW.TrodAll enc Try.prog W 0 (fun _ => true) true Try.f3.params.toList args.toList ds p := hA0
  rw [Try.params3] at hA
  obtain ⟨h1, rfl, rfl⟩ := trodAll_nil hA
  obtain rfl : args = #[] := by cases args; simp_all
  obtain ⟨rfl, rfl⟩ := trodVars_none hV
  clear hA0
  simp only [List.append_nil] at hW'
  refine calls.mono fun e W' ⟨he, hb⟩ => ?_
  subst he
  exact ⟨_, rfl, DM.post_of_below (pa := []) (pv := []) hW' (fun _ _ _ => trodAll_cons_mk (shut_bool Try.underlying4 _) trodAll_mk0) (fun _ _ => trodAll_mk0) (fun _ _ => rfl) rfl
    hb (ok_one (by kernel_rfl) rfl (okWide_bool_mk Try.underlying4 _))⟩

/-- a world for the witness -/
noncomputable def laidWorld (os : Os) : World := DM.layWorld Try.prog 0 0 (World.holding Try.prog os ⟨#[], #[], []⟩) Rows.resolveNamesRow.laid
theorem laid_met (os : Os) : laidMet Try.prog Rows.resolveNamesRow.laid ((laidWorld os).forCall (fun _ _ => 0) ⟨#[], #[], []⟩).memory :=
  laidMet_of_run' 8 (by kernel_rfl) (by kernel_rfl)
theorem reads (os : Os) {H : Type} (enc : TypeId × Value → H) : ∃ places, DataW.whole enc Try.prog ((laidWorld os).forCall (fun _ _ => 0) ⟨#[], #[], []⟩).memory Try.f3.params.toList Rows.resolveNamesSpec.vars false (#[] : Array Value).toList 8 = some ([], [], places) :=
  ⟨[], by kernel_rfl⟩

set_option maxRecDepth 100000 in
theorem lifted (os : Os) (started : os.Started) (H : Type) (enc : TypeId × Value → H) (F : Stop.Interp) :
    ReturnsInHanded {} Try.checked os 3 .any ((OpenSpec.ofChange Rows.resolveNamesSpec).preRow enc Try.prog Try.f3 Rows.resolveNamesRow.domain false Rows.resolveNamesRow.laid) (((OpenSpec.ofChange Rows.resolveNamesSpec).at F).post enc Try.prog Try.f3 false true false false) := by
  obtain ⟨places, hx⟩ := reads os enc
  refine returnsInHanded_of_row (C := Try.checked) (s := OpenSpec.ofChange Rows.resolveNamesSpec) own started (by kernel_rfl) Try.func3
    (witness_row_at (enc := enc) (C := Try.checked) false (laidWorld os) #[] (DM.layWorld_os _ _ _ _ _) (by kernel_rfl) (by kernel_rfl) (by kernel_rfl)
      (OpenSpec.preRow_of_cond 8 hx (by kernel_rfl) (fun k hk => by cases hk) (by kernel_rfl) (laid_met os))) ?_
  intro W base args ds gs before _ hW _ _ _ _ _ _
  exact contract H enc W base args ds gs before hW

theorem said : Rows.ResolveNamesSaid :=
  OpenClaim.holds_of_cond 3 Try.f3 rfl rfl rfl rfl rfl rfl rfl ⟨rfl, rfl, rfl, rfl, rfl⟩ rfl rfl rfl rfl rfl (by kernel_rfl) Try.func3 (by kernel_rfl)
    (of_decide_eq_true (by kernel_rfl)) (by unfold Func.isWrapper; first | (rw [if_pos (by decide +kernel)]; kernel_rfl) | (rw [if_neg (by decide +kernel)]; exact ⟨rfl, rfl⟩))
    (fun os started H enc _ F => by rw [OpenClaim.pre_eq_preRow]; exact lifted os started H enc F)
end Go.Proofs.Ytkdailfadljpkaa.names
