/- dovetaillaw03.SexpWrapped returns true at every text (its tied card). Condition: none beyond the row's own. -/
import Derived.Test.YtmelajefpihaiaaDoorCards
import Derived.Test.YtmelajefpihaiaaDoorTie
import Derived.WalkKit
import Derived.ProofKit
import Derived.OpenShut
import Derived.ChangeMaps5
import Derived.Deep.DeepHandedRow
import Derived.Test.YtmelajefpihaiaaDoorDmD
import Derived.Test.YtmelajefpihaiaaDoorPrimsT
import Derived.Test.YtmelajefpihaiaaDoorLawT
namespace Go.Proofs.YtmelajefpihaiaaDoor.wrapped
open Go.ChangeShapes Go.WideShapes Go.ChangeAt Go.ChangeMaps Go.RowKit

theorem calls {W : World} (s : ByteArray) (hL : laidMet Tryd.prog laidL W) : Calls Tryd.prog 6 #[.string s] W fun e W' => e = .returned (.bool true) ∧ Below W.heap.size W W' := by
  have hc : DM.Ca DM.cfg 6 [.v (.string s)] DM.σ0 (fun x _ => x = .v (.bool true)) := by
    obtain ⟨x, σ', h1, h2⟩ := DM.gdovetaillaw03_SexpWrapped_ok (R := []) (DM.Hp.nil DM.σ0) (DM.sexp_wrapped s)
    exact ⟨x, σ', h1, h2.1⟩
  have h := DM.calls_true' (C := DM.cfg) (w := W) orders (prims hL) (globs _) (DM.RelL.cons (DM.Rel.v rfl) (DM.RelL.nil _)) hc
  rw [cfgP] at h
  exact h

set_option maxRecDepth 100000 in
theorem contract (H : Type) (enc : TypeId × Value → H) (W : World) (base : Nat) (args : Array Value) (ds gs : List (DataW H)) (before : List MemPlace)
    (hval : ∀ (j : Nat) t v, Tryd.f6.params[j]? = some t → args[j]? = some v → Value.okWide Tryd.prog W .any base t v)
    (hW : DataW.Whole enc Tryd.prog Tryd.f6.params.toList Rows.sexpWrappedSpec.vars false W args.toList ds gs before) (hL : laidMetH Tryd.prog Rows.sexpWrappedRow.laid W) :
    Calls Tryd.prog 6 args W fun e W' => ∃ v, e = .returned v ∧ Rows.sexpWrappedSpec.post enc Tryd.prog Tryd.f6 false true false false W args v W' := by
  have hW' := hW
  obtain ⟨p, q, hA0, hV, rfl, hfz, hnd⟩ := hW
  have hA : DataW.TrodAll enc Tryd.prog W 0 (fun _ => true) true Tryd.f6.params.toList args.toList ds p := hA0
  rw [Tryd.params6] at hA hval
  obtain ⟨v0, d0, rfl, rfl, hd0⟩ := trodAll_one hA
  obtain ⟨s, rfl, rfl, rfl, ws⟩ := open_string Tryd.underlying9 (hval 0 9 v0 rfl rfl) hd0
  obtain ⟨rfl, rfl⟩ := trodVars_none hV
  have hl : laidMet Tryd.prog laidL W := hL
  clear hA0 hA
  simp only [List.append_nil] at hW'
  refine (calls s hl).mono fun e W' ⟨he, hb⟩ => ?_
  subst he
  exact ⟨_, rfl, DM.post_of_below (pa := []) (pv := []) hW' (fun _ _ _ => trodAll_cons_mk (shut_bool Tryd.underlying4 _) trodAll_mk0) (fun _ _ => trodAll_mk1 (shut_string Tryd.underlying9 ws)) (fun _ _ => rfl) rfl
    hb (ok_one (by kernel_rfl) rfl (okWide_bool_mk Tryd.underlying4 _))⟩

/-- a world for the witness -/
noncomputable def laidWorld (os : Os) : World := DM.layWorld Tryd.prog 116 118 (World.holding Tryd.prog os ⟨#[], #[.string ⟨#[]⟩], []⟩) Rows.sexpWrappedRow.laid
theorem laid_met (os : Os) : laidMet Tryd.prog Rows.sexpWrappedRow.laid ((laidWorld os).forCall (fun _ _ => 0) ⟨#[], #[.string ⟨#[]⟩], []⟩).memory :=
  laidMet_of_run' 8 (by kernel_rfl) (by kernel_rfl)
theorem reads (os : Os) {H : Type} (enc : TypeId × Value → H) : ∃ places, DataW.whole enc Tryd.prog ((laidWorld os).forCall (fun _ _ => 0) ⟨#[], #[.string ⟨#[]⟩], []⟩).memory Tryd.f6.params.toList Rows.sexpWrappedSpec.vars false (#[.string ⟨#[]⟩] : Array Value).toList 8 = some ([.lit (.string [])], [], places) :=
  ⟨[], by kernel_rfl⟩

set_option maxRecDepth 100000 in
theorem lifted (os : Os) (started : os.Started) (H : Type) (enc : TypeId × Value → H) (F : Stop.Interp) :
    ReturnsInHanded {} Tryd.checked os 6 .any ((OpenSpec.ofChange Rows.sexpWrappedSpec).preRow enc Tryd.prog Tryd.f6 Rows.sexpWrappedRow.domain false Rows.sexpWrappedRow.laid) (((OpenSpec.ofChange Rows.sexpWrappedSpec).at F).post enc Tryd.prog Tryd.f6 false true false false) := by
  obtain ⟨places, hx⟩ := reads os enc
  refine returnsInHanded_of_row (C := Tryd.checked) (s := OpenSpec.ofChange Rows.sexpWrappedSpec) own started (by kernel_rfl) Tryd.func6
    (witness_row_at (enc := enc) (C := Tryd.checked) false (laidWorld os) #[.string ⟨#[]⟩] (DM.layWorld_os _ _ _ _ _) (by kernel_rfl) (by kernel_rfl) (by kernel_rfl)
      (OpenSpec.preRow_of_cond 8 hx (by kernel_rfl) (fun k hk => by cases hk) (by kernel_rfl) (laid_met os))) ?_
  intro W base args ds gs before hval hW _ _ _ hL _ _
  exact contract H enc W base args ds gs before hval hW hL

theorem said : Rows.SexpWrappedSaid :=
  OpenClaim.holds_of_cond 6 Tryd.f6 rfl rfl rfl rfl rfl rfl rfl ⟨rfl, rfl, rfl, rfl, rfl⟩ rfl rfl rfl rfl rfl (by kernel_rfl) Tryd.func6 (by kernel_rfl)
    (of_decide_eq_true (by kernel_rfl)) (by unfold Func.isWrapper; first | (rw [if_pos (by decide +kernel)]; kernel_rfl) | (rw [if_neg (by decide +kernel)]; exact ⟨rfl, rfl⟩))
    (fun os started H enc _ F => by rw [OpenClaim.pre_eq_preRow]; exact lifted os started H enc F)

theorem plain (f : FuncId) (fn : Func) (hf : Tryd.pinned.checked.prog.funcNamed "dovetail/dovetaillaw03.SexpWrapped" = some f) (hfn : Tryd.pinned.checked.prog.funcs[f]? = some fn) :
    true = Tryd.pinned.checked.prog.looks [] ∧ ∀ (j : Nat) t, fn.params[j]? = some t → Tryd.pinned.checked.prog.wantsStandIn t = false := by
  obtain rfl : f = 6 := Option.some.inj ((show Tryd.prog.funcNamed "dovetail/dovetaillaw03.SexpWrapped" = some 6 by kernel_rfl).symm.trans hf) |>.symm
  obtain rfl : fn = Tryd.f6 := (Option.some.inj (Tryd.func6.symm.trans hfn)).symm
  refine ⟨by kernel_rfl, fun j t ht => ?_⟩
  rw [Tryd.params6] at ht
  cases j with
  | zero =>
    obtain rfl : t = 9 := by simpa using ht.symm
    kernel_rfl
  | succ j => simp at ht

/-- the card -/
theorem card : Rows.SexpWrappedCardSaid :=
  Claim7.holds_tied_plain_at .later [] _ _ _ _ said (fun _ h => by cases h) (by kernel_rfl) (fun _ h => by cases h) sexpWrapped_row_tie rfl ⟨rfl, rfl⟩ (by kernel_rfl) rfl plain (by kernel_rfl)
end Go.Proofs.YtmelajefpihaiaaDoor.wrapped
