/- dovetaillaw15.SizesNames returns true at every call (its tied card). No condition but the row's own. -/
import Derived.Test.YthcnipopdbgpdaaGreatDoorRowN
import Derived.Test.YthcnipopdbgpdaaGreatDoorDescN
namespace Go.Proofs.YthcnipopdbgpdaaGreatDoor.sizesNames
open Go.ChangeShapes Go.WideShapes Go.ChangeAt Go.RowKit
set_option maxRecDepth 100000
theorem calls {W : World} (h : laidMetH Tryz.prog Rows.sizesNamesRow.laid W) {m : Int} (hm : W.cell? ⟨4, 0, none⟩ = some (.int .i64 m)) (h0 : 4 < W.heap.size) : Calls Tryz.prog 5 #[] W fun e W' => e = .returned (.bool true) ∧ Below W.heap.size W W' := by
 have hl : laidMet Tryz.prog Nd W := h
 exact DM.FM.calls_pt (C := DM.FM.CN.cfg5) DM.FM.CN.orders_cfg5 (fun _ _ h => by cases h) (DM.FM.CN.E1spt W (DM.FM.CN.prims5 W (Ue hl hm h0)))
theorem contract (H : Type) (c : TypeId × Value → H) (W : World) (_ : Nat) (args : Array Value) (ds gs : List (DataW H)) (bf : List MemPlace)
  (hW : DataW.Whole c Tryz.prog Tryz.f5.params.toList Rows.sizesNamesSpec.vars false W args.toList ds gs bf) (hL : laidMetH Tryz.prog Rows.sizesNamesRow.laid W) (hsh : W.ShapedOpen Tryz.prog) :
  Calls Tryz.prog 5 args W fun e W' => ∃ v, e = .returned v ∧ Rows.sizesNamesSpec.post c Tryz.prog Tryz.f5 false true false false W args v W' := by
 have hW' := hW
 obtain ⟨p, q, hA0, hV, rfl, hfz, hnd⟩ := hW
 have hA : DataW.TrodAll c Tryz.prog W 0 (fun _ => true) true Tryz.f5.params.toList args.toList ds p := hA0
 rw [Tryz.params5] at hA
 obtain ⟨h1, rfl, rfl⟩ := trodAll_nil hA
 obtain rfl : args = #[] := by cases args; simp_all
 obtain ⟨rfl, rfl⟩ := trodVars_none hV
 obtain ⟨m, hm⟩ : ∃ m, W.cell? ⟨4, 0, none⟩ = some (.int .i64 m) := Tryz.laysM145.s1_3 W hsh
 clear hA0
 simp only [List.append_nil] at hW'
 refine (calls hL hm (World.block_lt_of_cell? _ _ hm)).mono fun e W' ⟨he, hb⟩ => ?_
 subst he
 exact ⟨_, rfl, DM.post_of_below (pa := []) (pv := []) hW' (fun _ _ _ => trodAll_cons_mk (shut_bool Tryz.underlying4 _) trodAll_mk0) (fun _ _ => trodAll_mk0) (fun _ _ => rfl) rfl
  hb (ok_one (by kernel_rfl) rfl (okWide_bool_mk Tryz.underlying4 _))⟩
theorem lifted (os : Os) (st : os.Started) (H : Type) (c : TypeId × Value → H) (F : Stop.Interp) :
  ReturnsInHanded {} Tryz.checked os 5 .any ((OpenSpec.ofChange Rows.sizesNamesSpec).preRow c Tryz.prog Tryz.f5 Rows.sizesNamesRow.domain false Rows.sizesNamesRow.laid) (((OpenSpec.ofChange Rows.sizesNamesSpec).at F).post c Tryz.prog Tryz.f5 false true false false) := by
 obtain ⟨pl, hx⟩ := reads os c
 refine returnsInHanded_of_row (C := Tryz.checked) (s := OpenSpec.ofChange Rows.sizesNamesSpec) own st f_init Tryz.func5
  (witness_row_atRef (enc := c) (C := Tryz.checked) false (laidWorld os) #[] (laidWorld_os os) (f_vars os) (f_heap os) (f_ok os)
   (OpenSpec.preRow_of_cond 8 hx (by kernel_rfl) (fun k hk => by cases hk) (f_size os c) (laid_met os))) ?_
 intro W base args ds gs bf _ hW _ _ _ hL hsh _
 exact contract H c W base args ds gs bf hW hL hsh
theorem said : Rows.SizesNamesSaid :=
 OpenClaim.holds_of_cond 5 Tryz.f5 rfl rfl rfl rfl rfl rfl rfl ⟨rfl, rfl, rfl, rfl, rfl⟩ rfl rfl rfl rfl rfl f_named Tryz.func5 f_joined
  (of_decide_eq_true (by kernel_rfl)) (by unfold Func.isWrapper; first | (rw [if_pos (by decide +kernel)]; kernel_rfl) | (rw [if_neg (by decide +kernel)]; exact ⟨rfl, rfl⟩))
  (fun os st H c _ F => by rw [OpenClaim.pre_eq_preRow]; exact lifted os st H c F)
theorem card : Rows.SizesNamesCardSaid :=
 Claim7.holds_tied_plain_at .later [] _ _ _ _ said (fun _ h => by cases h) f_text (fun _ h => by cases h) sizesNames_row_tie rfl ⟨rfl, rfl⟩ f_main rfl plain f_goes
end Go.Proofs.YthcnipopdbgpdaaGreatDoor.sizesNames
