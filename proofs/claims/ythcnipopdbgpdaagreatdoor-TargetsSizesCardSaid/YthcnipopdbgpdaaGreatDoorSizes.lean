/- dovetaillaw10.TargetsSizes returns true at every call (its tied card). No condition but the row's own. -/
import Derived.Test.YthcnipopdbgpdaaGreatDoorRowS
import Derived.Test.YthcnipopdbgpdaaGreatDoorDescS
namespace Go.Proofs.YthcnipopdbgpdaaGreatDoor.targetsSizes
open Go.ChangeShapes Go.WideShapes Go.ChangeAt Go.RowKit
set_option maxRecDepth 100000
theorem calls {W : World} (h : laidMetH Tryz.prog Rows.targetsSizesRow.laid W) {m : Int} (hm : W.cell? ⟨4, 0, none⟩ = some (.int .i64 m)) (h0 : 4 < W.heap.size) : Calls Tryz.prog 4 #[] W fun e W' => e = .returned (.bool true) ∧ Below W.heap.size W W' := by
 have hl : laidMet Tryz.prog Nh W := h
 exact DM.FM.calls_pt (C := DM.FM.CS.cfg5) DM.FM.CS.orders_cfg5 (fun _ _ h => by cases h) (DM.FM.CS.E1spt W (DM.FM.CS.prims5 W (Yf hl hm h0)))
theorem W2 (H : Type) (c : TypeId × Value → H) (W : World) (_ : Nat) (args : Array Value) (ds gs : List (DataW H)) (bf : List MemPlace)
  (hW : DataW.Whole c Tryz.prog Tryz.f4.params.toList Rows.targetsSizesSpec.vars false W args.toList ds gs bf) (hL : laidMetH Tryz.prog Rows.targetsSizesRow.laid W) (hsh : W.ShapedOpen Tryz.prog) :
  Calls Tryz.prog 4 args W fun e W' => ∃ v, e = .returned v ∧ Rows.targetsSizesSpec.post c Tryz.prog Tryz.f4 false true false false W args v W' := by
 have hW' := hW
 obtain ⟨p, q, hA0, hV, rfl, hfz, hnd⟩ := hW
 have hA : DataW.TrodAll c Tryz.prog W 0 (fun _ => true) true Tryz.f4.params.toList args.toList ds p := hA0
 rw [Tryz.params4] at hA
 obtain ⟨h1, rfl, rfl⟩ := trodAll_nil hA
 obtain rfl : args = #[] := by cases args; simp_all
 obtain ⟨rfl, rfl⟩ := trodVars_none hV
 obtain ⟨m, hm⟩ : ∃ m, W.cell? ⟨4, 0, none⟩ = some (.int .i64 m) := Tryz.laysM145.s1_3 W hsh
 clear hA0
 simp only [List.append_nil] at hW'
 refine (calls hL hm (World.block_lt_of_cell? _ _ hm)).mono fun e W' ⟨he, hb⟩ => ?_
 subst he
 exact ⟨_, rfl, DM.post_of_below (pa := []) (pv := []) hW' (fun _ _ _ => trodAll_cons_mk (shut_bool Tryz.underlying4 _) trodAll_mk0) (fun _ _ => trodAll_mk0) (fun _ _ => rfl) rfl
  hb (ok_one (by kernel_rfl) rfl (okWide_bool_mk Tryz.underlying4 _))⟩
theorem lifted (os : Os) (st : os.Started) (H : Type) (c : TypeId × Value → H) (F : Stop.Interp) :
  ReturnsInHanded {} Tryz.checked os 4 .any ((OpenSpec.ofChange Rows.targetsSizesSpec).preRow c Tryz.prog Tryz.f4 Rows.targetsSizesRow.domain false Rows.targetsSizesRow.laid) (((OpenSpec.ofChange Rows.targetsSizesSpec).at F).post c Tryz.prog Tryz.f4 false true false false) := by
 obtain ⟨pl, hx⟩ := Afg os c
 refine returnsInHanded_of_row (C := Tryz.checked) (s := OpenSpec.ofChange Rows.targetsSizesSpec) own st Adk Tryz.func4
  (witness_row_atRef (enc := c) (C := Tryz.checked) false (Cs os) #[] (O8 os) (Adl os) (Adm os) (f_ok os)
   (OpenSpec.preRow_of_cond 8 hx (by kernel_rfl) (fun k hk => by cases hk) (Adn os c) (W0 os))) ?_
 intro W base args ds gs bf _ hW _ _ _ hL hsh _
 exact W2 H c W base args ds gs bf hW hL hsh
theorem said : Rows.TargetsSizesSaid :=
 OpenClaim.holds_of_cond 4 Tryz.f4 rfl rfl rfl rfl rfl rfl rfl ⟨rfl, rfl, rfl, rfl, rfl⟩ rfl rfl rfl rfl rfl Yh Tryz.func4 W1
  (of_decide_eq_true (by kernel_rfl)) (by unfold Func.isWrapper; first | (rw [if_pos (by decide +kernel)]; kernel_rfl) | (rw [if_neg (by decide +kernel)]; exact ⟨rfl, rfl⟩))
  (fun os st H c _ F => by rw [OpenClaim.pre_eq_preRow]; exact lifted os st H c F)
theorem card : Rows.TargetsSizesCardSaid :=
 Claim7.holds_tied_plain_at .later [] _ _ _ _ said (fun _ h => by cases h) Ado (fun _ h => by cases h) targetsSizes_row_tie rfl ⟨rfl, rfl⟩ Adp rfl plain Adq
end Go.Proofs.YthcnipopdbgpdaaGreatDoor.targetsSizes
