/- dovetaillaw14.MatchNames returns true at every call (its tied card). Condition: none beyond the row's own. -/
import Derived.Test.YtjcpllbpkdfakaaGreatDoorRowM
import Derived.Test.YtjcpllbpkdfakaaGreatDoorDescM
namespace Go.Proofs.YtjcpllbpkdfakaaGreatDoor.matchNames
open Go.ChangeShapes Go.WideShapes Go.ChangeAt Go.RowKit
theorem calls {W : World} (h : laidMetH Tryz.prog Rows.matchNamesRow.laid W) {m : Int} (hm : W.cell? ⟨0, 0, none⟩ = some (.int .i64 m)) (h0 : 0 < W.heap.size) : Calls Tryz.prog 4 #[] W fun e W' => e = .returned (.bool true) ∧ Below W.heap.size W W' := by
  have h' : laidMet Tryz.prog Rows.matchNamesRow.laid W := h
  have hl : laidMet Tryz.prog laidL W := h'.filter fun e => e.1 != "unicode.CaseRanges"
  exact DM.FM.calls_pt (C := DM.FM.cfg5) DM.FM.orders_cfg5 (fun _ _ h => by cases h) (DM.FM.E1spt W (DM.FM.prims5 W (good_of hl hm h0)))

set_option maxRecDepth 100000 in
theorem contract (H : Type) (enc : TypeId × Value → H) (W : World) (_base : Nat) (args : Array Value) (ds gs : List (DataW H)) (before : List MemPlace)
    (hW : DataW.Whole enc Tryz.prog Tryz.f4.params.toList Rows.matchNamesSpec.vars false W args.toList ds gs before) (hL : laidMetH Tryz.prog Rows.matchNamesRow.laid W) (hsh : W.ShapedOpen Tryz.prog) :
    Calls Tryz.prog 4 args W fun e W' => ∃ v, e = .returned v ∧ Rows.matchNamesSpec.post enc Tryz.prog Tryz.f4 false true false false W args v W' := by
  have hW' := hW
  obtain ⟨p, q, hA0, hV, rfl, hfz, hnd⟩ := hW
  have hA : DataW.TrodAll enc Tryz.prog W 0 (fun _ => true) true Tryz.f4.params.toList args.toList ds p := hA0
  rw [Tryz.params4] at hA
  obtain ⟨h1, rfl, rfl⟩ := trodAll_nil hA
  obtain rfl : args = #[] := by cases args; simp_all
  obtain ⟨rfl, rfl⟩ := trodVars_none hV
  obtain ⟨m, hm⟩ : ∃ m, W.cell? ⟨0, 0, none⟩ = some (.int .i64 m) := Tryz.laysM145.s1_3 W hsh
  clear hA0
  simp only [List.append_nil] at hW'
  refine (calls hL hm (World.block_lt_of_cell? _ _ hm)).mono fun e W' ⟨he, hb⟩ => ?_
  subst he
  exact ⟨_, rfl, DM.post_of_below (pa := []) (pv := []) hW' (fun _ _ _ => trodAll_cons_mk (shut_bool Tryz.underlying4 _) trodAll_mk0) (fun _ _ => trodAll_mk0) (fun _ _ => rfl) rfl
    hb (ok_one (by kernel_rfl) rfl (okWide_bool_mk Tryz.underlying4 _))⟩

set_option maxRecDepth 100000 in
theorem lifted (os : Os) (started : os.Started) (H : Type) (enc : TypeId × Value → H) (F : Stop.Interp) :
    ReturnsInHanded {} Tryz.checked os 4 .any ((OpenSpec.ofChange Rows.matchNamesSpec).preRow enc Tryz.prog Tryz.f4 Rows.matchNamesRow.domain false Rows.matchNamesRow.laid) (((OpenSpec.ofChange Rows.matchNamesSpec).at F).post enc Tryz.prog Tryz.f4 false true false false) := by
  obtain ⟨places, hx⟩ := reads os enc
  refine returnsInHanded_of_row (C := Tryz.checked) (s := OpenSpec.ofChange Rows.matchNamesSpec) own started f_init Tryz.func4
    (witness_row_atRef (enc := enc) (C := Tryz.checked) false (laidWorld os) #[] (laidWorld_os os) (f_vars os) (f_heap os) (f_ok os)
      (OpenSpec.preRow_of_cond 8 hx (by kernel_rfl) (fun k hk => by cases hk) (f_size os enc) (laid_met os))) ?_
  intro W base args ds gs before _ hW _ _ _ hL hsh _
  exact contract H enc W base args ds gs before hW hL hsh

theorem said : Rows.MatchNamesSaid :=
  OpenClaim.holds_of_cond 4 Tryz.f4 rfl rfl rfl rfl rfl rfl rfl ⟨rfl, rfl, rfl, rfl, rfl⟩ rfl rfl rfl rfl rfl f_named Tryz.func4 f_joined
    (of_decide_eq_true (by kernel_rfl)) (by unfold Func.isWrapper; first | (rw [if_pos (by decide +kernel)]; kernel_rfl) | (rw [if_neg (by decide +kernel)]; exact ⟨rfl, rfl⟩))
    (fun os started H enc _ F => by rw [OpenClaim.pre_eq_preRow]; exact lifted os started H enc F)

/-- the card -/
theorem card : Rows.MatchNamesCardSaid :=
  Claim7.holds_tied_plain_at .later [] _ _ _ _ said (fun _ h => by cases h) f_text (fun _ h => by cases h) matchNames_row_tie rfl ⟨rfl, rfl⟩ f_main rfl plain f_goes
end Go.Proofs.YtjcpllbpkdfakaaGreatDoor.matchNames
