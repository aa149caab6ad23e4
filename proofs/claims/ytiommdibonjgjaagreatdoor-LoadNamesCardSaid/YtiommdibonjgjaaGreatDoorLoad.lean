/- dovetaillaw24.LoadNames returns true at every call (its tied card). Condition: none beyond the row's own. -/
import Derived.Test.YtiommdibonjgjaaGreatDoorCards
import Derived.Test.YtiommdibonjgjaaGreatDoorTie
import Derived.WalkKit
import Derived.ProofKit
import Derived.OpenShut
import Derived.Deep.DeepHandedRow
import Derived.Deep.DeepWitnessRowRef
import Derived.Lib.LaidIn
import Derived.Test.YtiommdibonjgjaaGreatDoorDmD
import Derived.Test.YtiommdibonjgjaaGreatDoorDmF
import Derived.Test.YtiommdibonjgjaaGreatDoorDescU
namespace Go.Proofs.YtiommdibonjgjaaGreatDoor.loadNames
open Go.ChangeShapes Go.WideShapes Go.ChangeAt Go.RowKit

set_option maxRecDepth 1000000 in
theorem runs : DM.isTrue (DM.FM.fcall DM.FM.cfg3 DM.FM.orc 1000 7 [] DM.σ0) = true := by kernel_rfl
theorem calls {W : World} (h : laidMetH Tryz.prog Rows.loadNamesRow.laid W) {m : Int} (hm : W.cell? ⟨4, 0, none⟩ = some (.int .i64 m)) (h0 : 4 < W.heap.size) : Calls Tryz.prog 7 #[] W fun e W' => e = .returned (.bool true) ∧ Below W.heap.size W W' := by
  have hl : laidMet Tryz.prog laidL W := h
  have h := DM.calls_true2 (C := DM.FM.cfg3) (w := W) DM.FM.orders_cfg3 (DM.FM.prims3 W (good_of hl hm h0)) (fun _ _ h => by cases h) (DM.RelL.nil _) (DM.FM.isTrue_le (DM.FM.fcall_ok DM.FM.orcs_cfg3 1000) runs)
  exact h

set_option maxRecDepth 100000 in
theorem contract (H : Type) (enc : TypeId × Value → H) (W : World) (base : Nat) (args : Array Value) (ds gs : List (DataW H)) (before : List MemPlace)
    (hW : DataW.Whole enc Tryz.prog Tryz.f7.params.toList Rows.loadNamesSpec.vars false W args.toList ds gs before) (hL : laidMetH Tryz.prog Rows.loadNamesRow.laid W) (hsh : W.ShapedOpen Tryz.prog) :
    Calls Tryz.prog 7 args W fun e W' => ∃ v, e = .returned v ∧ Rows.loadNamesSpec.post enc Tryz.prog Tryz.f7 false true false false W args v W' := by
  have hW' := hW
  obtain ⟨p, q, hA0, hV, rfl, hfz, hnd⟩ := hW
  have hA : DataW.TrodAll enc Tryz.prog W 0 (fun _ => true) true Tryz.f7.params.toList args.toList ds p := hA0
  rw [Tryz.params7] at hA
  obtain ⟨h1, rfl, rfl⟩ := trodAll_nil hA
  obtain rfl : args = #[] := by cases args; simp_all
  obtain ⟨rfl, rfl⟩ := trodVars_none hV
  obtain ⟨m, hm⟩ : ∃ m, W.cell? ⟨4, 0, none⟩ = some (.int .i64 m) := Tryz.laysM145.s1_3 W hsh
  clear hA0
  simp only [List.append_nil] at hW'
  refine (calls hL hm (World.block_lt_of_cell? _ _ hm)).mono fun e W' ⟨he, hb⟩ => ?_
  subst he
  exact ⟨_, rfl, DM.post_of_below (pa := []) (pv := []) hW' (fun _ _ _ => trodAll_cons_mk (shut_bool Tryz.underlying4 _) trodAll_mk0) (fun _ _ => trodAll_mk0) (fun _ _ => rfl) rfl
    hb (ok_one (by kernel_rfl) rfl (okWide_bool_mk Tryz.underlying4 _))⟩

/-- a world for the witness -/
noncomputable def world0 (os : Os) : World := DM.layWorld Tryz.prog 474 476 (World.holding Tryz.prog os ⟨#[], #[], []⟩) [("math/bits.deBruijn32tab", Rows.laid_math_bits_deBruijn32tab), ("math/bits.deBruijn64tab", Rows.laid_math_bits_deBruijn64tab), ("internal/strconv.uint64pow10", Rows.laid_internal_strconv_uint64pow10), ("unicode/utf8.acceptRanges", Rows.laid_unicode_utf8_acceptRanges), ("strconv.ErrRange", Rows.laid_strconv_ErrRange), ("strconv.ErrSyntax", Rows.laid_strconv_ErrSyntax), ("strings.asciiSpace", Rows.laid_strings_asciiSpace), ("unicode/utf8.first", Rows.laid_unicode_utf8_first)]
noncomputable def size0 : Nat := (World.holding Tryz.prog default ⟨#[], #[], []⟩).heap.size
noncomputable def pushWs (w : World) : World := { w with heap := ((w.heap.modify 3 (DM.withCells #[.pointer (some ⟨size0 + 2, 0, none⟩)])).push (.cells #[.slice (some ⟨size0 + 3, 0, none⟩) 7 7, .slice none 0 0, .int .i64 2] 450 (0, 0))).push (.cells #[.int .u16 9, .int .u16 13, .int .u16 1, .int .u16 32, .int .u16 133, .int .u16 101, .int .u16 160, .int .u16 5760, .int .u16 5600, .int .u16 8192, .int .u16 8202, .int .u16 1, .int .u16 8232, .int .u16 8233, .int .u16 1, .int .u16 8239, .int .u16 8287, .int .u16 48, .int .u16 12288, .int .u16 12288, .int .u16 1] 453 (0, 0)) }
theorem pushWs_os (w : World) : (pushWs w).os = w.os := rfl
noncomputable def laidWorld (os : Os) : World := pushWs (world0 os)
theorem world0_os (os : Os) : (world0 os).os = os := DM.layWorld_os _ _ _ _ _
theorem laidWorld_os (os : Os) : (laidWorld os).os = os := (pushWs_os (world0 os)).trans (world0_os os)
def laidA : List (String × DataW Unit) := [("math/bits.deBruijn32tab", Rows.laid_math_bits_deBruijn32tab), ("math/bits.deBruijn64tab", Rows.laid_math_bits_deBruijn64tab), ("internal/strconv.uint64pow10", Rows.laid_internal_strconv_uint64pow10), ("unicode/utf8.acceptRanges", Rows.laid_unicode_utf8_acceptRanges), ("strconv.ErrRange", Rows.laid_strconv_ErrRange), ("strconv.ErrSyntax", Rows.laid_strconv_ErrSyntax), ("unicode.White_Space", Rows.laid_unicode_White_Space)]
def laidB : List (String × DataW Unit) := [("strings.asciiSpace", Rows.laid_strings_asciiSpace)]
def laidC : List (String × DataW Unit) := [("unicode/utf8.first", Rows.laid_unicode_utf8_first)]
theorem laid_eq : Rows.loadNamesRow.laid = laidA ++ laidB ++ laidC := rfl
theorem laid_met (os : Os) : laidMet Tryz.prog Rows.loadNamesRow.laid ((laidWorld os).forCall (fun _ _ => 0) ⟨#[], #[], []⟩).memory := by
  rw [laid_eq]
  exact LaidIn.met (((LaidIn.of_run [8, 9, 7, 2, 6, 5, 3, size0, size0 + 1, size0 + 2, size0 + 3] 8 (by kernel_rfl) (by kernel_rfl) (by kernel_rfl) (by kernel_rfl) : LaidIn Tryz.prog ((laidWorld os).forCall (fun _ _ => 0) ⟨#[], #[], []⟩).memory laidA _).append
    (LaidIn.of_run [0] 8 (by kernel_rfl) (by kernel_rfl) (by kernel_rfl) (by kernel_rfl) : LaidIn Tryz.prog _ laidB _) (by kernel_rfl)).append
    (LaidIn.of_run [1] 8 (by kernel_rfl) (by kernel_rfl) (by kernel_rfl) (by kernel_rfl) : LaidIn Tryz.prog _ laidC _) (by kernel_rfl))
theorem reads (os : Os) {H : Type} (enc : TypeId × Value → H) : ∃ places, DataW.whole enc Tryz.prog ((laidWorld os).forCall (fun _ _ => 0) ⟨#[], #[], []⟩).memory Tryz.f7.params.toList Rows.loadNamesSpec.vars false (#[] : Array Value).toList 8 = some ([], [], places) :=
  ⟨[], by kernel_rfl⟩

set_option maxRecDepth 1000000 in
theorem f_init : Tryz.checked.prog.inits.idxOf? 7 = none := by kernel_rfl
set_option maxRecDepth 1000000 in
theorem f_vars (os : Os) : ((laidWorld os).forCall (fun _ _ => 0) ⟨#[], #[], []⟩).variablesRefB Tryz.checked.prog = true := by kernel_rfl
set_option maxRecDepth 1000000 in
theorem f_heap (os : Os) : (((laidWorld os).forCall (fun _ _ => 0) ⟨#[], #[], []⟩).heap.toList.drop Tryz.checked.prog.globals.size).take ((begin Tryz.checked.prog (fun _ _ => 0) default).world.heap.size - Tryz.checked.prog.globals.size) =
    (begin Tryz.checked.prog (fun _ _ => 0) default).world.heap.toList.drop Tryz.checked.prog.globals.size := by kernel_rfl
set_option maxRecDepth 1000000 in
theorem f_ok (os : Os) : Input.okWideB Tryz.checked.prog ((laidWorld os).forCall (fun _ _ => 0) ⟨#[], #[], []⟩) 7 ⟨#[], #[], []⟩ = true := by kernel_rfl
set_option maxRecDepth 1000000 in
theorem f_size (os : Os) {H : Type} (enc : TypeId × Value → H) : (OpenSpec.ofChange Rows.loadNamesSpec).bare.sizedB enc Tryz.prog Tryz.f7 false ((laidWorld os).forCall (fun _ _ => 0) ⟨#[], #[], []⟩).memory #[] 8 = true := by kernel_rfl
set_option maxRecDepth 100000 in
theorem lifted (os : Os) (started : os.Started) (H : Type) (enc : TypeId × Value → H) (F : Stop.Interp) :
    ReturnsInHanded {} Tryz.checked os 7 .any ((OpenSpec.ofChange Rows.loadNamesSpec).preRow enc Tryz.prog Tryz.f7 Rows.loadNamesRow.domain false Rows.loadNamesRow.laid) (((OpenSpec.ofChange Rows.loadNamesSpec).at F).post enc Tryz.prog Tryz.f7 false true false false) := by
  obtain ⟨places, hx⟩ := reads os enc
  refine returnsInHanded_of_row (C := Tryz.checked) (s := OpenSpec.ofChange Rows.loadNamesSpec) own started f_init Tryz.func7
    (witness_row_atRef (enc := enc) (C := Tryz.checked) false (laidWorld os) #[] (laidWorld_os os) (f_vars os) (f_heap os) (f_ok os)
      (OpenSpec.preRow_of_cond 8 hx (by kernel_rfl) (fun k hk => by cases hk) (f_size os enc) (laid_met os))) ?_
  intro W base args ds gs before _ hW _ _ _ hL hsh _
  exact contract H enc W base args ds gs before hW hL hsh

set_option maxRecDepth 1000000 in
theorem f_named : Tryz.pinned.checked.prog.funcNamed Rows.loadNamesRow.func = some 7 := by kernel_rfl
set_option maxRecDepth 1000000 in
theorem j0 : (Rows.loadNamesRow.wf (OpenSpec.ofChange (OpenSpec.ofChange Rows.loadNamesSpec).bare)) = true := by kernel_rfl
set_option maxRecDepth 1000000 in
theorem j1 : (laidOutB Tryz.pinned.checked.prog) = true := by kernel_rfl
set_option maxRecDepth 1000000 in
theorem j2 : (mapsRowed Tryz.pinned.checked.prog) = true := by kernel_rfl
set_option maxRecDepth 1000000 in
theorem j3 : (Tryz.f7.params.all (Tryz.pinned.checked.prog.readableRec ·)) = true := by kernel_rfl
set_option maxRecDepth 1000000 in
theorem j4 : (namedTie Tryz.pinned.checked.prog Rows.loadNamesRow.named (OpenSpec.ofChange Rows.loadNamesSpec).bare.vars) = true := by kernel_rfl
set_option maxRecDepth 1000000 in
theorem j5 : ((Rows.loadNamesRow.stops == [])) = true := by kernel_rfl
set_option maxRecDepth 1000000 in
theorem j6 : ((Tryz.pinned.checked.prog.stops == [])) = true := by kernel_rfl
set_option maxRecDepth 1000000 in
theorem j7 : ((Rows.loadNamesRow.knobs == [])) = true := by kernel_rfl
set_option maxRecDepth 1000000 in
theorem j8 : ((Tryz.pinned.checked.prog.stopKnobs == [])) = true := by kernel_rfl
set_option maxRecDepth 1000000 in
theorem j9 : ((Rows.loadNamesRow.inPlace == Tryz.pinned.checked.prog.inPlace 7)) = true := by kernel_rfl
set_option maxRecDepth 1000000 in
theorem j10 : ((Rows.loadNamesRow.unfollowed == Tryz.pinned.checked.prog.unfollowed 7)) = true := by kernel_rfl
set_option maxRecDepth 1000000 in
theorem j11 : ((Rows.loadNamesRow.recurses == Tryz.pinned.checked.prog.recurses 7)) = true := by kernel_rfl
set_option maxRecDepth 1000000 in
theorem j12 : ((Rows.loadNamesRow.named == Tryz.pinned.checked.prog.varsNamed 7)) = true := by kernel_rfl
set_option maxRecDepth 1000000 in
theorem j13 : ((Rows.loadNamesRow.maps == (Tryz.f7.params.toList ++ (OpenSpec.ofChange Rows.loadNamesSpec).bare.plain.varTypes Tryz.pinned.checked.prog).any (Tryz.pinned.checked.prog.mapsRec ·))) = true := by kernel_rfl
set_option maxRecDepth 1000000 in
theorem j14 : ((Rows.loadNamesRow.ifaces == (Tryz.f7.params.toList ++ (OpenSpec.ofChange Rows.loadNamesSpec).bare.plain.varTypes Tryz.pinned.checked.prog).any (Tryz.pinned.checked.prog.ifacesRec ·))) = true := by kernel_rfl
set_option maxRecDepth 1000000 in
theorem j15 : ((Rows.loadNamesRow.mapsOut == Tryz.pinned.checked.prog.mapsAmong Tryz.f7.resultTypes.toList)) = true := by kernel_rfl
set_option maxRecDepth 1000000 in
theorem j16 : ((Rows.loadNamesRow.loops == (Tryz.f7.params.toList ++ (OpenSpec.ofChange Rows.loadNamesSpec).bare.plain.varTypes Tryz.pinned.checked.prog).any (Tryz.pinned.checked.prog.loopsFrom ·))) = true := by kernel_rfl
set_option maxRecDepth 1000000 in
theorem j17 : ((Rows.loadNamesRow.wideKeys == (Tryz.f7.params.toList ++ (OpenSpec.ofChange Rows.loadNamesSpec).bare.plain.varTypes Tryz.pinned.checked.prog ++ Tryz.f7.resultTypes.toList).any (Tryz.pinned.checked.prog.wideKeysFrom ·))) = true := by kernel_rfl
set_option maxRecDepth 1000000 in
theorem j18 : ((OpenSpec.ofChange Rows.loadNamesSpec).bare.vars.all (Tryz.pinned.checked.prog.varReadable ·)) = true := by kernel_rfl
set_option maxRecDepth 1000000 in
theorem j19 : (Tryz.f7.resultTypes.all (fun t => Tryz.pinned.checked.prog.readableRec t && decide (t < Tryz.pinned.checked.prog.types.size))) = true := by kernel_rfl
set_option maxRecDepth 1000000 in
theorem j20 : ((Rows.loadNamesRow.ifacesOut == Tryz.f7.resultTypes.toList.any (Tryz.pinned.checked.prog.ifacesRec ·))) = true := by kernel_rfl
set_option maxRecDepth 1000000 in
theorem j21 : ((Rows.loadNamesRow.loopsOut == Tryz.f7.resultTypes.toList.any (Tryz.pinned.checked.prog.loopsFrom ·))) = true := by kernel_rfl
set_option maxRecDepth 1000000 in
theorem j22 : ((Rows.loadNamesRow.plainKeys == Tryz.pinned.checked.prog.plainKeys)) = true := by kernel_rfl
set_option maxRecDepth 1000000 in
theorem j23 : (Rows.loadNamesRow.shortTexts.isNone) = true := by kernel_rfl
set_option maxRecDepth 1000000 in
theorem j24 : (Tryz.pinned.checked.prog.stopsHeard) = true := by kernel_rfl
set_option maxRecDepth 1000000 in
theorem j25 : (Tryz.pinned.checked.prog.mayEnter) = true := by kernel_rfl
set_option maxRecDepth 1000000 in
theorem j26 : ((Rows.loadNamesRow.lifted == Tryz.pinned.checked.prog.liftsFinal)) = true := by kernel_rfl
set_option maxRecDepth 1000000 in
theorem j27 : ((Tryz.pinned.checked.prog.make == some Rows.loadNamesRow.make)) = true := by kernel_rfl
set_option maxRecDepth 1000000 in
theorem j28 : ((Rows.loadNamesRow.kinds == (if Rows.loadNamesRow.domain.isEmpty then [] else Tryz.f7.params.toList.map fun t => match Tryz.pinned.checked.prog.underlying t with | some (.int k) => some k | _ => none))) = true := by kernel_rfl
set_option maxRecDepth 1000000 in
theorem j29 : ((Rows.loadNamesRow.pinned == Rows.loadNamesRow.pinnedBy)) = true := by kernel_rfl
set_option maxRecDepth 1000000 in
theorem j30 : ((Rows.loadNamesRow.veiled == (Tryz.f7.params.toList ++ (OpenSpec.ofChange Rows.loadNamesSpec).bare.plain.varTypes Tryz.pinned.checked.prog ++ Tryz.f7.resultTypes.toList).any (Tryz.pinned.checked.prog.veiledRec ·))) = true := by kernel_rfl
set_option maxRecDepth 1000000 in
theorem j31 : (Rows.loadNamesRow.veiledFits Tryz.pinned.checked.prog Tryz.f7.params.toList (Tryz.f7.params.toList ++ (OpenSpec.ofChange Rows.loadNamesSpec).bare.plain.varTypes Tryz.pinned.checked.prog ++ Tryz.f7.resultTypes.toList)) = true := by kernel_rfl
set_option maxRecDepth 100000 in
theorem f_joined : joinedFacts Tryz.pinned.checked.prog 7 Tryz.f7 (OpenSpec.ofChange Rows.loadNamesSpec).bare Rows.loadNamesRow = true := by
  unfold joinedFacts
  exact (Bool.and_eq_true_iff.2 ⟨(Bool.and_eq_true_iff.2 ⟨(Bool.and_eq_true_iff.2 ⟨(Bool.and_eq_true_iff.2 ⟨(Bool.and_eq_true_iff.2 ⟨(Bool.and_eq_true_iff.2 ⟨(Bool.and_eq_true_iff.2 ⟨(Bool.and_eq_true_iff.2 ⟨(Bool.and_eq_true_iff.2 ⟨(Bool.and_eq_true_iff.2 ⟨(Bool.and_eq_true_iff.2 ⟨(Bool.and_eq_true_iff.2 ⟨(Bool.and_eq_true_iff.2 ⟨(Bool.and_eq_true_iff.2 ⟨(Bool.and_eq_true_iff.2 ⟨(Bool.and_eq_true_iff.2 ⟨(Bool.and_eq_true_iff.2 ⟨(Bool.and_eq_true_iff.2 ⟨(Bool.and_eq_true_iff.2 ⟨(Bool.and_eq_true_iff.2 ⟨(Bool.and_eq_true_iff.2 ⟨(Bool.and_eq_true_iff.2 ⟨(Bool.and_eq_true_iff.2 ⟨(Bool.and_eq_true_iff.2 ⟨(Bool.and_eq_true_iff.2 ⟨(Bool.and_eq_true_iff.2 ⟨(Bool.and_eq_true_iff.2 ⟨(Bool.and_eq_true_iff.2 ⟨(Bool.and_eq_true_iff.2 ⟨(Bool.and_eq_true_iff.2 ⟨(Bool.and_eq_true_iff.2 ⟨j0, j1⟩), j2⟩), j3⟩), j4⟩), j5⟩), j6⟩), j7⟩), j8⟩), j9⟩), j10⟩), j11⟩), j12⟩), j13⟩), j14⟩), j15⟩), j16⟩), j17⟩), j18⟩), j19⟩), j20⟩), j21⟩), j22⟩), j23⟩), j24⟩), j25⟩), j26⟩), j27⟩), j28⟩), j29⟩), j30⟩), j31⟩)
theorem said : Rows.LoadNamesSaid :=
  OpenClaim.holds_of_cond 7 Tryz.f7 rfl rfl rfl rfl rfl rfl rfl ⟨rfl, rfl, rfl, rfl, rfl⟩ rfl rfl rfl rfl rfl f_named Tryz.func7 f_joined
    (of_decide_eq_true (by kernel_rfl)) (by unfold Func.isWrapper; first | (rw [if_pos (by decide +kernel)]; kernel_rfl) | (rw [if_neg (by decide +kernel)]; exact ⟨rfl, rfl⟩))
    (fun os started H enc _ F => by rw [OpenClaim.pre_eq_preRow]; exact lifted os started H enc F)

theorem plain (f : FuncId) (fn : Func) (hf : Tryz.pinned.checked.prog.funcNamed "dovetail/dovetaillaw24.LoadNames" = some f) (hfn : Tryz.pinned.checked.prog.funcs[f]? = some fn) :
    true = Tryz.pinned.checked.prog.looks [] ∧ ∀ (j : Nat) t, fn.params[j]? = some t → Tryz.pinned.checked.prog.wantsStandIn t = false := by
  obtain rfl : f = 7 := Option.some.inj ((show Tryz.prog.funcNamed "dovetail/dovetaillaw24.LoadNames" = some 7 by kernel_rfl).symm.trans hf) |>.symm
  obtain rfl : fn = Tryz.f7 := (Option.some.inj (Tryz.func7.symm.trans hfn)).symm
  refine ⟨by kernel_rfl, fun j t ht => ?_⟩
  rw [Tryz.params7] at ht
  simp at ht

set_option maxRecDepth 1000000 in
theorem f_text : Rows.loadNamesRow.wfByText (OpenSpec.ofChange Rows.loadNamesSpec) = true := by kernel_rfl
set_option maxRecDepth 1000000 in
theorem f_main : Tryz.pinned.checked.prog.mainIs = some (true, "538838a92006f47a3b62ddab7f3976eab141d01215dc5e8f2a89ed11cb84f95a".toList) := by kernel_rfl
set_option maxRecDepth 1000000 in
theorem f_goes : false = Rows.loadNamesRow.goesBy Tryz.pinned.checked.prog := by kernel_rfl
/-- the card -/
theorem card : Rows.LoadNamesCardSaid :=
  Claim7.holds_tied_plain_at .later [] _ _ _ _ said (fun _ h => by cases h) f_text (fun _ h => by cases h) loadNames_row_tie rfl ⟨rfl, rfl⟩ f_main rfl plain f_goes
end Go.Proofs.YtiommdibonjgjaaGreatDoor.loadNames
