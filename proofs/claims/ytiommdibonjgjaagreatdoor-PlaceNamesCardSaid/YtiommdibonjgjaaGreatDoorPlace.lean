/- dovetaillaw21.PlaceNames returns true at every call (its tied card). Condition: none beyond the row's own. -/
import Derived.Test.YtiommdibonjgjaaGreatDoorCards
import Derived.Test.YtiommdibonjgjaaGreatDoorTie
import Derived.WalkKit
import Derived.ProofKit
import Derived.OpenShut
import Derived.Deep.DeepHandedRow
import Derived.Deep.DeepWitnessRowRef
import Derived.Lib.LaidIn
import Derived.Test.YtiommdibonjgjaaGreatDoorDmD
import Derived.Test.YtiommdibonjgjaaGreatDoorSortT
import Derived.Test.YtiommdibonjgjaaGreatDoorIterT
import Derived.Test.YtiommdibonjgjaaGreatDoorDescU
namespace Go.Proofs.YtiommdibonjgjaaGreatDoor.placeNames
open Go.ChangeShapes Go.WideShapes Go.ChangeAt Go.RowKit

/-- a function by hand: what the machine's own call gives -/
noncomputable def primC (C : DM.Cfg) (n : Nat) (f : FuncId) (args : List DM.A) (σ : DM.St) : Option (DM.A × DM.St) := match DM.call C n f args σ with
  | some (.ret x, σ') => some (x, σ')
  | _ => none
theorem primC_ok {C : DM.Cfg} {W : World} (hm : C.P.follows .mixedOrders = true) (hp : DM.PrimOk C W) (n : Nat) (f : FuncId) : DM.PrimOk { C with prim := fun g => if g = f then some (primC C n f) else C.prim g } W := by
  intro g h args σ σ' x k us hg hx hI hgl hr
  have hg' : (if g = f then some (primC C n f) else C.prim g) = some h := hg
  split at hg'
  · rename_i e
    subst e
    cases hg'
    unfold primC at hx
    split at hx
    · rename_i x0 s0 hc
      cases hx
      exact DM.call_good (DM.drOk hm) hp n g args σ (.ret x) σ' k us hc hI hgl hr
    · cases hx
  · exact hp g h args σ σ' x k us hg' hx hI hgl hr

/-- the keys of a map, sorted, by hand too -/
noncomputable def cfg4 : DM.Cfg := { DM.FM.cfg3 with prim := fun f => if f = 166 then some (DM.sortedG 241) else DM.FM.cfg3.prim f }
theorem prims4 {W : World} (hG : Good W) : DM.PrimOk cfg4 W := by
  intro f g args σ σ' x k us hf hg hI hgl hr
  have hf' : (if f = 166 then some (DM.sortedG 241) else DM.FM.cfg3.prim f) = some g := hf
  split at hf'
  · rename_i e
    subst e
    cases hf'
    exact DM.sorted_prim (P := Tryz.prog) (g := 241) (c := 166) (K0 := 9) Tryz.underlying9
      (fun Bm b nn D w hBm hm hown => Go.Proofs.AnyZ.keys_gives (ρ := Tryz.keys167_ren) { Tryz.keys167 with } Fence.wide 2 trivial rfl (by omega) Bm b nn D w hBm hm hown)
      (fun lb S N w hN hNb hseq => Go.Proofs.AnyZ.sorted_in Tryz.sorted166 Fence.wide 5 trivial trivial trivial trivial rfl (by omega) (Tryz.sorts166 _) (enters_of Tryz.func240 (by kernel_rfl) rfl) 241 lb trivial (enters_of Tryz.func241 (by kernel_rfl) rfl) S N hN hNb w hseq)
      hg hI hr
  · exact DM.FM.prims3 W hG f g args σ σ' x k us hf' hg hI hgl hr
/-- place.placed (more variables than the fast machine's frame has) by the machine itself -/
noncomputable def cfg5 : DM.Cfg := { cfg4 with prim := fun f => if f = 113 then some (primC cfg4 50 113) else cfg4.prim f }
theorem prims5 {W : World} (hG : Good W) : DM.PrimOk cfg5 W := primC_ok (C := cfg4) DM.FM.orders_cfg3 (prims4 hG) 50 113
noncomputable def orcList : List (Nat × Nat × Nat) := [(164, 1048575, 0), (165, 5070602400912917605986812821503, 0), (168, 549755813887, 0), (173, 4095, 0), (174, 65535, 0), (235, 2047, 0), (236, 2047, 0), (241, 16383, 0), (247, 511, 0), (248, 32767, 0), (293, 127, 0), (294, 255, 0), (320, 63, 0), (321, 3, 0), (335, 3, 0), (346, 255, 0), (362, 11150372599265311570767859136324180752990207, 0), (373, 2417851639229258349412351, 0), (380, 549755813887, 0)] ++ DM.FM.orcList
set_option maxRecDepth 1000000 in
theorem orcs : DM.FM.OrcOk cfg5 (DM.FM.orcL orcList) := DM.FM.orc_ok (by kernel_rfl)
set_option maxRecDepth 1000000 in
theorem runs : DM.isTrue (DM.FM.fcall cfg5 (DM.FM.orcL orcList) 1000 8 [] DM.σ0) = true := by kernel_rfl
theorem calls {W : World} (h : laidMetH Tryz.prog Rows.placeNamesRow.laid W) {m : Int} (hm : W.cell? ⟨4, 0, none⟩ = some (.int .i64 m)) (h0 : 4 < W.heap.size) : Calls Tryz.prog 8 #[] W fun e W' => e = .returned (.bool true) ∧ Below W.heap.size W W' := by
  have hl : laidMet Tryz.prog laidL W := h
  have h := DM.calls_true2 (C := cfg5) (w := W) DM.FM.orders_cfg3 (prims5 (good_of hl hm h0)) (fun _ _ h => by cases h) (DM.RelL.nil _) (DM.FM.isTrue_le (DM.FM.fcall_ok orcs 1000) runs)
  exact h

set_option maxRecDepth 100000 in
theorem contract (H : Type) (enc : TypeId × Value → H) (W : World) (_base : Nat) (args : Array Value) (ds gs : List (DataW H)) (before : List MemPlace)
    (hW : DataW.Whole enc Tryz.prog Tryz.f8.params.toList Rows.placeNamesSpec.vars false W args.toList ds gs before) (hL : laidMetH Tryz.prog Rows.placeNamesRow.laid W) (hsh : W.ShapedOpen Tryz.prog) :
    Calls Tryz.prog 8 args W fun e W' => ∃ v, e = .returned v ∧ Rows.placeNamesSpec.post enc Tryz.prog Tryz.f8 false true false false W args v W' := by
  have hW' := hW
  obtain ⟨p, q, hA0, hV, rfl, hfz, hnd⟩ := hW
  have hA : DataW.TrodAll enc Tryz.prog W 0 (fun _ => true) true Tryz.f8.params.toList args.toList ds p := hA0
  rw [Tryz.params8] at hA
  obtain ⟨h1, rfl, rfl⟩ := trodAll_nil hA
  obtain rfl : args = #[] := by cases args; simp_all
  obtain ⟨rfl, rfl⟩ := trodVars_none hV
  obtain ⟨m, hm⟩ : ∃ m, W.cell? ⟨4, 0, none⟩ = some (.int .i64 m) := Tryz.laysM145.s1_3 W hsh
  clear hA0
  simp only [List.append_nil] at hW'
  refine (calls hL hm (World.block_lt_of_cell? _ _ hm)).mono fun e W' ⟨he, hb⟩ => ?_
  subst he
  exact ⟨_, rfl, DM.post_of_below (pa := []) (pv := []) hW' (fun _ _ _ => trodAll_cons_mk (shut_bool Tryz.underlying4 _) trodAll_mk0) (fun _ _ => trodAll_mk0) (fun _ _ => rfl) rfl
    hb (ok_one (by kernel_rfl) rfl (okWide_bool_mk Tryz.underlying4 _))⟩

/-- a world for the witness -/
noncomputable def world0 (os : Os) : World := DM.layWorld Tryz.prog 474 476 (World.holding Tryz.prog os ⟨#[], #[], []⟩) [("math/bits.deBruijn32tab", Rows.laid_math_bits_deBruijn32tab), ("math/bits.deBruijn64tab", Rows.laid_math_bits_deBruijn64tab), ("internal/strconv.uint64pow10", Rows.laid_internal_strconv_uint64pow10), ("unicode/utf8.acceptRanges", Rows.laid_unicode_utf8_acceptRanges), ("strconv.ErrRange", Rows.laid_strconv_ErrRange), ("strconv.ErrSyntax", Rows.laid_strconv_ErrSyntax), ("strings.asciiSpace", Rows.laid_strings_asciiSpace), ("unicode/utf8.first", Rows.laid_unicode_utf8_first)]
noncomputable def size0 : Nat := (World.holding Tryz.prog default ⟨#[], #[], []⟩).heap.size
noncomputable def pushWs (w : World) : World := { w with heap := ((w.heap.modify 3 (DM.withCells #[.pointer (some ⟨size0 + 2, 0, none⟩)])).push (.cells #[.slice (some ⟨size0 + 3, 0, none⟩) 7 7, .slice none 0 0, .int .i64 2] 450 (0, 0))).push (.cells #[.int .u16 9, .int .u16 13, .int .u16 1, .int .u16 32, .int .u16 133, .int .u16 101, .int .u16 160, .int .u16 5760, .int .u16 5600, .int .u16 8192, .int .u16 8202, .int .u16 1, .int .u16 8232, .int .u16 8233, .int .u16 1, .int .u16 8239, .int .u16 8287, .int .u16 48, .int .u16 12288, .int .u16 12288, .int .u16 1] 453 (0, 0)) }
theorem pushWs_os (w : World) : (pushWs w).os = w.os := rfl
noncomputable def laidWorld (os : Os) : World := pushWs (world0 os)
theorem world0_os (os : Os) : (world0 os).os = os := DM.layWorld_os _ _ _ _ _
theorem laidWorld_os (os : Os) : (laidWorld os).os = os := (pushWs_os (world0 os)).trans (world0_os os)
def laidA : List (String × DataW Unit) := [("math/bits.deBruijn32tab", Rows.laid_math_bits_deBruijn32tab), ("math/bits.deBruijn64tab", Rows.laid_math_bits_deBruijn64tab), ("internal/strconv.uint64pow10", Rows.laid_internal_strconv_uint64pow10), ("unicode/utf8.acceptRanges", Rows.laid_unicode_utf8_acceptRanges), ("strconv.ErrRange", Rows.laid_strconv_ErrRange), ("strconv.ErrSyntax", Rows.laid_strconv_ErrSyntax), ("unicode.White_Space", Rows.laid_unicode_White_Space)]
def laidB : List (String × DataW Unit) := [("strings.asciiSpace", Rows.laid_strings_asciiSpace)]
def laidC : List (String × DataW Unit) := [("unicode/utf8.first", Rows.laid_unicode_utf8_first)]
theorem laid_eq : Rows.placeNamesRow.laid = laidA ++ laidB ++ laidC := rfl
theorem laid_met (os : Os) : laidMet Tryz.prog Rows.placeNamesRow.laid ((laidWorld os).forCall (fun _ _ => 0) ⟨#[], #[], []⟩).memory := by
  rw [laid_eq]
  exact LaidIn.met (((LaidIn.of_run [8, 9, 7, 2, 6, 5, 3, size0, size0 + 1, size0 + 2, size0 + 3] 8 (by kernel_rfl) (by kernel_rfl) (by kernel_rfl) (by kernel_rfl) : LaidIn Tryz.prog ((laidWorld os).forCall (fun _ _ => 0) ⟨#[], #[], []⟩).memory laidA _).append
    (LaidIn.of_run [0] 8 (by kernel_rfl) (by kernel_rfl) (by kernel_rfl) (by kernel_rfl) : LaidIn Tryz.prog _ laidB _) (by kernel_rfl)).append
    (LaidIn.of_run [1] 8 (by kernel_rfl) (by kernel_rfl) (by kernel_rfl) (by kernel_rfl) : LaidIn Tryz.prog _ laidC _) (by kernel_rfl))
theorem reads (os : Os) {H : Type} (enc : TypeId × Value → H) : ∃ places, DataW.whole enc Tryz.prog ((laidWorld os).forCall (fun _ _ => 0) ⟨#[], #[], []⟩).memory Tryz.f8.params.toList Rows.placeNamesSpec.vars false (#[] : Array Value).toList 8 = some ([], [], places) :=
  ⟨[], by kernel_rfl⟩

set_option maxRecDepth 1000000 in
theorem f_init : Tryz.checked.prog.inits.idxOf? 8 = none := by kernel_rfl
set_option maxRecDepth 1000000 in
theorem f_vars (os : Os) : ((laidWorld os).forCall (fun _ _ => 0) ⟨#[], #[], []⟩).variablesRefB Tryz.checked.prog = true := by kernel_rfl
set_option maxRecDepth 1000000 in
theorem f_heap (os : Os) : (((laidWorld os).forCall (fun _ _ => 0) ⟨#[], #[], []⟩).heap.toList.drop Tryz.checked.prog.globals.size).take ((begin Tryz.checked.prog (fun _ _ => 0) default).world.heap.size - Tryz.checked.prog.globals.size) =
    (begin Tryz.checked.prog (fun _ _ => 0) default).world.heap.toList.drop Tryz.checked.prog.globals.size := by kernel_rfl
set_option maxRecDepth 1000000 in
theorem f_ok (os : Os) : Input.okWideB Tryz.checked.prog ((laidWorld os).forCall (fun _ _ => 0) ⟨#[], #[], []⟩) 8 ⟨#[], #[], []⟩ = true := by kernel_rfl
set_option maxRecDepth 1000000 in
theorem f_size (os : Os) {H : Type} (enc : TypeId × Value → H) : (OpenSpec.ofChange Rows.placeNamesSpec).bare.sizedB enc Tryz.prog Tryz.f8 false ((laidWorld os).forCall (fun _ _ => 0) ⟨#[], #[], []⟩).memory #[] 8 = true := by kernel_rfl
set_option maxRecDepth 100000 in
theorem lifted (os : Os) (started : os.Started) (H : Type) (enc : TypeId × Value → H) (F : Stop.Interp) :
    ReturnsInHanded {} Tryz.checked os 8 .any ((OpenSpec.ofChange Rows.placeNamesSpec).preRow enc Tryz.prog Tryz.f8 Rows.placeNamesRow.domain false Rows.placeNamesRow.laid) (((OpenSpec.ofChange Rows.placeNamesSpec).at F).post enc Tryz.prog Tryz.f8 false true false false) := by
  obtain ⟨places, hx⟩ := reads os enc
  refine returnsInHanded_of_row (C := Tryz.checked) (s := OpenSpec.ofChange Rows.placeNamesSpec) own started f_init Tryz.func8
    (witness_row_atRef (enc := enc) (C := Tryz.checked) false (laidWorld os) #[] (laidWorld_os os) (f_vars os) (f_heap os) (f_ok os)
      (OpenSpec.preRow_of_cond 8 hx (by kernel_rfl) (fun k hk => by cases hk) (f_size os enc) (laid_met os))) ?_
  intro W base args ds gs before _ hW _ _ _ hL hsh _
  exact contract H enc W base args ds gs before hW hL hsh

set_option maxRecDepth 1000000 in
theorem f_named : Tryz.pinned.checked.prog.funcNamed Rows.placeNamesRow.func = some 8 := by kernel_rfl
set_option maxRecDepth 1000000 in
theorem j0 : (Rows.placeNamesRow.wf (OpenSpec.ofChange (OpenSpec.ofChange Rows.placeNamesSpec).bare)) = true := by kernel_rfl
set_option maxRecDepth 1000000 in
theorem j1 : (laidOutB Tryz.pinned.checked.prog) = true := by kernel_rfl
set_option maxRecDepth 1000000 in
theorem j2 : (mapsRowed Tryz.pinned.checked.prog) = true := by kernel_rfl
set_option maxRecDepth 1000000 in
theorem j3 : (Tryz.f8.params.all (Tryz.pinned.checked.prog.readableRec ·)) = true := by kernel_rfl
set_option maxRecDepth 1000000 in
theorem j4 : (namedTie Tryz.pinned.checked.prog Rows.placeNamesRow.named (OpenSpec.ofChange Rows.placeNamesSpec).bare.vars) = true := by kernel_rfl
set_option maxRecDepth 1000000 in
theorem j5 : ((Rows.placeNamesRow.stops == [])) = true := by kernel_rfl
set_option maxRecDepth 1000000 in
theorem j6 : ((Tryz.pinned.checked.prog.stops == [])) = true := by kernel_rfl
set_option maxRecDepth 1000000 in
theorem j7 : ((Rows.placeNamesRow.knobs == [])) = true := by kernel_rfl
set_option maxRecDepth 1000000 in
theorem j8 : ((Tryz.pinned.checked.prog.stopKnobs == [])) = true := by kernel_rfl
set_option maxRecDepth 1000000 in
theorem j9 : ((Rows.placeNamesRow.inPlace == Tryz.pinned.checked.prog.inPlace 8)) = true := by kernel_rfl
set_option maxRecDepth 1000000 in
theorem j10 : ((Rows.placeNamesRow.unfollowed == Tryz.pinned.checked.prog.unfollowed 8)) = true := by kernel_rfl
set_option maxRecDepth 1000000 in
theorem j11 : ((Rows.placeNamesRow.recurses == Tryz.pinned.checked.prog.recurses 8)) = true := by kernel_rfl
set_option maxRecDepth 1000000 in
theorem j12 : ((Rows.placeNamesRow.named == Tryz.pinned.checked.prog.varsNamed 8)) = true := by kernel_rfl
set_option maxRecDepth 1000000 in
theorem j13 : ((Rows.placeNamesRow.maps == (Tryz.f8.params.toList ++ (OpenSpec.ofChange Rows.placeNamesSpec).bare.plain.varTypes Tryz.pinned.checked.prog).any (Tryz.pinned.checked.prog.mapsRec ·))) = true := by kernel_rfl
set_option maxRecDepth 1000000 in
theorem j14 : ((Rows.placeNamesRow.ifaces == (Tryz.f8.params.toList ++ (OpenSpec.ofChange Rows.placeNamesSpec).bare.plain.varTypes Tryz.pinned.checked.prog).any (Tryz.pinned.checked.prog.ifacesRec ·))) = true := by kernel_rfl
set_option maxRecDepth 1000000 in
theorem j15 : ((Rows.placeNamesRow.mapsOut == Tryz.pinned.checked.prog.mapsAmong Tryz.f8.resultTypes.toList)) = true := by kernel_rfl
set_option maxRecDepth 1000000 in
theorem j16 : ((Rows.placeNamesRow.loops == (Tryz.f8.params.toList ++ (OpenSpec.ofChange Rows.placeNamesSpec).bare.plain.varTypes Tryz.pinned.checked.prog).any (Tryz.pinned.checked.prog.loopsFrom ·))) = true := by kernel_rfl
set_option maxRecDepth 1000000 in
theorem j17 : ((Rows.placeNamesRow.wideKeys == (Tryz.f8.params.toList ++ (OpenSpec.ofChange Rows.placeNamesSpec).bare.plain.varTypes Tryz.pinned.checked.prog ++ Tryz.f8.resultTypes.toList).any (Tryz.pinned.checked.prog.wideKeysFrom ·))) = true := by kernel_rfl
set_option maxRecDepth 1000000 in
theorem j18 : ((OpenSpec.ofChange Rows.placeNamesSpec).bare.vars.all (Tryz.pinned.checked.prog.varReadable ·)) = true := by kernel_rfl
set_option maxRecDepth 1000000 in
theorem j19 : (Tryz.f8.resultTypes.all (fun t => Tryz.pinned.checked.prog.readableRec t && decide (t < Tryz.pinned.checked.prog.types.size))) = true := by kernel_rfl
set_option maxRecDepth 1000000 in
theorem j20 : ((Rows.placeNamesRow.ifacesOut == Tryz.f8.resultTypes.toList.any (Tryz.pinned.checked.prog.ifacesRec ·))) = true := by kernel_rfl
set_option maxRecDepth 1000000 in
theorem j21 : ((Rows.placeNamesRow.loopsOut == Tryz.f8.resultTypes.toList.any (Tryz.pinned.checked.prog.loopsFrom ·))) = true := by kernel_rfl
set_option maxRecDepth 1000000 in
theorem j22 : ((Rows.placeNamesRow.plainKeys == Tryz.pinned.checked.prog.plainKeys)) = true := by kernel_rfl
set_option maxRecDepth 1000000 in
theorem j23 : (Rows.placeNamesRow.shortTexts.isNone) = true := by kernel_rfl
set_option maxRecDepth 1000000 in
theorem j24 : (Tryz.pinned.checked.prog.stopsHeard) = true := by kernel_rfl
set_option maxRecDepth 1000000 in
theorem j25 : (Tryz.pinned.checked.prog.mayEnter) = true := by kernel_rfl
set_option maxRecDepth 1000000 in
theorem j26 : ((Rows.placeNamesRow.lifted == Tryz.pinned.checked.prog.liftsFinal)) = true := by kernel_rfl
set_option maxRecDepth 1000000 in
theorem j27 : ((Tryz.pinned.checked.prog.make == some Rows.placeNamesRow.make)) = true := by kernel_rfl
set_option maxRecDepth 1000000 in
theorem j28 : ((Rows.placeNamesRow.kinds == (if Rows.placeNamesRow.domain.isEmpty then [] else Tryz.f8.params.toList.map fun t => match Tryz.pinned.checked.prog.underlying t with | some (.int k) => some k | _ => none))) = true := by kernel_rfl
set_option maxRecDepth 1000000 in
theorem j29 : ((Rows.placeNamesRow.pinned == Rows.placeNamesRow.pinnedBy)) = true := by kernel_rfl
set_option maxRecDepth 1000000 in
theorem j30 : ((Rows.placeNamesRow.veiled == (Tryz.f8.params.toList ++ (OpenSpec.ofChange Rows.placeNamesSpec).bare.plain.varTypes Tryz.pinned.checked.prog ++ Tryz.f8.resultTypes.toList).any (Tryz.pinned.checked.prog.veiledRec ·))) = true := by kernel_rfl
set_option maxRecDepth 1000000 in
theorem j31 : (Rows.placeNamesRow.veiledFits Tryz.pinned.checked.prog Tryz.f8.params.toList (Tryz.f8.params.toList ++ (OpenSpec.ofChange Rows.placeNamesSpec).bare.plain.varTypes Tryz.pinned.checked.prog ++ Tryz.f8.resultTypes.toList)) = true := by kernel_rfl
set_option maxRecDepth 100000 in
theorem f_joined : joinedFacts Tryz.pinned.checked.prog 8 Tryz.f8 (OpenSpec.ofChange Rows.placeNamesSpec).bare Rows.placeNamesRow = true := by
  unfold joinedFacts
  exact (Bool.and_eq_true_iff.2 ⟨(Bool.and_eq_true_iff.2 ⟨(Bool.and_eq_true_iff.2 ⟨(Bool.and_eq_true_iff.2 ⟨(Bool.and_eq_true_iff.2 ⟨(Bool.and_eq_true_iff.2 ⟨(Bool.and_eq_true_iff.2 ⟨(Bool.and_eq_true_iff.2 ⟨(Bool.and_eq_true_iff.2 ⟨(Bool.and_eq_true_iff.2 ⟨(Bool.and_eq_true_iff.2 ⟨(Bool.and_eq_true_iff.2 ⟨(Bool.and_eq_true_iff.2 ⟨(Bool.and_eq_true_iff.2 ⟨(Bool.and_eq_true_iff.2 ⟨(Bool.and_eq_true_iff.2 ⟨(Bool.and_eq_true_iff.2 ⟨(Bool.and_eq_true_iff.2 ⟨(Bool.and_eq_true_iff.2 ⟨(Bool.and_eq_true_iff.2 ⟨(Bool.and_eq_true_iff.2 ⟨(Bool.and_eq_true_iff.2 ⟨(Bool.and_eq_true_iff.2 ⟨(Bool.and_eq_true_iff.2 ⟨(Bool.and_eq_true_iff.2 ⟨(Bool.and_eq_true_iff.2 ⟨(Bool.and_eq_true_iff.2 ⟨(Bool.and_eq_true_iff.2 ⟨(Bool.and_eq_true_iff.2 ⟨(Bool.and_eq_true_iff.2 ⟨(Bool.and_eq_true_iff.2 ⟨j0, j1⟩), j2⟩), j3⟩), j4⟩), j5⟩), j6⟩), j7⟩), j8⟩), j9⟩), j10⟩), j11⟩), j12⟩), j13⟩), j14⟩), j15⟩), j16⟩), j17⟩), j18⟩), j19⟩), j20⟩), j21⟩), j22⟩), j23⟩), j24⟩), j25⟩), j26⟩), j27⟩), j28⟩), j29⟩), j30⟩), j31⟩)
theorem said : Rows.PlaceNamesSaid :=
  OpenClaim.holds_of_cond 8 Tryz.f8 rfl rfl rfl rfl rfl rfl rfl ⟨rfl, rfl, rfl, rfl, rfl⟩ rfl rfl rfl rfl rfl f_named Tryz.func8 f_joined
    (of_decide_eq_true (by kernel_rfl)) (by unfold Func.isWrapper; first | (rw [if_pos (by decide +kernel)]; kernel_rfl) | (rw [if_neg (by decide +kernel)]; exact ⟨rfl, rfl⟩))
    (fun os started H enc _ F => by rw [OpenClaim.pre_eq_preRow]; exact lifted os started H enc F)

theorem plain (f : FuncId) (fn : Func) (hf : Tryz.pinned.checked.prog.funcNamed "dovetail/dovetaillaw21.PlaceNames" = some f) (hfn : Tryz.pinned.checked.prog.funcs[f]? = some fn) :
    true = Tryz.pinned.checked.prog.looks [] ∧ ∀ (j : Nat) t, fn.params[j]? = some t → Tryz.pinned.checked.prog.wantsStandIn t = false := by
  obtain rfl : f = 8 := Option.some.inj ((show Tryz.prog.funcNamed "dovetail/dovetaillaw21.PlaceNames" = some 8 by kernel_rfl).symm.trans hf) |>.symm
  obtain rfl : fn = Tryz.f8 := (Option.some.inj (Tryz.func8.symm.trans hfn)).symm
  refine ⟨by kernel_rfl, fun j t ht => ?_⟩
  rw [Tryz.params8] at ht
  simp at ht

set_option maxRecDepth 1000000 in
theorem f_text : Rows.placeNamesRow.wfByText (OpenSpec.ofChange Rows.placeNamesSpec) = true := by kernel_rfl
set_option maxRecDepth 1000000 in
theorem f_main : Tryz.pinned.checked.prog.mainIs = some (true, "538838a92006f47a3b62ddab7f3976eab141d01215dc5e8f2a89ed11cb84f95a".toList) := by kernel_rfl
set_option maxRecDepth 1000000 in
theorem f_goes : false = Rows.placeNamesRow.goesBy Tryz.pinned.checked.prog := by kernel_rfl
/-- the card -/
theorem card : Rows.PlaceNamesCardSaid :=
  Claim7.holds_tied_plain_at .later [] _ _ _ _ said (fun _ h => by cases h) f_text (fun _ h => by cases h) placeNames_row_tie rfl ⟨rfl, rfl⟩ f_main rfl plain f_goes
end Go.Proofs.YtiommdibonjgjaaGreatDoor.placeNames
