/- dovetaillaw10.TargetsFinds returns true at every description and name (its tied card). Condition: none beyond the row's own. -/
import Derived.Test.YtiommdibonjgjaaGreatDoorCards
import Derived.Test.YtiommdibonjgjaaGreatDoorTie
import Derived.WalkKit
import Derived.ProofKit
import Derived.OpenShut
import Derived.DataShut
import Derived.ChangeMaps5
import Derived.Deep.DeepHandedRow
import Derived.Deep.DeepWitnessRowRef
import Derived.Lib.LaidIn
import Derived.Test.YtiommdibonjgjaaGreatDoorWalkF
namespace Go.Proofs.YtiommdibonjgjaaGreatDoor.targetsFinds
open Go.ChangeShapes Go.WideShapes Go.ChangeAt Go.ChangeMaps Go.RowKit
theorem calls {W : World} {x : DM.TDesc} {s : ByteArray} {a : DM.A} {v0 : Value} (ha : ∃ qs, a = .agg qs ∧ DM.rTDesc.rep x qs) (r0 : DM.Rel (DM.start W) a v0) (h1 : x.f_Nums.length ≤ maxLen) (h2 : x.f_Regs.length ≤ maxLen) (hG : Good W) :
    Calls Tryz.prog 4 #[v0, .string s] W fun e W' => e = .returned (.bool true) ∧ Below W.heap.size W W' := by
  have hm : ((maxLen : Nat) : Int) < 9223372036854775808 := by decide
  have hc : DM.Ca DM.cfg 4 [a, .v (.string s)] DM.σ0 (fun x _ => x = .v (.bool true)) := by
    obtain ⟨qs, rfl, b0, b1, b2, b3, b4, b5, b6, b7, b8, b9, b10, rfl, g0, g1, g2, g3, g4, g5, g6, g7, g8, g9, g10⟩ := ha
    obtain ⟨y, σ', c1, c2⟩ := DM.gdovetaillaw10_TargetsFinds_ok g0 g1 g2 g3 g4 g5 g6 g7 g8 g9 g10 (DM.finds_law x s (by omega) (by omega))
    exact ⟨y, σ', c1, c2.1⟩
  have h := DM.calls_true' (C := DM.cfg) (w := W) DM.FM.orders_cfg2 (DM.FM.primsF W hG) (fun _ _ h => by cases h) (DM.RelL.cons r0 (DM.RelL.cons (.v rfl) (DM.RelL.nil _))) hc
  exact h

set_option maxRecDepth 100000 in
theorem contract (H : Type) (enc : TypeId × Value → H) (W : World) (base : Nat) (args : Array Value) (ds gs : List (DataW H)) (before : List MemPlace)
    (hval : ∀ (j : Nat) t v, Tryz.f4.params[j]? = some t → args[j]? = some v → Value.okWide Tryz.prog W .any base t v)
    (hW : DataW.Whole enc Tryz.prog Tryz.f4.params.toList Rows.targetsFindsSpec.vars false W args.toList ds gs before) (hL : laidMetH Tryz.prog Rows.targetsFindsRow.laid W) (hsh : W.ShapedOpen Tryz.prog) :
    Calls Tryz.prog 4 args W fun e W' => ∃ v, e = .returned v ∧ Rows.targetsFindsSpec.post enc Tryz.prog Tryz.f4 false true false false W args v W' := by
  have hW' := hW
  obtain ⟨p, q, hA0, hV, rfl, hfz, hnd⟩ := hW
  have hA : DataW.TrodAll enc Tryz.prog W 0 (fun _ => true) true Tryz.f4.params.toList args.toList ds p := hA0
  rw [Tryz.params4] at hA hval
  obtain ⟨v0, v1, d0, d1, p0, p1, rfl, rfl, rfl, hd0, hd1⟩ := trodAll_two hA
  obtain ⟨s, rfl, rfl, rfl, ws⟩ := open_string Tryz.underlying9 (hval 1 9 v1 rfl rfl) hd1
  obtain ⟨rfl, rfl⟩ := trodVars_none hV
  have hl : laidMet Tryz.prog laidL W := hL
  obtain ⟨m, hm⟩ : ∃ m, W.cell? ⟨4, 0, none⟩ = some (.int .i64 m) := Tryz.laysM145.s1_3 W hsh
  have hG := good_of hl hm (World.block_lt_of_cell? _ _ hm)
  obtain ⟨fuel, hf⟩ := hd0
  obtain ⟨x, qs, hx, hr, hD⟩ := (o37 enc).run hf
  have r0 : DM.Rel (DM.start W) (.agg qs) v0 := by
    cases v0 with
    | agg cs => exact DM.Rel.agg (us := cs.toList) hr.1 hr.2
    | _ =>
      exfalso
      have h1 := hr.1
      have h2 := DM.rTDesc.len x qs hx
      rw [h2] at h1
      simp [Value.cells, DM.rTDesc] at h1
  have hd0 : DataW.Trod enc Tryz.prog W 0 (fun _ => true) true 37 v0 d0 p0 := ⟨fuel, hf⟩
  clear hA0 hA
  simp only [List.append_nil] at hW'
  refine (calls ⟨qs, rfl, hx⟩ r0 hD.2.2.2.2.2.2.2.2.2.1 hD.2.2.2.2.2.2.2.2.2.2 hG).mono fun e W' ⟨he, hbl⟩ => ?_
  subst he
  exact ⟨_, rfl, DM.post_of_below (pa := p0) (pv := []) hW' (fun _ _ _ => trodAll_cons_mk (shut_bool Tryz.underlying4 _) trodAll_mk0)
    (fun sp hsp => by
      have h0 := DM.trod_stays (sp' := sp) (by kernel_rfl) (by kernel_rfl) (of_decide_eq_true (by kernel_rfl)) hd0 hbl (fun x hx => hW'.lt x (by simp [hx])) (fun x hx => hsp x (by simp [hx]))
      have h1 : DataW.TrodAll enc Tryz.prog W' 0 sp true [37, 9] [v0, .string s] [d0, .lit (.string s.data.toList)] p0 := by simpa using trodAll_mk2 h0 (shut_string (enc := enc) Tryz.underlying9 ws)
      exact h1) (fun _ _ => rfl) (by simp)
    hbl (ok_one (by kernel_rfl) rfl (okWide_bool_mk Tryz.underlying4 _))⟩

/-- a world for the witness -/
def desc0 : Value := .agg #[.string ⟨#[]⟩, .int .i64 0, .slice none 0 0, .slice none 0 0, .slice none 0 0, .slice none 0 0, .slice none 0 0, .slice none 0 0, .slice none 0 0, .slice none 0 0, .slice none 0 0, .slice none 0 0, .slice none 0 0]
def args0 : Array Value := #[desc0, .string ⟨#[]⟩]
noncomputable def world0 (os : Os) : World := DM.layWorld Tryz.prog 474 476 (World.holding Tryz.prog os ⟨#[], args0, []⟩) [("math/bits.deBruijn32tab", Rows.laid_math_bits_deBruijn32tab), ("math/bits.deBruijn64tab", Rows.laid_math_bits_deBruijn64tab), ("internal/strconv.uint64pow10", Rows.laid_internal_strconv_uint64pow10), ("unicode/utf8.acceptRanges", Rows.laid_unicode_utf8_acceptRanges), ("strconv.ErrRange", Rows.laid_strconv_ErrRange), ("strconv.ErrSyntax", Rows.laid_strconv_ErrSyntax), ("strings.asciiSpace", Rows.laid_strings_asciiSpace), ("unicode/utf8.first", Rows.laid_unicode_utf8_first)]
noncomputable def size0 : Nat := (World.holding Tryz.prog default ⟨#[], args0, []⟩).heap.size
noncomputable def pushWs (w : World) : World := { w with heap := ((w.heap.modify 3 (DM.withCells #[.pointer (some ⟨size0 + 2, 0, none⟩)])).push (.cells #[.slice (some ⟨size0 + 3, 0, none⟩) 7 7, .slice none 0 0, .int .i64 2] 450 (0, 0))).push (.cells #[.int .u16 9, .int .u16 13, .int .u16 1, .int .u16 32, .int .u16 133, .int .u16 101, .int .u16 160, .int .u16 5760, .int .u16 5600, .int .u16 8192, .int .u16 8202, .int .u16 1, .int .u16 8232, .int .u16 8233, .int .u16 1, .int .u16 8239, .int .u16 8287, .int .u16 48, .int .u16 12288, .int .u16 12288, .int .u16 1] 453 (0, 0)) }
theorem pushWs_os (w : World) : (pushWs w).os = w.os := rfl
noncomputable def laidWorld (os : Os) : World := pushWs (world0 os)
theorem world0_os (os : Os) : (world0 os).os = os := DM.layWorld_os _ _ _ _ _
theorem laidWorld_os (os : Os) : (laidWorld os).os = os := (pushWs_os (world0 os)).trans (world0_os os)
def laidA : List (String × DataW Unit) := [("math/bits.deBruijn32tab", Rows.laid_math_bits_deBruijn32tab), ("math/bits.deBruijn64tab", Rows.laid_math_bits_deBruijn64tab), ("internal/strconv.uint64pow10", Rows.laid_internal_strconv_uint64pow10), ("unicode/utf8.acceptRanges", Rows.laid_unicode_utf8_acceptRanges), ("strconv.ErrRange", Rows.laid_strconv_ErrRange), ("strconv.ErrSyntax", Rows.laid_strconv_ErrSyntax), ("unicode.White_Space", Rows.laid_unicode_White_Space)]
def laidB : List (String × DataW Unit) := [("strings.asciiSpace", Rows.laid_strings_asciiSpace)]
def laidC : List (String × DataW Unit) := [("unicode/utf8.first", Rows.laid_unicode_utf8_first)]
theorem laid_eq : Rows.targetsFindsRow.laid = laidA ++ laidB ++ laidC := rfl
theorem laid_met (os : Os) : laidMet Tryz.prog Rows.targetsFindsRow.laid ((laidWorld os).forCall (fun _ _ => 0) ⟨#[], args0, []⟩).memory := by
  rw [laid_eq]
  exact LaidIn.met (((LaidIn.of_run [8, 9, 7, 2, 6, 5, 3, size0, size0 + 1, size0 + 2, size0 + 3] 8 (by kernel_rfl) (by kernel_rfl) (by kernel_rfl) (by kernel_rfl) : LaidIn Tryz.prog ((laidWorld os).forCall (fun _ _ => 0) ⟨#[], args0, []⟩).memory laidA _).append
    (LaidIn.of_run [0] 8 (by kernel_rfl) (by kernel_rfl) (by kernel_rfl) (by kernel_rfl) : LaidIn Tryz.prog _ laidB _) (by kernel_rfl)).append
    (LaidIn.of_run [1] 8 (by kernel_rfl) (by kernel_rfl) (by kernel_rfl) (by kernel_rfl) : LaidIn Tryz.prog _ laidC _) (by kernel_rfl))
theorem reads (os : Os) {H : Type} (enc : TypeId × Value → H) : ∃ places, DataW.whole enc Tryz.prog ((laidWorld os).forCall (fun _ _ => 0) ⟨#[], args0, []⟩).memory Tryz.f4.params.toList Rows.targetsFindsSpec.vars false args0.toList 8 = some ([.agg [.lit (.string []), .lit (.int .i64 0), .nil, .nil, .nil, .nil, .nil, .nil, .nil, .nil, .nil, .nil, .nil], .lit (.string [])], [], places) :=
  ⟨[], by kernel_rfl⟩

set_option maxRecDepth 1000000 in
theorem f_init : Tryz.checked.prog.inits.idxOf? 4 = none := by kernel_rfl
set_option maxRecDepth 1000000 in
theorem f_vars (os : Os) : ((laidWorld os).forCall (fun _ _ => 0) ⟨#[], args0, []⟩).variablesRefB Tryz.checked.prog = true := by kernel_rfl
set_option maxRecDepth 1000000 in
theorem f_heap (os : Os) : (((laidWorld os).forCall (fun _ _ => 0) ⟨#[], args0, []⟩).heap.toList.drop Tryz.checked.prog.globals.size).take ((begin Tryz.checked.prog (fun _ _ => 0) default).world.heap.size - Tryz.checked.prog.globals.size) =
    (begin Tryz.checked.prog (fun _ _ => 0) default).world.heap.toList.drop Tryz.checked.prog.globals.size := by kernel_rfl
set_option maxRecDepth 1000000 in
theorem f_ok (os : Os) : Input.okWideB Tryz.checked.prog ((laidWorld os).forCall (fun _ _ => 0) ⟨#[], args0, []⟩) 4 ⟨#[], args0, []⟩ = true := by kernel_rfl
set_option maxRecDepth 1000000 in
theorem f_size (os : Os) {H : Type} (enc : TypeId × Value → H) : (OpenSpec.ofChange Rows.targetsFindsSpec).bare.sizedB enc Tryz.prog Tryz.f4 false ((laidWorld os).forCall (fun _ _ => 0) ⟨#[], args0, []⟩).memory args0 8 = true := by kernel_rfl
set_option maxRecDepth 100000 in
theorem lifted (os : Os) (started : os.Started) (H : Type) (enc : TypeId × Value → H) (F : Stop.Interp) :
    ReturnsInHanded {} Tryz.checked os 4 .any ((OpenSpec.ofChange Rows.targetsFindsSpec).preRow enc Tryz.prog Tryz.f4 Rows.targetsFindsRow.domain false Rows.targetsFindsRow.laid) (((OpenSpec.ofChange Rows.targetsFindsSpec).at F).post enc Tryz.prog Tryz.f4 false true false false) := by
  obtain ⟨places, hx⟩ := reads os enc
  refine returnsInHanded_of_row (C := Tryz.checked) (s := OpenSpec.ofChange Rows.targetsFindsSpec) own started f_init Tryz.func4
    (witness_row_atRef (enc := enc) (C := Tryz.checked) false (laidWorld os) args0 (laidWorld_os os) (f_vars os) (f_heap os) (f_ok os)
      (OpenSpec.preRow_of_cond 8 hx (by kernel_rfl) (fun k hk => by cases hk) (f_size os enc) (laid_met os))) ?_
  intro W base args ds gs before hval hW _ _ _ hL hsh _
  exact contract H enc W base args ds gs before hval hW hL hsh

set_option maxRecDepth 1000000 in
theorem f_named : Tryz.pinned.checked.prog.funcNamed Rows.targetsFindsRow.func = some 4 := by kernel_rfl
set_option maxRecDepth 1000000 in
theorem j0 : (Rows.targetsFindsRow.wf (OpenSpec.ofChange (OpenSpec.ofChange Rows.targetsFindsSpec).bare)) = true := by kernel_rfl
set_option maxRecDepth 1000000 in
theorem j1 : (laidOutB Tryz.pinned.checked.prog) = true := by kernel_rfl
set_option maxRecDepth 1000000 in
theorem j2 : (mapsRowed Tryz.pinned.checked.prog) = true := by kernel_rfl
set_option maxRecDepth 1000000 in
theorem j3 : (Tryz.f4.params.all (Tryz.pinned.checked.prog.readableRec ·)) = true := by kernel_rfl
set_option maxRecDepth 1000000 in
theorem j4 : (namedTie Tryz.pinned.checked.prog Rows.targetsFindsRow.named (OpenSpec.ofChange Rows.targetsFindsSpec).bare.vars) = true := by kernel_rfl
set_option maxRecDepth 1000000 in
theorem j5 : ((Rows.targetsFindsRow.stops == [])) = true := by kernel_rfl
set_option maxRecDepth 1000000 in
theorem j6 : ((Tryz.pinned.checked.prog.stops == [])) = true := by kernel_rfl
set_option maxRecDepth 1000000 in
theorem j7 : ((Rows.targetsFindsRow.knobs == [])) = true := by kernel_rfl
set_option maxRecDepth 1000000 in
theorem j8 : ((Tryz.pinned.checked.prog.stopKnobs == [])) = true := by kernel_rfl
set_option maxRecDepth 1000000 in
theorem j9 : ((Rows.targetsFindsRow.inPlace == Tryz.pinned.checked.prog.inPlace 4)) = true := by kernel_rfl
set_option maxRecDepth 1000000 in
theorem j10 : ((Rows.targetsFindsRow.unfollowed == Tryz.pinned.checked.prog.unfollowed 4)) = true := by kernel_rfl
set_option maxRecDepth 1000000 in
theorem j11 : ((Rows.targetsFindsRow.recurses == Tryz.pinned.checked.prog.recurses 4)) = true := by kernel_rfl
set_option maxRecDepth 1000000 in
theorem j12 : ((Rows.targetsFindsRow.named == Tryz.pinned.checked.prog.varsNamed 4)) = true := by kernel_rfl
set_option maxRecDepth 1000000 in
theorem j13 : ((Rows.targetsFindsRow.maps == (Tryz.f4.params.toList ++ (OpenSpec.ofChange Rows.targetsFindsSpec).bare.plain.varTypes Tryz.pinned.checked.prog).any (Tryz.pinned.checked.prog.mapsRec ·))) = true := by kernel_rfl
set_option maxRecDepth 1000000 in
theorem j14 : ((Rows.targetsFindsRow.ifaces == (Tryz.f4.params.toList ++ (OpenSpec.ofChange Rows.targetsFindsSpec).bare.plain.varTypes Tryz.pinned.checked.prog).any (Tryz.pinned.checked.prog.ifacesRec ·))) = true := by kernel_rfl
set_option maxRecDepth 1000000 in
theorem j15 : ((Rows.targetsFindsRow.mapsOut == Tryz.pinned.checked.prog.mapsAmong Tryz.f4.resultTypes.toList)) = true := by kernel_rfl
set_option maxRecDepth 1000000 in
theorem j16 : ((Rows.targetsFindsRow.loops == (Tryz.f4.params.toList ++ (OpenSpec.ofChange Rows.targetsFindsSpec).bare.plain.varTypes Tryz.pinned.checked.prog).any (Tryz.pinned.checked.prog.loopsFrom ·))) = true := by kernel_rfl
set_option maxRecDepth 1000000 in
theorem j17 : ((Rows.targetsFindsRow.wideKeys == (Tryz.f4.params.toList ++ (OpenSpec.ofChange Rows.targetsFindsSpec).bare.plain.varTypes Tryz.pinned.checked.prog ++ Tryz.f4.resultTypes.toList).any (Tryz.pinned.checked.prog.wideKeysFrom ·))) = true := by kernel_rfl
set_option maxRecDepth 1000000 in
theorem j18 : ((OpenSpec.ofChange Rows.targetsFindsSpec).bare.vars.all (Tryz.pinned.checked.prog.varReadable ·)) = true := by kernel_rfl
set_option maxRecDepth 1000000 in
theorem j19 : (Tryz.f4.resultTypes.all (fun t => Tryz.pinned.checked.prog.readableRec t && decide (t < Tryz.pinned.checked.prog.types.size))) = true := by kernel_rfl
set_option maxRecDepth 1000000 in
theorem j20 : ((Rows.targetsFindsRow.ifacesOut == Tryz.f4.resultTypes.toList.any (Tryz.pinned.checked.prog.ifacesRec ·))) = true := by kernel_rfl
set_option maxRecDepth 1000000 in
theorem j21 : ((Rows.targetsFindsRow.loopsOut == Tryz.f4.resultTypes.toList.any (Tryz.pinned.checked.prog.loopsFrom ·))) = true := by kernel_rfl
set_option maxRecDepth 1000000 in
theorem j22 : ((Rows.targetsFindsRow.plainKeys == Tryz.pinned.checked.prog.plainKeys)) = true := by kernel_rfl
set_option maxRecDepth 1000000 in
theorem j23 : (Rows.targetsFindsRow.shortTexts.isNone) = true := by kernel_rfl
set_option maxRecDepth 1000000 in
theorem j24 : (Tryz.pinned.checked.prog.stopsHeard) = true := by kernel_rfl
set_option maxRecDepth 1000000 in
theorem j25 : (Tryz.pinned.checked.prog.mayEnter) = true := by kernel_rfl
set_option maxRecDepth 1000000 in
theorem j26 : ((Rows.targetsFindsRow.lifted == Tryz.pinned.checked.prog.liftsFinal)) = true := by kernel_rfl
set_option maxRecDepth 1000000 in
theorem j27 : ((Tryz.pinned.checked.prog.make == some Rows.targetsFindsRow.make)) = true := by kernel_rfl
set_option maxRecDepth 1000000 in
theorem j28 : ((Rows.targetsFindsRow.kinds == (if Rows.targetsFindsRow.domain.isEmpty then [] else Tryz.f4.params.toList.map fun t => match Tryz.pinned.checked.prog.underlying t with | some (.int k) => some k | _ => none))) = true := by kernel_rfl
set_option maxRecDepth 1000000 in
theorem j29 : ((Rows.targetsFindsRow.pinned == Rows.targetsFindsRow.pinnedBy)) = true := by kernel_rfl
set_option maxRecDepth 1000000 in
theorem j30 : ((Rows.targetsFindsRow.veiled == (Tryz.f4.params.toList ++ (OpenSpec.ofChange Rows.targetsFindsSpec).bare.plain.varTypes Tryz.pinned.checked.prog ++ Tryz.f4.resultTypes.toList).any (Tryz.pinned.checked.prog.veiledRec ·))) = true := by kernel_rfl
set_option maxRecDepth 1000000 in
theorem j31 : (Rows.targetsFindsRow.veiledFits Tryz.pinned.checked.prog Tryz.f4.params.toList (Tryz.f4.params.toList ++ (OpenSpec.ofChange Rows.targetsFindsSpec).bare.plain.varTypes Tryz.pinned.checked.prog ++ Tryz.f4.resultTypes.toList)) = true := by kernel_rfl
set_option maxRecDepth 100000 in
theorem f_joined : joinedFacts Tryz.pinned.checked.prog 4 Tryz.f4 (OpenSpec.ofChange Rows.targetsFindsSpec).bare Rows.targetsFindsRow = true := by
  unfold joinedFacts
  exact (Bool.and_eq_true_iff.2 ⟨(Bool.and_eq_true_iff.2 ⟨(Bool.and_eq_true_iff.2 ⟨(Bool.and_eq_true_iff.2 ⟨(Bool.and_eq_true_iff.2 ⟨(Bool.and_eq_true_iff.2 ⟨(Bool.and_eq_true_iff.2 ⟨(Bool.and_eq_true_iff.2 ⟨(Bool.and_eq_true_iff.2 ⟨(Bool.and_eq_true_iff.2 ⟨(Bool.and_eq_true_iff.2 ⟨(Bool.and_eq_true_iff.2 ⟨(Bool.and_eq_true_iff.2 ⟨(Bool.and_eq_true_iff.2 ⟨(Bool.and_eq_true_iff.2 ⟨(Bool.and_eq_true_iff.2 ⟨(Bool.and_eq_true_iff.2 ⟨(Bool.and_eq_true_iff.2 ⟨(Bool.and_eq_true_iff.2 ⟨(Bool.and_eq_true_iff.2 ⟨(Bool.and_eq_true_iff.2 ⟨(Bool.and_eq_true_iff.2 ⟨(Bool.and_eq_true_iff.2 ⟨(Bool.and_eq_true_iff.2 ⟨(Bool.and_eq_true_iff.2 ⟨(Bool.and_eq_true_iff.2 ⟨(Bool.and_eq_true_iff.2 ⟨(Bool.and_eq_true_iff.2 ⟨(Bool.and_eq_true_iff.2 ⟨(Bool.and_eq_true_iff.2 ⟨(Bool.and_eq_true_iff.2 ⟨j0, j1⟩), j2⟩), j3⟩), j4⟩), j5⟩), j6⟩), j7⟩), j8⟩), j9⟩), j10⟩), j11⟩), j12⟩), j13⟩), j14⟩), j15⟩), j16⟩), j17⟩), j18⟩), j19⟩), j20⟩), j21⟩), j22⟩), j23⟩), j24⟩), j25⟩), j26⟩), j27⟩), j28⟩), j29⟩), j30⟩), j31⟩)
theorem said : Rows.TargetsFindsSaid :=
  OpenClaim.holds_of_cond 4 Tryz.f4 rfl rfl rfl rfl rfl rfl rfl ⟨rfl, rfl, rfl, rfl, rfl⟩ rfl rfl rfl rfl rfl f_named Tryz.func4 f_joined
    (of_decide_eq_true (by kernel_rfl)) (by unfold Func.isWrapper; first | (rw [if_pos (by decide +kernel)]; kernel_rfl) | (rw [if_neg (by decide +kernel)]; exact ⟨rfl, rfl⟩))
    (fun os started H enc _ F => by rw [OpenClaim.pre_eq_preRow]; exact lifted os started H enc F)

theorem plain (f : FuncId) (fn : Func) (hf : Tryz.pinned.checked.prog.funcNamed "dovetail/dovetaillaw10.TargetsFinds" = some f) (hfn : Tryz.pinned.checked.prog.funcs[f]? = some fn) :
    true = Tryz.pinned.checked.prog.looks [] ∧ ∀ (j : Nat) t, fn.params[j]? = some t → Tryz.pinned.checked.prog.wantsStandIn t = false := by
  obtain rfl : f = 4 := Option.some.inj ((show Tryz.prog.funcNamed "dovetail/dovetaillaw10.TargetsFinds" = some 4 by kernel_rfl).symm.trans hf) |>.symm
  obtain rfl : fn = Tryz.f4 := (Option.some.inj (Tryz.func4.symm.trans hfn)).symm
  refine ⟨by kernel_rfl, fun j t ht => ?_⟩
  rw [Tryz.params4] at ht
  cases j with
  | zero =>
    obtain rfl : t = 37 := by simpa using ht.symm
    kernel_rfl
  | succ j =>
    cases j with
    | zero =>
      obtain rfl : t = 9 := by simpa using ht.symm
      kernel_rfl
    | succ j => simp at ht

set_option maxRecDepth 1000000 in
theorem f_text : Rows.targetsFindsRow.wfByText (OpenSpec.ofChange Rows.targetsFindsSpec) = true := by kernel_rfl
set_option maxRecDepth 1000000 in
theorem f_main : Tryz.pinned.checked.prog.mainIs = some (true, "538838a92006f47a3b62ddab7f3976eab141d01215dc5e8f2a89ed11cb84f95a".toList) := by kernel_rfl
set_option maxRecDepth 1000000 in
theorem f_goes : false = Rows.targetsFindsRow.goesBy Tryz.pinned.checked.prog := by kernel_rfl
/-- the card -/
theorem card : Rows.TargetsFindsCardSaid :=
  Claim7.holds_tied_plain_at .later [] _ _ _ _ said (fun _ h => by cases h) f_text (fun _ h => by cases h) targetsFinds_row_tie rfl ⟨rfl, rfl⟩ f_main rfl plain f_goes
end Go.Proofs.YtiommdibonjgjaaGreatDoor.targetsFinds
