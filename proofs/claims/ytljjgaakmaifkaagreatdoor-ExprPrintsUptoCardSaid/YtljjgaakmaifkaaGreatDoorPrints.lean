/- dovetaillaw12.ExprPrints returns true at every sum of bulk at most 1048576 (the tied card of its second form). -/
import Derived.Test.YtljjgaakmaifkaaGreatDoorCards
import Derived.Test.YtljjgaakmaifkaaGreatDoorTie
import Derived.WalkKit
import Derived.ProofKit
import Derived.OpenShut
import Derived.DataShut
import Derived.ChangeMaps5
import Derived.Deep.DeepHandedRow
import Derived.Deep.DeepWitnessRowRef
import Derived.Lib.LaidIn
import Derived.Great.CaseRows
import Derived.PinnedBridge
import Derived.Test.YtljjgaakmaifkaaGreatDoorDmD
import Derived.Test.YtljjgaakmaifkaaGreatDoorPrimsT
import Derived.Test.YtljjgaakmaifkaaGreatDoorLawT
import Derived.Test.YtljjgaakmaifkaaGreatDoorOpenT
namespace Go.Proofs.YtljjgaakmaifkaaGreatDoor.prints
open Go.ChangeShapes Go.WideShapes Go.ChangeAt Go.ChangeMaps Go.RowKit

/-! what the arguments are read as -/
section
variable {H : Type} (enc : TypeId × Value → H)
def DStr (s : ByteArray) (d : DataW H) : Prop := d = .lit (.string s.data.toList)
def DInt (x : Int) (d : DataW H) : Prop := d = .lit (.int .i64 x) ∧ DM.R64 x
def DLin (x : DM.TLin) (d : DataW H) : Prop := ∃ d1 d2, d = .agg [d1, d2, .lit (.int .i64 x.f_Off)] ∧ DM.R64 x.f_Off ∧ DM.SlD DStr x.f_Syms d1 ∧ DM.SlD DInt x.f_Times d2
theorem oInt : DM.Opens enc Tryz.prog 3 (DM.rI .i64) DInt :=
  ⟨by kernel_rfl, fun h => by
    obtain ⟨n, rfl, hx, hw⟩ := DataW.trod_int Tryz.underlying3 h
    cases hx
    exact ⟨n, _, rfl, DM.RelL.cons (.v rfl) (DM.RelL.nil _), rfl, (Lit.wf_int_iff .i64 n).1 hw⟩⟩
theorem oStr : DM.Opens enc Tryz.prog 9 DM.rS DStr := DM.opens_string Tryz.underlying9 (by kernel_rfl)
theorem oStrs : DM.Opens enc Tryz.prog 22 (DM.rL DM.rS) (DM.SlD DStr) := DM.opens_slice Tryz.underlying22 (by kernel_rfl) (oStr enc)
theorem oInts : DM.Opens enc Tryz.prog 23 (DM.rL (DM.rI .i64)) (DM.SlD DInt) := DM.opens_slice Tryz.underlying23 (by kernel_rfl) (oInt enc)
theorem oLin : DM.Opens enc Tryz.prog 25 DM.rTLin DLin :=
  DM.opens_struct (fun (y : List ByteArray × List Int × Int × Unit) => DM.TLin.mk y.1 y.2.1 y.2.2.1) (by kernel_rfl) Tryz.underlying25
    (DM.opensFs_cons rfl (oStrs enc) (DM.opensFs_cons rfl (oInts enc) (DM.opensFs_cons rfl (oInt enc) DM.opensFs_nil)))
    (by rintro ⟨a, b, c, u⟩ qs ⟨c1, c2, rfl, ⟨a1, rfl, h1⟩, c3, c4, rfl, ⟨a2, rfl, h2⟩, c5, c6, rfl, rfl, rfl⟩; exact ⟨a1, a2, rfl, h1, h2⟩)
    (by rintro ⟨a, b, c, u⟩ ds ⟨d, es, rfl, h1, d', es', rfl, h2, d'', es'', rfl, h3, rfl⟩; obtain ⟨rfl, h4⟩ := h3; exact ⟨d, d', rfl, h4, h1, h2⟩)
theorem openLin {W : World} {sp : Nat → Bool} {held : Bool} {v : Value} {d : DataW H} {ps : List MemPlace} (h : DataW.Trod enc Tryz.prog W 0 sp held 25 v d ps) :
    ∃ (x : DM.TLin) (a1 a2 : DM.A), DM.Sl DM.rS a1 x.f_Syms ∧ DM.Sl (DM.rI .i64) a2 x.f_Times ∧ DM.Rel (DM.start W) (.agg [a1, a2, .v (.int .i64 x.f_Off)]) v ∧ DLin x d := by
  obtain ⟨fuel, hf⟩ := h
  obtain ⟨x, qs, ⟨a1, a2, rfl, h1, h2⟩, hr, hD⟩ := (oLin enc).run hf
  refine ⟨x, a1, a2, h1, h2, ?_, hD⟩
  cases v with
  | agg cs => exact DM.Rel.agg (us := cs.toList) hr.1 hr.2
  | _ => exact absurd hr.1 (by simp [Value.cells])
end

/-! how much they take -/
theorem bulk_strs {H : Type} : ∀ {l : List ByteArray} {es : List (DataW H)}, DM.All2 DStr l es → l.length ≤ Rows.uptoBulkAll es ∧ ∀ s ∈ l, s.size ≤ Rows.uptoBulkAll es
  | _, _, .nil => ⟨by simp, by simp⟩
  | s :: l, _, .cons h g => by
    obtain ⟨h1, h2⟩ := bulk_strs g
    unfold DStr at h
    subst h
    have hz : s.data.toList.length = s.size := Array.length_toList
    simp only [Rows.uptoBulkAll, Rows.uptoBulk, List.length_cons]
    refine ⟨by omega, fun t ht => ?_⟩
    rcases List.mem_cons.1 ht with rfl | ht
    · omega
    · have := h2 t ht; omega
theorem bulk_ints {H : Type} : ∀ {l : List Int} {es : List (DataW H)}, DM.All2 DInt l es → l.length ≤ Rows.uptoBulkAll es ∧ ∀ t ∈ l, DM.R64 t
  | _, _, .nil => ⟨by simp, by simp⟩
  | s :: l, _, .cons h g => by
    obtain ⟨h1, h2⟩ := bulk_ints g
    obtain ⟨rfl, h3⟩ := h
    simp only [Rows.uptoBulkAll, Rows.uptoBulk, List.length_cons]
    refine ⟨by omega, fun t ht => ?_⟩
    rcases List.mem_cons.1 ht with rfl | ht
    · exact h3
    · exact h2 t ht
theorem bulk_lin {H : Type} {x : DM.TLin} {d : DataW H} (h : DLin x d) (hb : Rows.uptoBulk d ≤ 1048576) : DM.Fits x ∧ DM.Nums x := by
  obtain ⟨d1, d2, rfl, h0, h1, h2⟩ := h
  simp only [Rows.uptoBulk, Rows.uptoBulkAll] at hb
  have k1 : x.f_Syms.length ≤ Rows.uptoBulk d1 ∧ ∀ s ∈ x.f_Syms, s.size ≤ Rows.uptoBulk d1 := by
    rcases h1 with ⟨e, rfl⟩ | ⟨es, rest, rfl, h⟩
    · rw [e]; exact ⟨by simp, by simp⟩
    · obtain ⟨g1, g2⟩ := bulk_strs h
      simp only [Rows.uptoBulk]
      exact ⟨by omega, fun s hs => by have := g2 s hs; omega⟩
  have k2 : x.f_Times.length ≤ Rows.uptoBulk d2 ∧ ∀ t ∈ x.f_Times, DM.R64 t := by
    rcases h2 with ⟨e, rfl⟩ | ⟨es, rest, rfl, h⟩
    · rw [e]; exact ⟨by simp, by simp⟩
    · obtain ⟨g1, g2⟩ := bulk_ints h
      simp only [Rows.uptoBulk]
      exact ⟨by omega, g2⟩
  exact ⟨⟨by omega, by omega, fun s hs => by have := k1.2 s hs; omega⟩, ⟨k2.2, h0⟩⟩

theorem calls {W : World} {x : DM.TLin} {a1 a2 : DM.A} {v0 : Value} (h1 : DM.Sl DM.rS a1 x.f_Syms) (h2 : DM.Sl (DM.rI .i64) a2 x.f_Times)
    (r0 : DM.Rel (DM.start W) (.agg [a1, a2, .v (.int .i64 x.f_Off)]) v0) (hx : DM.Fits x) (hn : DM.Nums x) (hL : laidMet Tryz.prog laidL W) : Calls Tryz.prog 3 #[v0] W fun e W' => e = .returned (.bool true) ∧ Below W.heap.size W W' := by
  have hc : DM.Ca DM.cfg 3 [.agg [a1, a2, .v (.int .i64 x.f_Off)]] DM.σ0 (fun x _ => x = .v (.bool true)) := by
    obtain ⟨x, σ', g1, g2⟩ := DM.gdovetaillaw12_ExprPrints_ok h1 h2 (DM.prints_law x hx hn)
    exact ⟨x, σ', g1, g2.1⟩
  have h := DM.calls_true' (C := DM.cfg) (w := W) orders (prims hL) (globs _) (DM.RelL.cons r0 (DM.RelL.nil _)) hc
  rw [cfgP] at h
  exact h

set_option maxRecDepth 100000 in
theorem contract (H : Type) (enc : TypeId × Value → H) (W : World) (base : Nat) (args : Array Value) (ds gs : List (DataW H)) (before : List MemPlace)
    (hval : ∀ (j : Nat) t v, Tryz.f3.params[j]? = some t → args[j]? = some v → Value.okWide Tryz.prog W .any base t v)
    (hW : DataW.Whole enc Tryz.prog Tryz.f3.params.toList Rows.exprPrintsSpec.vars false W args.toList ds gs before) (hL : laidMetH Tryz.prog Rows.exprPrintsUptoRow.laid W) (hk : Rows.uptoSmall H (ds ++ gs) = true) :
    Calls Tryz.prog 3 args W fun e W' => ∃ v, e = .returned v ∧ Rows.exprPrintsSpec.post enc Tryz.prog Tryz.f3 false true false false W args v W' := by
  have hW' := hW
  obtain ⟨p, q, hA0, hV, rfl, hfz, hnd⟩ := hW
  have hA : DataW.TrodAll enc Tryz.prog W 0 (fun _ => true) true Tryz.f3.params.toList args.toList ds p := hA0
  rw [Tryz.params3] at hA hval
  obtain ⟨v0, d0, rfl, rfl, hd0⟩ := trodAll_one hA
  obtain ⟨rfl, rfl⟩ := trodVars_none hV
  obtain ⟨x, a1, a2, h1, h2, r0, e0⟩ := openLin enc hd0
  have hb : DM.Fits x ∧ DM.Nums x := by
    have h := of_decide_eq_true hk
    simp only [List.append_nil, Rows.uptoBulkAll] at h
    exact bulk_lin e0 (by omega)
  clear hA0 hA
  simp only [List.append_nil] at hW'
  refine (calls h1 h2 r0 hb.1 hb.2 hL).mono fun e W' ⟨he, hbl⟩ => ?_
  subst he
  exact ⟨_, rfl, DM.post_of_below (pa := p) (pv := []) hW' (fun _ _ _ => trodAll_cons_mk (shut_bool Tryz.underlying4 _) trodAll_mk0)
    (fun sp hsp => trodAll_mk1 (DM.trod_stays (by kernel_rfl) (by kernel_rfl) (of_decide_eq_true (by kernel_rfl)) hd0 hbl (fun x hx => hW'.lt x hx) hsp)) (fun _ _ => rfl) (by simp)
    hbl (ok_one (by kernel_rfl) rfl (okWide_bool_mk Tryz.underlying4 _))⟩

/-- a world for the witness -/
def lin0 : Value := .agg #[.slice none 0 0, .slice none 0 0, .int .i64 0]
def args0 : Array Value := #[lin0]
noncomputable def world0 (os : Os) : World := DM.layWorld Tryz.prog 147 149 (World.holding Tryz.prog os ⟨#[], args0, []⟩) (laidA ++ laidB)
noncomputable def size0 : Nat := (World.holding Tryz.prog default ⟨#[], args0, []⟩).heap.size
noncomputable def pushCase (w : World) : World := { w with heap := (w.heap.modify 5 (DM.withCells #[.slice (some ⟨size0 + 2, 0, none⟩) Lib.caseT.length Lib.caseT.length])).push (.cells (Lib.caseT.flatMap Lib.cells5).toArray 160 (0, 0)) }
theorem pushCase_os (w : World) : (pushCase w).os = w.os := rfl
noncomputable def laidWorld (os : Os) : World := pushCase (world0 os)
theorem world0_os (os : Os) : (world0 os).os = os := DM.layWorld_os _ _ _ _ _
theorem laidWorld_os (os : Os) : (laidWorld os).os = os := (pushCase_os (world0 os)).trans (world0_os os)
theorem ctypes : Go.Great.CTypes Tryz.prog 143 160 158 98 21 := ⟨Tryz.underlying143, Tryz.underlying160, Tryz.underlying158, Tryz.underlying98, Tryz.underlying21, by kernel_rfl, by kernel_rfl, by kernel_rfl, by kernel_rfl⟩
theorem case_eq : Rows.exprPrintsUptoRow.laid = laidA ++ [("unicode.CaseRanges", .slice (Lib.caseT.map Lib.rowData) [])] ++ laidB := by
  show laidA ++ ("unicode.CaseRanges", Pinned.caseRanges) :: laidB = _
  rw [Pinned.caseRanges_eq]
  rfl
theorem laid_met (os : Os) : laidMet Tryz.prog Rows.exprPrintsUptoRow.laid ((laidWorld os).forCall (fun _ _ => 0) ⟨#[], args0, []⟩).memory := by
  rw [case_eq]
  exact LaidIn.met (((LaidIn.of_run [1, 2, 0, 8, 4, 3, size0, size0 + 1] 8 (by kernel_rfl) (by kernel_rfl) (by kernel_rfl) (by kernel_rfl) : LaidIn Tryz.prog ((laidWorld os).forCall (fun _ _ => 0) ⟨#[], args0, []⟩).memory laidA _).append
    (Go.Great.laidIn_case (g := 5) (B := size0 + 2) (tg := 143) (tb := 160) ctypes Lib.caseT (by kernel_rfl) (by kernel_rfl) (of_decide_eq_true (by kernel_rfl)) Lib.rowsWf (by kernel_rfl) (by kernel_rfl) (of_decide_eq_true (by kernel_rfl))) (by kernel_rfl)).append
    (LaidIn.of_run [7] 8 (by kernel_rfl) (by kernel_rfl) (by kernel_rfl) (by kernel_rfl) : LaidIn Tryz.prog _ laidB _) (by kernel_rfl))
theorem reads (os : Os) {H : Type} (enc : TypeId × Value → H) : ∃ places, DataW.whole enc Tryz.prog ((laidWorld os).forCall (fun _ _ => 0) ⟨#[], args0, []⟩).memory Tryz.f3.params.toList Rows.exprPrintsSpec.vars false args0.toList 8 = some ([.agg [.nil, .nil, .lit (.int .i64 0)]], [], places) :=
  ⟨[], by kernel_rfl⟩

set_option maxRecDepth 100000 in
theorem lifted (os : Os) (started : os.Started) (H : Type) (enc : TypeId × Value → H) (F : Stop.Interp) :
    ReturnsInHanded {} Tryz.checked os 3 .any ((Rows.OpenSpec.upto Rows.exprPrintsSpec).preRow enc Tryz.prog Tryz.f3 Rows.exprPrintsUptoRow.domain false Rows.exprPrintsUptoRow.laid) (((Rows.OpenSpec.upto Rows.exprPrintsSpec).at F).post enc Tryz.prog Tryz.f3 false true false false) := by
  obtain ⟨places, hx⟩ := reads os enc
  refine returnsInHanded_of_row (C := Tryz.checked) (s := Rows.OpenSpec.upto Rows.exprPrintsSpec) own started (by kernel_rfl) Tryz.func3
    (witness_row_atRef (enc := enc) (C := Tryz.checked) false (laidWorld os) args0 (laidWorld_os os) (by kernel_rfl) (by kernel_rfl) (by kernel_rfl)
      (OpenSpec.preRow_of_cond 8 hx (by kernel_rfl) (fun k hk => by cases hk; kernel_rfl) (by kernel_rfl) (laid_met os))) ?_
  intro W base args ds gs before hval hW _ hcond _ hL _ _
  exact contract H enc W base args ds gs before hval hW hL (hcond _ rfl)

theorem said : Rows.ExprPrintsUptoSaid :=
  OpenClaim.holds_of_cond 3 Tryz.f3 rfl rfl rfl rfl rfl rfl rfl ⟨rfl, rfl, rfl, rfl, rfl⟩ rfl rfl rfl rfl rfl (by kernel_rfl) Tryz.func3 (by kernel_rfl)
    (of_decide_eq_true (by kernel_rfl)) (by unfold Func.isWrapper; first | (rw [if_pos (by decide +kernel)]; kernel_rfl) | (rw [if_neg (by decide +kernel)]; exact ⟨rfl, rfl⟩))
    (fun os started H enc _ F => by rw [OpenClaim.pre_eq_preRow]; exact lifted os started H enc F)

theorem plain (f : FuncId) (fn : Func) (hf : Tryz.pinned.checked.prog.funcNamed "dovetail/dovetaillaw12.ExprPrints" = some f) (hfn : Tryz.pinned.checked.prog.funcs[f]? = some fn) :
    true = Tryz.pinned.checked.prog.looks [] ∧ ∀ (j : Nat) t, fn.params[j]? = some t → Tryz.pinned.checked.prog.wantsStandIn t = false := by
  obtain rfl : f = 3 := Option.some.inj ((show Tryz.prog.funcNamed "dovetail/dovetaillaw12.ExprPrints" = some 3 by kernel_rfl).symm.trans hf) |>.symm
  obtain rfl : fn = Tryz.f3 := (Option.some.inj (Tryz.func3.symm.trans hfn)).symm
  refine ⟨by kernel_rfl, fun j t ht => ?_⟩
  rw [Tryz.params3] at ht
  cases j with
  | zero =>
    obtain rfl : t = 25 := by simpa using ht.symm
    kernel_rfl
  | succ j => simp at ht

/-- the card -/
theorem card : Rows.ExprPrintsUptoCardSaid :=
  Claim7.holds_tied_plain_at .later [] _ _ _ _ said (fun _ h => by cases h) (by kernel_rfl) (fun _ h => by cases h) exprPrintsUpto_row_tie rfl ⟨rfl, rfl⟩ (by kernel_rfl) rfl plain (by kernel_rfl)
end Go.Proofs.YtljjgaakmaifkaaGreatDoor.prints
