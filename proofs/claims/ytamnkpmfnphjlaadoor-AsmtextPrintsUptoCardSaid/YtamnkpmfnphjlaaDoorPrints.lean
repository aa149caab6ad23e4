/- dovetaillaw13.AsmtextPrints returns true at every list of lines of bulk at most 1048576 (the tied card of its second form). -/
import Derived.Test.YtamnkpmfnphjlaaDoorCards
import Derived.Test.YtamnkpmfnphjlaaDoorTie
import Derived.WalkKit
import Derived.ProofKit
import Derived.OpenShut
import Derived.ChangeMaps5
import Derived.Deep.DeepHandedRow
import Derived.Test.YtamnkpmfnphjlaaDoorPrimsT
import Derived.Test.YtamnkpmfnphjlaaDoorLawU
import Derived.Test.YtamnkpmfnphjlaaDoorOpenT
namespace Go.Proofs.YtamnkpmfnphjlaaDoor.prints
open Go.ChangeShapes Go.WideShapes Go.ChangeAt Go.ChangeMaps Go.RowKit

/-! what the argument is read as -/
section
variable {H : Type} (enc : TypeId × Value → H)
def DStr (s : ByteArray) (d : DataW H) : Prop := d = .lit (.string s.data.toList)
def DTok (x : DM.TTok) (d : DataW H) : Prop := d = .agg [.lit (.int .i64 x.f_Kind), .lit (.string x.f_Text.data.toList)]
def DLine (x : DM.TLine) (d : DataW H) : Prop := ∃ d1 d2, d = .agg [.lit (.int .i64 x.f_No), d1, d2] ∧ DM.SlD DStr x.f_Labels d1 ∧ DM.SlD DTok x.f_Toks d2
theorem oInt : DM.Opens enc Tryd.prog 3 (DM.rI .i64) (fun x d => d = .lit (.int .i64 x)) := DM.opens_int Tryd.underlying3 (by kernel_rfl)
theorem oStr : DM.Opens enc Tryd.prog 9 DM.rS DStr := DM.opens_string Tryd.underlying9 (by kernel_rfl)
theorem oStrs : DM.Opens enc Tryd.prog 44 (DM.rL DM.rS) (DM.SlD DStr) := DM.opens_slice Tryd.underlying44 (by kernel_rfl) (oStr enc)
theorem oTok : DM.Opens enc Tryd.prog 48 DM.rTTok DTok :=
  DM.opens_struct (fun (y : Int × ByteArray × Unit) => DM.TTok.mk y.1 y.2.1) (by kernel_rfl) Tryd.underlying48
    (DM.opensFs_cons rfl (oInt enc) (DM.opensFs_cons rfl (oStr enc) DM.opensFs_nil))
    (by rintro ⟨a, b, u⟩ qs ⟨c1, c2, rfl, rfl, c3, c4, rfl, rfl, rfl⟩; rfl)
    (by rintro ⟨a, b, u⟩ ds ⟨d, es, rfl, rfl, d', es', rfl, hd, rfl⟩; cases hd; rfl)
theorem oToks : DM.Opens enc Tryd.prog 31 (DM.rL DM.rTTok) (DM.SlD DTok) := DM.opens_slice Tryd.underlying31 (by kernel_rfl) (oTok enc)
theorem oLine : DM.Opens enc Tryd.prog 46 DM.rTLine DLine :=
  DM.opens_struct (fun (y : Int × List ByteArray × List DM.TTok × Unit) => DM.TLine.mk y.1 y.2.1 y.2.2.1) (by kernel_rfl) Tryd.underlying46
    (DM.opensFs_cons rfl (oInt enc) (DM.opensFs_cons rfl (oStrs enc) (DM.opensFs_cons rfl (oToks enc) DM.opensFs_nil)))
    (by rintro ⟨a, b, c, u⟩ qs ⟨c1, c2, rfl, rfl, c3, c4, rfl, ⟨a1, rfl, h1⟩, c5, c6, rfl, ⟨a2, rfl, h2⟩, rfl⟩; exact ⟨a1, a2, rfl, h1, h2⟩)
    (by rintro ⟨a, b, c, u⟩ ds ⟨d, es, rfl, rfl, d', es', rfl, h1, d'', es'', rfl, h2, rfl⟩; exact ⟨d', d'', rfl, h1, h2⟩)
theorem oArg : DM.Opens enc Tryd.prog 23 (DM.rL DM.rTLine) (DM.SlD DLine) := DM.opens_slice Tryd.underlying23 (by kernel_rfl) (oLine enc)
end

/-! how much it takes -/
theorem bulk_strs {H : Type} : ∀ {l : List ByteArray} {es : List (DataW H)}, DM.All2 DStr l es → (l.flatMap DM.labP).length ≤ 2 * Rows.uptoBulkAll es ∧ l.length ≤ Rows.uptoBulkAll es ∧ ∀ s ∈ l, s.size ≤ Rows.uptoBulkAll es
  | _, _, .nil => ⟨by simp, by simp, by simp⟩
  | s :: l, _, .cons h g => by
    obtain ⟨h1, h2, h3⟩ := bulk_strs g
    have hs := DM.bs_length s
    unfold DStr at h
    subst h
    have hz : s.data.toList.length = s.size := Array.length_toList
    simp only [Rows.uptoBulkAll, Rows.uptoBulk, List.flatMap_cons, List.length_append, DM.labP, List.length_cons, List.length_nil]
    refine ⟨by omega, by omega, fun t ht => ?_⟩
    rcases List.mem_cons.1 ht with rfl | ht
    · omega
    · have := h3 t ht; omega
theorem bulk_toks {H : Type} : ∀ {l : List DM.TTok} {es : List (DataW H)}, DM.All2 DTok l es → DM.tsize l + 3 * l.length ≤ Rows.uptoBulkAll es
  | _, _, .nil => by simp [DM.tsize]
  | t :: l, _, .cons h g => by
    have h1 := bulk_toks g
    unfold DTok at h
    subst h
    have hz : t.f_Text.data.toList.length = t.f_Text.size := Array.length_toList
    simp only [Rows.uptoBulkAll, Rows.uptoBulk, DM.tsize, List.length_cons]
    omega
theorem bulk_line {H : Type} {x : DM.TLine} {d : DataW H} (h : DLine x d) (hb : Rows.uptoBulk d ≤ 1048576) : (DM.SmallL x ∧ x.f_Toks.length ≤ 1048576 ∧ DM.tsize x.f_Toks ≤ 1048576) ∧ DM.lsize x + 2 ≤ 4 * Rows.uptoBulk d := by
  obtain ⟨d1, d2, rfl, h1, h2⟩ := h
  simp only [Rows.uptoBulk, Rows.uptoBulkAll] at hb ⊢
  have k1 : (x.f_Labels.flatMap DM.labP).length ≤ 2 * Rows.uptoBulk d1 ∧ x.f_Labels.length ≤ Rows.uptoBulk d1 ∧ ∀ s ∈ x.f_Labels, s.size ≤ Rows.uptoBulk d1 := by
    rcases h1 with ⟨e, rfl⟩ | ⟨es, rest, rfl, h⟩
    · rw [e]; exact ⟨by simp, by simp, by simp⟩
    · obtain ⟨g1, g2, g3⟩ := bulk_strs h
      simp only [Rows.uptoBulk]
      exact ⟨by omega, by omega, fun s hs => by have := g3 s hs; omega⟩
  have k2 : DM.tsize x.f_Toks + 3 * x.f_Toks.length ≤ Rows.uptoBulk d2 := by
    rcases h2 with ⟨e, rfl⟩ | ⟨es, rest, rfl, h⟩
    · rw [e]; simp [DM.tsize]
    · have := bulk_toks h
      simp only [Rows.uptoBulk]; omega
  obtain ⟨g1, g2, g3⟩ := k1
  refine ⟨⟨⟨by omega, by omega, fun s hs => by have := g3 s hs; omega, fun t ht => by have := DM.tsize_mem ht; omega⟩, by omega, by omega⟩, ?_⟩
  unfold DM.lsize
  omega
theorem bulk_lines {H : Type} : ∀ {l : List DM.TLine} {es : List (DataW H)}, DM.All2 DLine l es → Rows.uptoBulkAll es ≤ 1048576 → (∀ x ∈ l, DM.SmallL x ∧ x.f_Toks.length ≤ 1048576 ∧ DM.tsize x.f_Toks ≤ 1048576) ∧ l.length ≤ Rows.uptoBulkAll es ∧ DM.lsizes l ≤ 4 * Rows.uptoBulkAll es
  | _, _, .nil, _ => ⟨by simp, by simp, by simp [DM.lsizes]⟩
  | x :: l, _, .cons (y := d) h g, hb => by
    simp only [Rows.uptoBulkAll] at hb ⊢
    obtain ⟨h1, h2, h3⟩ := bulk_lines g (by omega)
    obtain ⟨k1, k2⟩ := bulk_line h (by omega)
    have hd : 1 ≤ Rows.uptoBulk d := by obtain ⟨_, _, rfl, _⟩ := h; simp [Rows.uptoBulk]
    refine ⟨fun y hy => ?_, by simp only [List.length_cons]; omega, by simp only [DM.lsizes]; omega⟩
    rcases List.mem_cons.1 hy with rfl | hy
    · exact k1
    · exact h1 y hy

theorem calls {W : World} {l : List DM.TLine} {a : DM.A} {v : Value} (ha : DM.Sl DM.rTLine a l) (hr : DM.Rel (DM.start W) a v) (hs : ∀ x ∈ l, DM.SmallL x ∧ x.f_Toks.length ≤ 1048576 ∧ DM.tsize x.f_Toks ≤ 1048576) (hll : l.length ≤ 1048576) (hz : DM.lsizes l ≤ 6000000) {m : Int} (hm : W.cell? ⟨0, 0, none⟩ = some (.int .i64 m)) (h0 : 0 < W.heap.size) : Calls Tryd.prog 6 #[v] W fun e W' => e = .returned (.bool true) ∧ Below W.heap.size W W' := by
  have hc : DM.Ca DM.cfg 6 [a] DM.σ0 (fun x _ => x = .v (.bool true)) := by
    obtain ⟨x, σ', h1, h2⟩ := DM.gdovetaillaw13_AsmtextPrints_ok (R := []) ha (DM.Hp.nil DM.σ0) (DM.prints_law l hs hll hz)
    exact ⟨x, σ', h1, h2.1⟩
  have h := DM.calls_true' (C := DM.cfg) (w := W) orders (prims hm h0) (globs _) (DM.RelL.cons hr (DM.RelL.nil _)) hc
  rw [cfgP] at h
  exact h

set_option maxRecDepth 100000 in
theorem contract (H : Type) (enc : TypeId × Value → H) (W : World) (base : Nat) (args : Array Value) (ds gs : List (DataW H)) (before : List MemPlace)
    (hval : ∀ (j : Nat) t v, Tryd.f6.params[j]? = some t → args[j]? = some v → Value.okWide Tryd.prog W .any base t v)
    (hW : DataW.Whole enc Tryd.prog Tryd.f6.params.toList Rows.asmtextPrintsSpec.vars false W args.toList ds gs before) (hsh : W.ShapedOpen Tryd.prog) (hk : Rows.uptoSmall H (ds ++ gs) = true) :
    Calls Tryd.prog 6 args W fun e W' => ∃ v, e = .returned v ∧ Rows.asmtextPrintsSpec.post enc Tryd.prog Tryd.f6 false true false false W args v W' := by
  have hW' := hW
  obtain ⟨p, q, hA0, hV, rfl, hfz, hnd⟩ := hW
  have hA : DataW.TrodAll enc Tryd.prog W 0 (fun _ => true) true Tryd.f6.params.toList args.toList ds p := hA0
  rw [Tryd.params6] at hA hval
  obtain ⟨v0, d0, rfl, rfl, hd0⟩ := trodAll_one hA
  obtain ⟨rfl, rfl⟩ := trodVars_none hV
  have hv0 : v0.cells = #[v0] := by
    have h := hval 0 23 v0 rfl rfl
    unfold Value.okWide at h
    rw [Tryd.underlying23] at h
    unfold Cell.okWide Cell.ok at h
    rw [Tryd.underlying23] at h
    cases v0 <;> first | rfl | exact h.elim
  have hd1 := hd0
  obtain ⟨fuel, hf⟩ := hd1
  rw [hv0] at hf
  obtain ⟨l, qs, ⟨a, rfl, ha⟩, hr, hD⟩ := (oArg enc).run hf
  obtain ⟨u, us, hu, hr, hr2⟩ := hr.inv_cons
  obtain rfl := hr2.inv_nil
  cases hu
  obtain ⟨m, hm⟩ : ∃ m, W.cell? ⟨0, 0, none⟩ = some (.int .i64 m) := Tryd.laysM146.s1_3 W hsh
  have hb : (∀ x ∈ l, DM.SmallL x ∧ x.f_Toks.length ≤ 1048576 ∧ DM.tsize x.f_Toks ≤ 1048576) ∧ l.length ≤ 1048576 ∧ DM.lsizes l ≤ 6000000 := by
    have h := of_decide_eq_true hk
    simp only [List.append_nil, Rows.uptoBulkAll] at h
    rcases hD with ⟨rfl, rfl⟩ | ⟨es, rest, rfl, h2⟩
    · exact ⟨by simp, by simp, by simp [DM.lsizes]⟩
    · simp only [Rows.uptoBulk] at h
      obtain ⟨g1, g2, g3⟩ := bulk_lines h2 (by omega)
      exact ⟨g1, by omega, by omega⟩
  clear hA0 hA
  simp only [List.append_nil] at hW'
  refine (calls ha hr hb.1 hb.2.1 hb.2.2 hm (World.block_lt_of_cell? _ _ hm)).mono fun e W' ⟨he, hbl⟩ => ?_
  subst he
  exact ⟨_, rfl, DM.post_of_below (pa := p) (pv := []) hW' (fun _ _ _ => trodAll_cons_mk (shut_bool Tryd.underlying4 _) trodAll_mk0)
    (fun sp hsp => trodAll_mk1 (DM.trod_stays (by kernel_rfl) (by kernel_rfl) (of_decide_eq_true (by kernel_rfl)) hd0 hbl (fun x hx => hW'.lt x hx) hsp)) (fun _ _ => rfl) (by simp)
    hbl (ok_one (by kernel_rfl) rfl (okWide_bool_mk Tryd.underlying4 _))⟩

/-- a world for the witness -/
noncomputable def laidWorld (os : Os) : World := DM.layWorld Tryd.prog 0 0 (World.holding Tryd.prog os ⟨#[], #[.slice none 0 0], []⟩) Rows.asmtextPrintsUptoRow.laid
theorem laid_met (os : Os) : laidMet Tryd.prog Rows.asmtextPrintsUptoRow.laid ((laidWorld os).forCall (fun _ _ => 0) ⟨#[], #[.slice none 0 0], []⟩).memory :=
  laidMet_of_run' 8 (by kernel_rfl) (by kernel_rfl)
theorem reads (os : Os) {H : Type} (enc : TypeId × Value → H) : ∃ places, DataW.whole enc Tryd.prog ((laidWorld os).forCall (fun _ _ => 0) ⟨#[], #[.slice none 0 0], []⟩).memory Tryd.f6.params.toList Rows.asmtextPrintsSpec.vars false (#[.slice none 0 0] : Array Value).toList 8 = some ([.nil], [], places) :=
  ⟨[], by kernel_rfl⟩

set_option maxRecDepth 100000 in
theorem lifted (os : Os) (started : os.Started) (H : Type) (enc : TypeId × Value → H) (F : Stop.Interp) :
    ReturnsInHanded {} Tryd.checked os 6 .any ((Rows.OpenSpec.upto Rows.asmtextPrintsSpec).preRow enc Tryd.prog Tryd.f6 Rows.asmtextPrintsUptoRow.domain false Rows.asmtextPrintsUptoRow.laid) (((Rows.OpenSpec.upto Rows.asmtextPrintsSpec).at F).post enc Tryd.prog Tryd.f6 false true false false) := by
  obtain ⟨places, hx⟩ := reads os enc
  refine returnsInHanded_of_row (C := Tryd.checked) (s := Rows.OpenSpec.upto Rows.asmtextPrintsSpec) own started (by kernel_rfl) Tryd.func6
    (witness_row_at (enc := enc) (C := Tryd.checked) false (laidWorld os) #[.slice none 0 0] (DM.layWorld_os _ _ _ _ _) (by kernel_rfl) (by kernel_rfl) (by kernel_rfl)
      (OpenSpec.preRow_of_cond 8 hx (by kernel_rfl) (fun k hk => by cases hk; kernel_rfl) (by kernel_rfl) (laid_met os))) ?_
  intro W base args ds gs before hval hW _ hcond _ hL hsh _
  exact contract H enc W base args ds gs before hval hW hsh (hcond _ rfl)

theorem said : Rows.AsmtextPrintsUptoSaid :=
  OpenClaim.holds_of_cond 6 Tryd.f6 rfl rfl rfl rfl rfl rfl rfl ⟨rfl, rfl, rfl, rfl, rfl⟩ rfl rfl rfl rfl rfl (by kernel_rfl) Tryd.func6 (by kernel_rfl)
    (of_decide_eq_true (by kernel_rfl)) (by unfold Func.isWrapper; first | (rw [if_pos (by decide +kernel)]; kernel_rfl) | (rw [if_neg (by decide +kernel)]; exact ⟨rfl, rfl⟩))
    (fun os started H enc _ F => by rw [OpenClaim.pre_eq_preRow]; exact lifted os started H enc F)

theorem plain (f : FuncId) (fn : Func) (hf : Tryd.pinned.checked.prog.funcNamed "dovetail/dovetaillaw13.AsmtextPrints" = some f) (hfn : Tryd.pinned.checked.prog.funcs[f]? = some fn) :
    false = Tryd.pinned.checked.prog.looks [] ∧ ∀ (j : Nat) t, fn.params[j]? = some t → Tryd.pinned.checked.prog.wantsStandIn t = false := by
  obtain rfl : f = 6 := Option.some.inj ((show Tryd.prog.funcNamed "dovetail/dovetaillaw13.AsmtextPrints" = some 6 by kernel_rfl).symm.trans hf) |>.symm
  obtain rfl : fn = Tryd.f6 := (Option.some.inj (Tryd.func6.symm.trans hfn)).symm
  refine ⟨by kernel_rfl, fun j t ht => ?_⟩
  rw [Tryd.params6] at ht
  cases j with
  | zero =>
    obtain rfl : t = 23 := by simpa using ht.symm
    kernel_rfl
  | succ j => simp at ht

/-- the card -/
theorem card : Rows.AsmtextPrintsUptoCardSaid :=
  Claim7.holds_tied_plain_at .later [] _ _ _ _ said (fun _ h => by cases h) (by kernel_rfl) (fun _ h => by cases h) asmtextPrintsUpto_row_tie rfl ⟨rfl, rfl⟩ (by kernel_rfl) rfl plain (by kernel_rfl)
end Go.Proofs.YtamnkpmfnphjlaaDoor.prints
