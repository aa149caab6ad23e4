/- dovetaillaw03.SexpPrints returns true at every list of trees of bulk at most 1048576 (the tied card of its second form). -/
import Derived.Test.YtmelajefpihaiaaDoorCards
import Derived.Test.YtmelajefpihaiaaDoorTie
import Derived.WalkKit
import Derived.ProofKit
import Derived.OpenShut
import Derived.ChangeMaps5
import Derived.Deep.DeepHandedRow
import Derived.Test.YtmelajefpihaiaaDoorDmD
import Derived.Test.YtmelajefpihaiaaDoorPrimsT
import Derived.Test.YtmelajefpihaiaaDoorLawU
import Derived.Test.YtmelajefpihaiaaDoorOpenT
namespace Go.Proofs.YtmelajefpihaiaaDoor.prints
open Go.ChangeShapes Go.WideShapes Go.ChangeAt Go.ChangeMaps Go.RowKit

/-! what the argument is read as -/
section
variable {H : Type} (enc : TypeId × Value → H)
theorem oInt : DM.Opens enc Tryd.prog 3 (DM.rI .i64) (fun x d => d = .lit (.int .i64 x)) := DM.opens_int Tryd.underlying3 (by kernel_rfl)
theorem oStr : DM.Opens enc Tryd.prog 9 DM.rS (fun x d => d = .lit (.string x.data.toList)) := DM.opens_string Tryd.underlying9 (by kernel_rfl)
theorem cells3 : Tryd.prog.cellsOf 3 = 1 := by kernel_rfl
theorem cells23 : Tryd.prog.cellsOf 23 = 1 := by kernel_rfl
theorem cells34 : Tryd.prog.cellsOf 34 = 4 := by kernel_rfl
def DT (x : DM.TTree) (d : DataW H) : Prop := DM.szT x ≤ Rows.uptoBulk d
theorem bulk_all {l : List DM.TTree} {es : List (DataW H)} (h : DM.All2 DT l es) : DM.szL l ≤ Rows.uptoBulkAll es := by
  induction h with
  | nil => rw [DM.szL]; omega
  | cons hx _ ih => unfold DT at hx; rw [DM.szL, Rows.uptoBulkAll]; omega
theorem bulk_sl {l : List DM.TTree} {d : DataW H} (h : DM.SlD DT l d) : DM.szL l ≤ Rows.uptoBulk d := by
  rcases h with ⟨rfl, rfl⟩ | ⟨es, rest, rfl, h⟩
  · rw [DM.szL]; omega
  · have := bulk_all h
    rw [Rows.uptoBulk]; omega
set_option maxRecDepth 100000 in
theorem oTree : ∀ (F : Nat) {W : World} {sp : Nat → Bool} {held : Bool} {fuel : Nat} {cs : List Value} {d : DataW H} {ps : List MemPlace}, fuel ≤ F → DataW.trod enc Tryd.prog W 0 sp held fuel 34 cs = some (d, ps) →
    ∃ x qs, DM.rTTree.rep x qs ∧ DM.RelL (DM.start W) qs cs ∧ DT x d := by
  intro F
  induction F with
  | zero =>
    intro W sp held fuel cs d ps hF h
    obtain ⟨xs, n, rfl, _⟩ := DataW.trod_struct Tryd.underlying34 h
    omega
  | succ F ih =>
    intro W sp held fuel cs d ps hF h
    obtain ⟨xs, n, rfl, hx, hl, hxl, hel⟩ := DataW.trod_struct Tryd.underlying34 h
    rw [cells34] at hl
    match cs, hl with
    | [c0, c1, c2, c3], _ =>
      match xs, hxl with
      | [y0, y1, y2, y3], _ =>
        have h0 := hel 0 _ rfl
        have h1 := hel 1 _ rfl
        have h2 := hel 2 _ rfl
        have h3 := hel 3 _ rfl
        have h0' : DataW.trod enc Tryd.prog W 0 sp held n 3 ((([c0, c1, c2, c3] : List Value).drop 0).take (Tryd.prog.cellsOf 3)) = some (y0.1, y0.2) := h0
        have h1' : DataW.trod enc Tryd.prog W 0 sp held n 9 ((([c0, c1, c2, c3] : List Value).drop 1).take (Tryd.prog.cellsOf 9)) = some (y1.1, y1.2) := h1
        have h2' : DataW.trod enc Tryd.prog W 0 sp held n 3 ((([c0, c1, c2, c3] : List Value).drop 2).take (Tryd.prog.cellsOf 3)) = some (y2.1, y2.2) := h2
        have h3' : DataW.trod enc Tryd.prog W 0 sp held n 23 ((([c0, c1, c2, c3] : List Value).drop 3).take (Tryd.prog.cellsOf 23)) = some (y3.1, y3.2) := h3
        rw [cells3] at h0' h2'
        rw [cells9] at h1'
        rw [cells23] at h3'
        obtain ⟨k, q0, rfl, r0, g0⟩ := (oInt enc).run h0'
        obtain ⟨w, q1, rfl, r1, g1⟩ := (oStr enc).run h1'
        obtain ⟨v, q2, rfl, r2, g2⟩ := (oInt enc).run h2'
        have hk : ∃ l a, DM.Sl DM.rTTree a l ∧ DM.RelL (DM.start W) [a] [c3] ∧ DM.SlD DT l y3.1 := by
          rcases DataW.trod_slice Tryd.underlying23 h3' with ⟨e, hx3⟩ | ⟨a, len, cap, elems, rest, n2, rfl, e, hx3, _, hlc, _, hlen, hel3, _, _⟩
          · simp only [List.drop_succ_cons, List.drop_zero, List.take_succ_cons, List.take_zero] at e
            cases e
            have : y3.1 = .nil := congrArg Prod.fst hx3
            rw [this]
            exact ⟨[], DM.nilS, DM.Sl.nil, DM.RelL.cons (.v rfl) (DM.RelL.nil _), .inl ⟨rfl, rfl⟩⟩
          · simp only [List.drop_succ_cons, List.drop_zero, List.take_succ_cons, List.take_zero] at e
            cases e
            have : y3.1 = .slice (elems.map (·.1)) (rest.map (·.1)) := congrArg Prod.fst hx3
            rw [this]
            obtain ⟨l, q, ⟨a', rfl, ha⟩, hr, hD⟩ := DM.slice_open (r := DM.rTTree) (D := DT) (fun h => ih (by omega) h) cells34 hlc hlen hel3
            exact ⟨l, a', ha, hr, hD⟩
        obtain ⟨l, a, ha, r3, g3⟩ := hk
        refine ⟨.mk k w v l, _, DM.rTTree_of ⟨a, rfl, ha⟩, ?_, ?_⟩
        · have := r0.append (r1.append (r2.append r3))
          exact this
        · have hb := bulk_sl g3
          cases hx
          unfold DT
          have hz : w.data.toList.length = w.size := Array.length_toList
          have e0 : y0.1 = .lit (.int .i64 k) := g0
          have e1 : y1.1 = .lit (.string w.data.toList) := g1
          have e2 : y2.1 = .lit (.int .i64 v) := g2
          simp only [List.map_cons, List.map_nil, Rows.uptoBulk, Rows.uptoBulkAll, e0, e1, e2, DM.szT]
          omega
theorem oArg {W : World} {sp : Nat → Bool} {held : Bool} {fuel : Nat} {c : Value} {d : DataW H} {ps : List MemPlace} (h : DataW.trod enc Tryd.prog W 0 sp held fuel 23 [c] = some (d, ps)) : ∃ l a, DM.Sl DM.rTTree a l ∧ DM.Rel (DM.start W) a c ∧ DM.szL l ≤ Rows.uptoBulk d := by
  rcases DataW.trod_slice Tryd.underlying23 h with ⟨e, hx3⟩ | ⟨a, len, cap, elems, rest, n2, rfl, e, hx3, _, hlc, _, hlen, hel3, _, _⟩
  · cases e; cases hx3
    exact ⟨[], DM.nilS, DM.Sl.nil, .v rfl, by rw [DM.szL]; omega⟩
  · cases e; cases hx3
    obtain ⟨l, q, ⟨a', rfl, ha⟩, hr, hD⟩ := DM.slice_open (r := DM.rTTree) (D := DT) (fun h => oTree enc _ (Nat.le_refl _) h) cells34 hlc hlen hel3
    obtain ⟨u, us, hu, hr, hr2⟩ := hr.inv_cons
    cases hu
    exact ⟨l, a', ha, hr, bulk_sl hD⟩
end

theorem calls {W : World} {l : List DM.TTree} {a : DM.A} {v : Value} (ha : DM.Sl DM.rTTree a l) (hr : DM.Rel (DM.start W) a v) (hz : DM.szL l ≤ 2000000) (hL : laidMet Tryd.prog laidL W) : Calls Tryd.prog 7 #[v] W fun e W' => e = .returned (.bool true) ∧ Below W.heap.size W W' := by
  have hc : DM.Ca DM.cfg 7 [a] DM.σ0 (fun x _ => x = .v (.bool true)) := by
    obtain ⟨x, σ', h1, h2⟩ := DM.gdovetaillaw03_SexpPrints_ok (R := []) ha (DM.Hp.nil DM.σ0) (DM.sexp_prints l hz)
    exact ⟨x, σ', h1, h2.1⟩
  have h := DM.calls_true' (C := DM.cfg) (w := W) orders (prims hL) (globs _) (DM.RelL.cons hr (DM.RelL.nil _)) hc
  rw [cfgP] at h
  exact h

set_option maxRecDepth 100000 in
theorem contract (H : Type) (enc : TypeId × Value → H) (W : World) (base : Nat) (args : Array Value) (ds gs : List (DataW H)) (before : List MemPlace)
    (hval : ∀ (j : Nat) t v, Tryd.f7.params[j]? = some t → args[j]? = some v → Value.okWide Tryd.prog W .any base t v)
    (hW : DataW.Whole enc Tryd.prog Tryd.f7.params.toList Rows.sexpPrintsSpec.vars false W args.toList ds gs before) (hL : laidMetH Tryd.prog Rows.sexpPrintsUptoRow.laid W) (hk : Rows.uptoSmall H (ds ++ gs) = true) :
    Calls Tryd.prog 7 args W fun e W' => ∃ v, e = .returned v ∧ Rows.sexpPrintsSpec.post enc Tryd.prog Tryd.f7 false true false false W args v W' := by
  have hW' := hW
  obtain ⟨p, q, hA0, hV, rfl, hfz, hnd⟩ := hW
  have hA : DataW.TrodAll enc Tryd.prog W 0 (fun _ => true) true Tryd.f7.params.toList args.toList ds p := hA0
  rw [Tryd.params7] at hA hval
  obtain ⟨v0, d0, rfl, rfl, hd0⟩ := trodAll_one hA
  obtain ⟨rfl, rfl⟩ := trodVars_none hV
  have hl : laidMet Tryd.prog laidL W := hL
  have hv0 : v0.cells = #[v0] := by
    have h := hval 0 23 v0 rfl rfl
    unfold Value.okWide at h
    rw [Tryd.underlying23] at h
    unfold Cell.okWide Cell.ok at h
    rw [Tryd.underlying23] at h
    cases v0 <;> first | rfl | exact h.elim
  have hd1 := hd0
  obtain ⟨fuel, hf⟩ := hd1
  rw [hv0] at hf
  obtain ⟨l, a, ha, hr, hz⟩ := oArg enc hf
  have hb : DM.szL l ≤ 2000000 := by
    have h := of_decide_eq_true hk
    simp only [List.append_nil, Rows.uptoBulkAll] at h
    omega
  clear hA0 hA
  simp only [List.append_nil] at hW'
  refine (calls ha hr hb hl).mono fun e W' ⟨he, hbl⟩ => ?_
  subst he
  exact ⟨_, rfl, DM.post_of_below (pa := p) (pv := []) hW' (fun _ _ _ => trodAll_cons_mk (shut_bool Tryd.underlying4 _) trodAll_mk0)
    (fun sp hsp => trodAll_mk1 (DM.trod_stays (by kernel_rfl) (by kernel_rfl) (of_decide_eq_true (by kernel_rfl)) hd0 hbl (fun x hx => hW'.lt x hx) hsp)) (fun _ _ => rfl) (by simp)
    hbl (ok_one (by kernel_rfl) rfl (okWide_bool_mk Tryd.underlying4 _))⟩

/-- a world for the witness -/
noncomputable def laidWorld (os : Os) : World := DM.layWorld Tryd.prog 116 118 (World.holding Tryd.prog os ⟨#[], #[.slice none 0 0], []⟩) Rows.sexpPrintsUptoRow.laid
theorem laid_met (os : Os) : laidMet Tryd.prog Rows.sexpPrintsUptoRow.laid ((laidWorld os).forCall (fun _ _ => 0) ⟨#[], #[.slice none 0 0], []⟩).memory :=
  laidMet_of_run' 8 (by kernel_rfl) (by kernel_rfl)
theorem reads (os : Os) {H : Type} (enc : TypeId × Value → H) : ∃ places, DataW.whole enc Tryd.prog ((laidWorld os).forCall (fun _ _ => 0) ⟨#[], #[.slice none 0 0], []⟩).memory Tryd.f7.params.toList Rows.sexpPrintsSpec.vars false (#[.slice none 0 0] : Array Value).toList 8 = some ([.nil], [], places) :=
  ⟨[], by kernel_rfl⟩

set_option maxRecDepth 100000 in
theorem lifted (os : Os) (started : os.Started) (H : Type) (enc : TypeId × Value → H) (F : Stop.Interp) :
    ReturnsInHanded {} Tryd.checked os 7 .any ((Rows.OpenSpec.upto Rows.sexpPrintsSpec).preRow enc Tryd.prog Tryd.f7 Rows.sexpPrintsUptoRow.domain false Rows.sexpPrintsUptoRow.laid) (((Rows.OpenSpec.upto Rows.sexpPrintsSpec).at F).post enc Tryd.prog Tryd.f7 false true false false) := by
  obtain ⟨places, hx⟩ := reads os enc
  refine returnsInHanded_of_row (C := Tryd.checked) (s := Rows.OpenSpec.upto Rows.sexpPrintsSpec) own started (by kernel_rfl) Tryd.func7
    (witness_row_at (enc := enc) (C := Tryd.checked) false (laidWorld os) #[.slice none 0 0] (DM.layWorld_os _ _ _ _ _) (by kernel_rfl) (by kernel_rfl) (by kernel_rfl)
      (OpenSpec.preRow_of_cond 8 hx (by kernel_rfl) (fun k hk => by cases hk; kernel_rfl) (by kernel_rfl) (laid_met os))) ?_
  intro W base args ds gs before hval hW _ hcond _ hL _ _
  exact contract H enc W base args ds gs before hval hW hL (hcond _ rfl)

theorem said : Rows.SexpPrintsUptoSaid :=
  OpenClaim.holds_of_cond 7 Tryd.f7 rfl rfl rfl rfl rfl rfl rfl ⟨rfl, rfl, rfl, rfl, rfl⟩ rfl rfl rfl rfl rfl (by kernel_rfl) Tryd.func7 (by kernel_rfl)
    (of_decide_eq_true (by kernel_rfl)) (by unfold Func.isWrapper; first | (rw [if_pos (by decide +kernel)]; kernel_rfl) | (rw [if_neg (by decide +kernel)]; exact ⟨rfl, rfl⟩))
    (fun os started H enc _ F => by rw [OpenClaim.pre_eq_preRow]; exact lifted os started H enc F)

theorem plain (f : FuncId) (fn : Func) (hf : Tryd.pinned.checked.prog.funcNamed "dovetail/dovetaillaw03.SexpPrints" = some f) (hfn : Tryd.pinned.checked.prog.funcs[f]? = some fn) :
    true = Tryd.pinned.checked.prog.looks [] ∧ ∀ (j : Nat) t, fn.params[j]? = some t → Tryd.pinned.checked.prog.wantsStandIn t = false := by
  obtain rfl : f = 7 := Option.some.inj ((show Tryd.prog.funcNamed "dovetail/dovetaillaw03.SexpPrints" = some 7 by kernel_rfl).symm.trans hf) |>.symm
  obtain rfl : fn = Tryd.f7 := (Option.some.inj (Tryd.func7.symm.trans hfn)).symm
  refine ⟨by kernel_rfl, fun j t ht => ?_⟩
  rw [Tryd.params7] at ht
  cases j with
  | zero =>
    obtain rfl : t = 23 := by simpa using ht.symm
    kernel_rfl
  | succ j => simp at ht

/-- the card -/
theorem card : Rows.SexpPrintsUptoCardSaid :=
  Claim7.holds_tied_plain_at .later [] _ _ _ _ said (fun _ h => by cases h) (by kernel_rfl) (fun _ h => by cases h) sexpPrintsUpto_row_tie rfl ⟨rfl, rfl⟩ (by kernel_rfl) rfl plain (by kernel_rfl)
end Go.Proofs.YtmelajefpihaiaaDoor.prints
