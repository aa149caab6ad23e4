/- dovetaillaw20.ResolveOrder returns true at every list of objects of bulk at most 1048576 (its second form). -/
import Derived.Test.YtiidocaofjmomaaRows
import Derived.WalkKit
import Derived.ProofKit
import Derived.OpenShut
import Derived.Deep.DeepHandedRow
import Derived.LaidLaws
import Derived.Test.YtiidocaofjmomaaShelfT
import Derived.Test.YtiidocaofjmomaaIterT
import Derived.Test.YtiidocaofjmomaaLawV
namespace Go.Proofs.Ytiidocaofjmomaa.order
open Go.ChangeShapes Go.WideShapes Go.ChangeAt Go.RowKit

theorem own : ownKnob Try.prog.godebug = none := by kernel_rfl
theorem orders : DM.cfgW.P.follows .mixedOrders = true := by kernel_rfl
theorem cfgP : DM.cfgW.P = Try.prog := by unfold DM.cfgW DM.addR DM.cfg; rfl
theorem cfg0P : DM.cfg.P = Try.prog := by unfold DM.cfg; rfl
theorem globs (k : DM.K) : DM.GlobOk DM.cfgW k := fun g a h => by cases h
/-- the functions by hand are the library's -/
theorem prims0 {W : World} : DM.PrimOk DM.cfg W := by
  intro f g args σ σ' x k us hf hg hI _ hr
  rw [cfg0P]
  have hf' : (if f = 32 then some DM.containsG else if f = 12 then some (DM.sortedG 21) else none) = some g := hf
  split at hf'
  · rename_i e; subst e; cases hf'
    unfold DM.containsG at hg
    split at hg
    · rename_i σ1 s t
      obtain ⟨u1, us1, rfl, r1, hr1⟩ := hr.inv_cons
      obtain ⟨u2, us2, rfl, r2, hr2⟩ := hr1.inv_cons
      obtain rfl := hr2.inv_nil
      obtain rfl := DM.rel_v_inv r1
      obtain rfl := DM.rel_v_inv r2
      obtain ⟨b, hb, he⟩ := Option.map_eq_some_iff.1 hg
      cases he
      unfold DM.containsT at hb
      split at hb
      · rename_i c hc
        cases hb
        have ht : t = ⟨#[c]⟩ := by
          obtain ⟨⟨l⟩⟩ := t
          have : l = [c] := hc
          rw [this]
        subst ht
        exact DM.out_same hI rfl (Try.strings_Contains_one s c k.w)
      · cases hb
    · cases hg
  split at hf'
  · rename_i e; subst e; cases hf'
    exact DM.sorted_prim (P := Try.prog) (g := 21) (c := 12) (K0 := 9) Try.underlying9
      (fun Bm b nn D w hBm hm hown => Go.Proofs.AnyZ.keys_gives (ρ := Try.keys13_ren) { Try.keys13 with } Fence.wide 2 trivial rfl (by omega) Bm b nn D w hBm hm hown)
      (fun lb S N w hN hNb hseq => Go.Proofs.AnyZ.sorted_in Try.sorted12 Fence.wide 5 trivial trivial trivial trivial rfl (by omega) (Try.sorts12 _) (enters_of Try.func20 (by kernel_rfl) rfl) 21 lb trivial (enters_of Try.func21 (by kernel_rfl) rfl) S N hN hNb w hseq)
      hg hI hr
  · cases hf'
theorem prims {W : World} : DM.PrimOk DM.cfgW W := by
  have h0 : DM.PrimsOk DM.cfg (fun _ => True) := fun w _ => prims0
  have hm : DM.cfg.P.follows .mixedOrders = true := by kernel_rfl
  have hG : ∀ w w' : World, (fun _ : World => True) w → Below w.heap.size w w' → (fun _ : World => True) w' := fun _ _ _ _ => trivial
  have h1 := DM.addR_ok (C := DM.cfg) (D := DM.cfg) rfl hm hG h0 h0 (fun _ => rfl) 9
  have h2 := DM.addR_ok (C := DM.addR DM.cfg DM.cfg 9) (D := DM.cfg) rfl hm hG h1 h0 (fun _ => rfl) 5
  have h3 := DM.addR_ok (C := DM.addR (DM.addR DM.cfg DM.cfg 9) DM.cfg 5) (D := DM.cfg) rfl hm hG h2 h0 (fun _ => rfl) 8
  have h4 := DM.addR_ok (C := DM.addR (DM.addR (DM.addR DM.cfg DM.cfg 9) DM.cfg 5) DM.cfg 8) (D := DM.cfg) rfl hm hG h3 h0 (fun _ => rfl) 6
  have h5 := DM.addR_ok (C := DM.addR (DM.addR (DM.addR (DM.addR DM.cfg DM.cfg 9) DM.cfg 5) DM.cfg 8) DM.cfg 6) (D := DM.cfg) rfl hm hG h4 h0 (fun _ => rfl) 10
  have h6 := DM.addR_ok (C := DM.addR (DM.addR (DM.addR (DM.addR (DM.addR DM.cfg DM.cfg 9) DM.cfg 5) DM.cfg 8) DM.cfg 6) DM.cfg 10) (D := DM.cfg) rfl hm hG h5 h0 (fun _ => rfl) 16
  have h7 := DM.addR_ok (C := DM.addR (DM.addR (DM.addR (DM.addR (DM.addR (DM.addR DM.cfg DM.cfg 9) DM.cfg 5) DM.cfg 8) DM.cfg 6) DM.cfg 10) DM.cfg 16) (D := DM.cfg) rfl hm hG h6 h0 (fun _ => rfl) 4
  exact h7 W trivial

/-! how much the argument is -/
section
variable {H : Type}
theorem bulk_pos : ∀ d : DataW H, 1 ≤ Rows.uptoBulk d
  | .lit (.string _) => by simp [Rows.uptoBulk]
  | .lit (.int _ _) => by simp [Rows.uptoBulk]
  | .lit (.bool _) => by simp [Rows.uptoBulk]
  | .lit (.float _ _) => by simp [Rows.uptoBulk]
  | .lit .nil => by simp [Rows.uptoBulk]
  | .nil => by simp [Rows.uptoBulk]
  | .ptr _ => by simp [Rows.uptoBulk]
  | .slice _ _ => by simp [Rows.uptoBulk]
  | .agg _ => by simp [Rows.uptoBulk]
  | .iface _ _ => by simp [Rows.uptoBulk]
  | .map _ => by simp [Rows.uptoBulk]
  | .held _ => by simp [Rows.uptoBulk]
theorem len_all {α : Type} {D : α → DataW H → Prop} : ∀ {l : List α} {es : List (DataW H)}, DM.All2 D l es → l.length ≤ Rows.uptoBulkAll es
  | _, _, .nil => by simp
  | _, _, .cons (y := y) _ g => by
    have := len_all g
    have := bulk_pos y
    simp only [Rows.uptoBulkAll, List.length_cons]; omega
theorem mem_all {α : Type} {D : α → DataW H → Prop} : ∀ {l : List α} {es : List (DataW H)}, DM.All2 D l es → ∀ x ∈ l, ∃ e, D x e ∧ Rows.uptoBulk e ≤ Rows.uptoBulkAll es
  | _, _, .nil, _, h => by cases h
  | _, _, .cons (y := y) hx g, z, h => by
    simp only [Rows.uptoBulkAll]
    rcases List.mem_cons.1 h with rfl | h
    · exact ⟨y, hx, by omega⟩
    · obtain ⟨e, h1, h2⟩ := mem_all g z h
      exact ⟨e, h1, by omega⟩
theorem len_sl {α : Type} {D : α → DataW H → Prop} {l : List α} {d : DataW H} (h : DM.SlD D l d) : l.length ≤ Rows.uptoBulk d := by
  rcases h with ⟨rfl, rfl⟩ | ⟨es, rest, rfl, h⟩
  · simp
  · have := len_all h
    simp only [Rows.uptoBulk]; omega
theorem mem_sl {α : Type} {D : α → DataW H → Prop} {l : List α} {d : DataW H} (h : DM.SlD D l d) (x : α) (hx : x ∈ l) : ∃ e, D x e ∧ Rows.uptoBulk e ≤ Rows.uptoBulk d := by
  rcases h with ⟨rfl, rfl⟩ | ⟨es, rest, rfl, h⟩
  · cases hx
  · obtain ⟨e, h1, h2⟩ := mem_all h x hx
    exact ⟨e, h1, by simp only [Rows.uptoBulk]; omega⟩
end
/-! what the argument is read as -/
section
variable {H : Type} (enc : TypeId × Value → H)
def DInt (x : Int) (d : DataW H) : Prop := d = .lit (.int .i64 x)
def DStr (s : ByteArray) (d : DataW H) : Prop := d = .lit (.string s.data.toList)
def DByte (x : Int) (d : DataW H) : Prop := d = .lit (.int .u8 x)
def DSec (x : DM.TSec) (d : DataW H) : Prop := x.f_Data.length ≤ Rows.uptoBulk d
def DSym (x : DM.TSym) (d : DataW H) : Prop := x.f_Name.size ≤ Rows.uptoBulk d
def DRel (_ : DM.TReloc) (_ : DataW H) : Prop := True
def DObj (x : DM.TObj) (d : DataW H) : Prop := ∃ m d1 d2 d3, d = .agg [m, d1, d2, d3] ∧ DM.SlD DSec x.f_Secs d1 ∧ DM.SlD DSym x.f_Syms d2 ∧ DM.SlD DRel x.f_Rels d3
theorem oInt : DM.Opens enc Try.prog 3 (DM.rI .i64) DInt := DM.opens_int Try.underlying3 (by kernel_rfl)
theorem oByte : DM.Opens enc Try.prog 5 (DM.rI .u8) DByte := DM.opens_int Try.underlying5 (by kernel_rfl)
theorem oStr : DM.Opens enc Try.prog 9 DM.rS DStr := DM.opens_string Try.underlying9 (by kernel_rfl)
theorem oBytes : DM.Opens enc Try.prog 44 (DM.rL (DM.rI .u8)) (DM.SlD DByte) := DM.opens_slice Try.underlying44 (by kernel_rfl) (oByte enc)
theorem oSec : DM.Opens enc Try.prog 46 DM.rTSec DSec :=
  DM.opens_struct (fun (y : ByteArray × Int × Int × Int × Int × List Int × Unit) => DM.TSec.mk y.1 y.2.1 y.2.2.1 y.2.2.2.1 y.2.2.2.2.1 y.2.2.2.2.2.1) (by kernel_rfl) Try.underlying46
    (DM.opensFs_cons rfl (oStr enc) (DM.opensFs_cons rfl (oInt enc) (DM.opensFs_cons rfl (oInt enc) (DM.opensFs_cons rfl (oInt enc) (DM.opensFs_cons rfl (oInt enc) (DM.opensFs_cons rfl (oBytes enc) DM.opensFs_nil))))))
    (by rintro ⟨a, b, c, d, e, f, u⟩ qs ⟨c0, r0, rfl, rfl, c1, r1, rfl, rfl, c2, r2, rfl, rfl, c3, r3, rfl, rfl, c4, r4, rfl, rfl, c5, r5, rfl, ⟨a5, rfl, h5⟩, rfl⟩; exact ⟨a5, rfl, h5⟩)
    (by
      rintro ⟨a, b, c, d, e, f, u⟩ ds ⟨d0, e0, rfl, _, d1, e1, rfl, _, d2, e2, rfl, _, d3, e3, rfl, _, d4, e4, rfl, _, d5, e5, rfl, h5, rfl⟩
      have : f.length ≤ Rows.uptoBulk d5 := len_sl h5
      show f.length ≤ _
      simp only [Rows.uptoBulk, Rows.uptoBulkAll]; omega)
theorem oSym : DM.Opens enc Try.prog 31 DM.rTSym DSym :=
  DM.opens_struct (fun (y : ByteArray × Int × Int × Int × Int × Int × Unit) => DM.TSym.mk y.1 y.2.1 y.2.2.1 y.2.2.2.1 y.2.2.2.2.1 y.2.2.2.2.2.1) (by kernel_rfl) Try.underlying31
    (DM.opensFs_cons rfl (oStr enc) (DM.opensFs_cons rfl (oInt enc) (DM.opensFs_cons rfl (oInt enc) (DM.opensFs_cons rfl (oInt enc) (DM.opensFs_cons rfl (oInt enc) (DM.opensFs_cons rfl (oInt enc) DM.opensFs_nil))))))
    (by rintro ⟨a, b, c, d, e, f, u⟩ qs ⟨c0, r0, rfl, rfl, c1, r1, rfl, rfl, c2, r2, rfl, rfl, c3, r3, rfl, rfl, c4, r4, rfl, rfl, c5, r5, rfl, rfl, rfl⟩; rfl)
    (by
      rintro ⟨a, b, c, d, e, f, u⟩ ds ⟨d0, e0, rfl, h0, d1, e1, rfl, _, d2, e2, rfl, _, d3, e3, rfl, _, d4, e4, rfl, _, d5, e5, rfl, _, rfl⟩
      have hz : a.data.toList.length = a.size := Array.length_toList
      have h0' : d0 = .lit (.string a.data.toList) := h0
      subst h0'
      show a.size ≤ _
      simp only [Rows.uptoBulk, Rows.uptoBulkAll]; omega)
theorem oRel : DM.Opens enc Try.prog 72 DM.rTReloc DRel :=
  DM.opens_struct (fun (y : Int × Int × Int × Int × Int × Unit) => DM.TReloc.mk y.1 y.2.1 y.2.2.1 y.2.2.2.1 y.2.2.2.2.1) (by kernel_rfl) Try.underlying72
    (DM.opensFs_cons rfl (oInt enc) (DM.opensFs_cons rfl (oInt enc) (DM.opensFs_cons rfl (oInt enc) (DM.opensFs_cons rfl (oInt enc) (DM.opensFs_cons rfl (oInt enc) DM.opensFs_nil)))))
    (by rintro ⟨a, b, c, d, e, u⟩ qs ⟨c0, r0, rfl, rfl, c1, r1, rfl, rfl, c2, r2, rfl, rfl, c3, r3, rfl, rfl, c4, r4, rfl, rfl, rfl⟩; rfl)
    (fun _ _ _ => trivial)
theorem oSecs : DM.Opens enc Try.prog 25 (DM.rL DM.rTSec) (DM.SlD DSec) := DM.opens_slice Try.underlying25 (by kernel_rfl) (oSec enc)
theorem oSyms : DM.Opens enc Try.prog 26 (DM.rL DM.rTSym) (DM.SlD DSym) := DM.opens_slice Try.underlying26 (by kernel_rfl) (oSym enc)
theorem oRels : DM.Opens enc Try.prog 27 (DM.rL DM.rTReloc) (DM.SlD DRel) := DM.opens_slice Try.underlying27 (by kernel_rfl) (oRel enc)
theorem oObj : DM.Opens enc Try.prog 29 DM.rTObj DObj :=
  DM.opens_struct (fun (y : Int × List DM.TSec × List DM.TSym × List DM.TReloc × Unit) => DM.TObj.mk y.1 y.2.1 y.2.2.1 y.2.2.2.1) (by kernel_rfl) Try.underlying29
    (DM.opensFs_cons rfl (oInt enc) (DM.opensFs_cons rfl (oSecs enc) (DM.opensFs_cons rfl (oSyms enc) (DM.opensFs_cons rfl (oRels enc) DM.opensFs_nil))))
    (by rintro ⟨a, b, c, d, u⟩ qs ⟨c0, r0, rfl, rfl, c1, r1, rfl, ⟨a1, rfl, h1⟩, c2, r2, rfl, ⟨a2, rfl, h2⟩, c3, r3, rfl, ⟨a3, rfl, h3⟩, rfl⟩; exact ⟨a1, a2, a3, rfl, h1, h2, h3⟩)
    (by rintro ⟨a, b, c, d, u⟩ ds ⟨d0, e0, rfl, _, d1, e1, rfl, h1, d2, e2, rfl, h2, d3, e3, rfl, h3, rfl⟩; exact ⟨d0, d1, d2, d3, rfl, h1, h2, h3⟩)
theorem oArg : DM.Opens enc Try.prog 22 (DM.rL DM.rTObj) (DM.SlD DObj) := DM.opens_slice Try.underlying22 (by kernel_rfl) (oObj enc)
end
theorem obj_mod {H : Type} {x : DM.TObj} {d : DataW H} (h : DObj x d) (hb : Rows.uptoBulk d ≤ 1048576) : DM.Mod x ∧ x.f_Syms.length ≤ Rows.uptoBulk d ∧ ∀ s ∈ x.f_Syms, s.f_Name.size ≤ 4000000 := by
  obtain ⟨m, d1, d2, d3, rfl, h1, h2, h3⟩ := h
  simp only [Rows.uptoBulk, Rows.uptoBulkAll] at hb ⊢
  have g1 := len_sl h1
  have g2 := len_sl h2
  have g3 := len_sl h3
  refine ⟨⟨by omega, by omega, by omega, fun s hs => ?_⟩, by omega, fun s hs => ?_⟩
  · obtain ⟨e, k1, k2⟩ := mem_sl h1 s hs
    have : s.f_Data.length ≤ Rows.uptoBulk e := k1
    omega
  · obtain ⟨e, k1, k2⟩ := mem_sl h2 s hs
    have : s.f_Name.size ≤ Rows.uptoBulk e := k1
    omega
theorem cnt_all {H : Type} : ∀ {l : List DM.TObj} {es : List (DataW H)}, DM.All2 DObj l es → Rows.uptoBulkAll es ≤ 1048576 → DM.cntS l ≤ Rows.uptoBulkAll es
  | _, _, .nil, _ => by simp [DM.cntS]
  | _, _, .cons (y := y) hx g, hb => by
    simp only [Rows.uptoBulkAll] at hb ⊢
    have h1 := cnt_all g (by omega)
    have h2 := (obj_mod hx (by omega)).2.1
    simp only [DM.cntS]; omega

theorem calls {W : World} {l : List DM.TObj} {a : DM.A} {v : Value} (ha : DM.Sl DM.rTObj a l) (hr : DM.Rel (DM.start W) a v) (hl : l.length ≤ 2000000) (hmod : ∀ o ∈ l, DM.Mod o) (hsz : DM.cntS l ≤ 2000000) (hnz : ∀ o ∈ l, ∀ s ∈ o.f_Syms, s.f_Name.size ≤ 4000000) :
    Calls Try.prog 3 #[v] W fun e W' => e = .returned (.bool true) ∧ Below W.heap.size W W' := by
  have h := DM.calls_true' (C := DM.cfgW) (w := W) orders prims (globs _) (DM.RelL.cons hr (DM.RelL.nil _)) (DM.law_ca ha hl hmod hsz hnz)
  rw [cfgP] at h
  exact h

set_option maxRecDepth 100000 in
theorem contract (H : Type) (enc : TypeId × Value → H) (W : World) (base : Nat) (args : Array Value) (ds gs : List (DataW H)) (before : List MemPlace)
    (hval : ∀ (j : Nat) t v, Try.f3.params[j]? = some t → args[j]? = some v → Value.okWide Try.prog W .any base t v)
    (hW : DataW.Whole enc Try.prog Try.f3.params.toList Rows.resolveOrderSpec.vars false W args.toList ds gs before) (hk : Rows.uptoSmall H (ds ++ gs) = true) :
    Calls Try.prog 3 args W fun e W' => ∃ v, e = .returned v ∧ Rows.resolveOrderSpec.post enc Try.prog Try.f3 false true false false W args v W' := by
  have hW' := hW
  obtain ⟨p, q, hA0, hV, rfl, hfz, hnd⟩ := hW
  have hA : DataW.TrodAll enc Try.prog W 0 (fun _ => true) true Try.f3.params.toList args.toList ds p := hA0
  rw [Try.params3] at hA hval
  obtain ⟨v0, d0, rfl, rfl, hd0⟩ := trodAll_one hA
  obtain ⟨rfl, rfl⟩ := trodVars_none hV
  have hv0 : v0.cells = #[v0] := by
    have h := hval 0 22 v0 rfl rfl
    unfold Value.okWide at h
    rw [Try.underlying22] at h
    unfold Cell.okWide Cell.ok at h
    rw [Try.underlying22] at h
    cases v0 <;> first | rfl | exact h.elim
  have hd1 := hd0
  obtain ⟨fuel, hf⟩ := hd1
  rw [hv0] at hf
  obtain ⟨l, qs, ⟨a, rfl, ha⟩, hr, hD⟩ := (oArg enc).run hf
  obtain ⟨u, us, hu, hr, hr2⟩ := hr.inv_cons
  obtain rfl := hr2.inv_nil
  cases hu
  have hb : l.length ≤ 2000000 ∧ (∀ o ∈ l, DM.Mod o) ∧ DM.cntS l ≤ 2000000 ∧ ∀ o ∈ l, ∀ s ∈ o.f_Syms, s.f_Name.size ≤ 4000000 := by
    have h := of_decide_eq_true hk
    simp only [List.append_nil, Rows.uptoBulkAll] at h
    have g1 := len_sl hD
    refine ⟨by omega, fun o ho => ?_, ?_, fun o ho => ?_⟩
    · obtain ⟨e, k1, k2⟩ := mem_sl hD o ho
      exact (obj_mod k1 (by omega)).1
    · rcases hD with ⟨rfl, rfl⟩ | ⟨es, rest, rfl, h2⟩
      · simp [DM.cntS]
      · simp only [Rows.uptoBulk] at h
        have := cnt_all h2 (by omega)
        omega
    · obtain ⟨e, k1, k2⟩ := mem_sl hD o ho
      exact (obj_mod k1 (by omega)).2.2
  clear hA0 hA
  simp only [List.append_nil] at hW'
  refine (calls ha hr hb.1 hb.2.1 hb.2.2.1 hb.2.2.2).mono fun e W' ⟨he, hbl⟩ => ?_
  subst he
  exact ⟨_, rfl, DM.post_of_below (pa := p) (pv := []) hW' (fun _ _ _ => trodAll_cons_mk (shut_bool Try.underlying4 _) trodAll_mk0)
    (fun sp hsp => trodAll_mk1 (DM.trod_stays (by kernel_rfl) (by kernel_rfl) (of_decide_eq_true (by kernel_rfl)) hd0 hbl (fun x hx => hW'.lt x hx) hsp)) (fun _ _ => rfl) (by simp)
    hbl (ok_one (by kernel_rfl) rfl (okWide_bool_mk Try.underlying4 _))⟩

/-- a world for the witness -/
noncomputable def laidWorld (os : Os) : World := DM.layWorld Try.prog 0 0 (World.holding Try.prog os ⟨#[], #[.slice none 0 0], []⟩) Rows.resolveOrderUptoRow.laid
theorem laid_met (os : Os) : laidMet Try.prog Rows.resolveOrderUptoRow.laid ((laidWorld os).forCall (fun _ _ => 0) ⟨#[], #[.slice none 0 0], []⟩).memory :=
  laidMet_of_run' 8 (by kernel_rfl) (by kernel_rfl)
theorem reads (os : Os) {H : Type} (enc : TypeId × Value → H) : ∃ places, DataW.whole enc Try.prog ((laidWorld os).forCall (fun _ _ => 0) ⟨#[], #[.slice none 0 0], []⟩).memory Try.f3.params.toList Rows.resolveOrderSpec.vars false (#[.slice none 0 0] : Array Value).toList 8 = some ([.nil], [], places) :=
  ⟨[], by kernel_rfl⟩

set_option maxRecDepth 100000 in
theorem lifted (os : Os) (started : os.Started) (H : Type) (enc : TypeId × Value → H) (F : Stop.Interp) :
    ReturnsInHanded {} Try.checked os 3 .any ((Rows.OpenSpec.upto Rows.resolveOrderSpec).preRow enc Try.prog Try.f3 Rows.resolveOrderUptoRow.domain false Rows.resolveOrderUptoRow.laid) (((Rows.OpenSpec.upto Rows.resolveOrderSpec).at F).post enc Try.prog Try.f3 false true false false) := by
  obtain ⟨places, hx⟩ := reads os enc
  refine returnsInHanded_of_row (C := Try.checked) (s := Rows.OpenSpec.upto Rows.resolveOrderSpec) own started (by kernel_rfl) Try.func3
    (witness_row_at (enc := enc) (C := Try.checked) false (laidWorld os) #[.slice none 0 0] (DM.layWorld_os _ _ _ _ _) (by kernel_rfl) (by kernel_rfl) (by kernel_rfl)
      (OpenSpec.preRow_of_cond 8 hx (by kernel_rfl) (fun k hk => by cases hk; kernel_rfl) (by kernel_rfl) (laid_met os))) ?_
  intro W base args ds gs before hval hW _ hcond _ _ _ _
  exact contract H enc W base args ds gs before hval hW (hcond _ rfl)

theorem said : Rows.ResolveOrderUptoSaid :=
  OpenClaim.holds_of_cond 3 Try.f3 rfl rfl rfl rfl rfl rfl rfl ⟨rfl, rfl, rfl, rfl, rfl⟩ rfl rfl rfl rfl rfl (by kernel_rfl) Try.func3 (by kernel_rfl)
    (of_decide_eq_true (by kernel_rfl)) (by unfold Func.isWrapper; first | (rw [if_pos (by decide +kernel)]; kernel_rfl) | (rw [if_neg (by decide +kernel)]; exact ⟨rfl, rfl⟩))
    (fun os started H enc _ F => by rw [OpenClaim.pre_eq_preRow]; exact lifted os started H enc F)
end Go.Proofs.Ytiidocaofjmomaa.order
