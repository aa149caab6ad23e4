/- dovetaillaw20.ResolveCommons returns true at every call. Condition: none beyond the row's own. -/
import Derived.Test.YtjaekghlgndfiaaRows
import Derived.WalkKit
import Derived.ProofKit
import Derived.OpenShut
import Derived.Deep.DeepHandedRow
import Derived.Test.YtjaekghlgndfiaaOpenT
import Derived.Test.YtjaekghlgndfiaaLawT
import Derived.Test.YtjaekghlgndfiaaAnsT
import Derived.Test.YtjaekghlgndfiaaIterT
namespace Go.Proofs.Ytjaekghlgndfiaa.commons
open Go.ChangeShapes Go.WideShapes Go.ChangeAt Go.RowKit

theorem own : ownKnob Try.prog.godebug = none := by kernel_rfl
theorem cfgP : DM.RC.cfgC.P = Try.prog := rfl
theorem globs (k : DM.K) : DM.GlobOk DM.RC.cfgC k := fun g a h => by cases h
/-- the function by hand is the library's -/
theorem primsA {W : World} : DM.PrimOk DM.RC.cfgA W := by
  intro f g args σ σ' x k us hf hg hI _ hr
  show Calls Try.prog _ _ _ _
  have hf' : (if f = 9 then some (DM.sortedG 18) else none) = some g := hf
  split at hf'
  · rename_i e; subst e; cases hf'
    exact DM.sorted_prim (P := Try.prog) (g := 18) (c := 9) (K0 := 9) Try.underlying9
      (fun Bm b nn D w hBm hm hown => Go.Proofs.AnyZ.keys_gives (ρ := Try.keys10_ren) { Try.keys10 with } Fence.wide 2 trivial rfl (by omega) Bm b nn D w hBm hm hown)
      (fun lb S N w hN hNb hseq => Go.Proofs.AnyZ.sorted_in Try.sorted9 Fence.wide 5 trivial trivial trivial trivial rfl (by omega) (Try.sorts9 _) (enters_of Try.func17 (by kernel_rfl) rfl) 18 lb trivial (enters_of Try.func18 (by kernel_rfl) rfl) S N hN hNb w hseq)
      hg hI hr
  · cases hf'
theorem prims {W : World} : DM.PrimOk DM.RC.cfgC W := by
  have hA : DM.PrimsOk DM.RC.cfgA (fun _ => True) := fun w _ => primsA
  have hB : DM.PrimsOk DM.RC.cfgB (fun _ => True) := by
    refine DM.RC.addF_ok (fun _ _ _ _ => trivial) hA (fun _ _ h => by cases h) (fun lit x h => ?_)
    unfold DM.RC.alG at h
    split at h
    · cases h
      obtain ⟨σ1, h1⟩ := DM.RC.isTrue_inv DM.RC.alive
      exact ⟨⟨σ1, fun w _ k us hI hg hr => DM.call_good (DM.drOk DM.RC.orders) primsA 1000 _ _ _ _ _ k us h1 hI hg hr⟩, rfl, rfl, rfl⟩
    · cases h
  have hC : DM.PrimsOk DM.RC.cfgC (fun _ => True) := by
    refine DM.RC.addF_ok (fun _ _ _ _ => trivial) hB (fun _ _ h => by cases h) (fun lit x h => ?_)
    obtain ⟨a, s, rfl, rfl⟩ := DM.RC.lkG_inv h
    obtain ⟨σ1, h1⟩ := DM.RC.isTrue_inv (DM.RC.linkable a s)
    exact ⟨⟨σ1, fun w _ k us hI hg hr => DM.call_good (DM.drOk DM.RC.orders) (hB w trivial) 1000 _ _ _ _ _ k us h1 hI hg hr⟩, rfl, rfl, rfl⟩
  exact hC W trivial

section
variable {H : Type} (enc : TypeId × Value → H)
def DInt (x : Int) (d : DataW H) : Prop := d = .lit (.int .i64 x)
theorem oInt : DM.Opens enc Try.prog 3 (DM.rI .i64) DInt := DM.opens_int Try.underlying3 (by kernel_rfl)
theorem oInts : DM.Opens enc Try.prog 22 (DM.rL (DM.rI .i64)) (DM.SlD DInt) := DM.opens_slice Try.underlying22 (by kernel_rfl) (oInt enc)
theorem openInts {W : World} {sp : Nat → Bool} {held : Bool} {v : Value} {d : DataW H} {ps : List MemPlace} (hv : v.cells = #[v]) (h : DataW.Trod enc Try.prog W 0 sp held 22 v d ps) :
    ∃ (l : List Int) (a : DM.A), DM.Sl (DM.rI .i64) a l ∧ DM.Rel (DM.start W) a v := by
  obtain ⟨fuel, hf⟩ := h
  rw [hv] at hf
  obtain ⟨l, qs, ⟨a, rfl, ha⟩, hr, _⟩ := (oInts enc).run hf
  obtain ⟨u, us, hu, hr, hr2⟩ := hr.inv_cons
  obtain rfl := hr2.inv_nil
  cases hu
  exact ⟨l, a, ha, hr⟩
end

theorem calls {W : World} {xs ys : List Int} {a b : DM.A} {u v : Value} (ha : DM.Sl (DM.rI .i64) a xs) (hb : DM.Sl (DM.rI .i64) b ys) (hu : DM.Rel (DM.start W) a u) (hv : DM.Rel (DM.start W) b v) : Calls Try.prog 3 #[u, v] W fun e W' => e = .returned (.bool true) ∧ Below W.heap.size W W' := by
  have h := DM.calls_true' (C := DM.RC.cfgC) (w := W) DM.RC.orders prims (globs _) (DM.RelL.cons hu (DM.RelL.cons hv (DM.RelL.nil _))) (DM.RC.law_ca ha hb DM.RC.answers)
  rw [cfgP] at h
  exact h

set_option maxRecDepth 100000 in
theorem one_cell {W : World} {base : Nat} {v : Value} (h : Value.okWide Try.prog W .any base 22 v) : v.cells = #[v] := by
  unfold Value.okWide at h
  rw [Try.underlying22] at h
  unfold Cell.okWide Cell.ok at h
  rw [Try.underlying22] at h
  cases v <;> first | rfl | exact h.elim

set_option maxRecDepth 100000 in
theorem contract (H : Type) (enc : TypeId × Value → H) (W : World) (base : Nat) (args : Array Value) (ds gs : List (DataW H)) (before : List MemPlace)
    (hval : ∀ (j : Nat) t v, Try.f3.params[j]? = some t → args[j]? = some v → Value.okWide Try.prog W .any base t v)
    (hW : DataW.Whole enc Try.prog Try.f3.params.toList Rows.resolveCommonsSpec.vars false W args.toList ds gs before) :
    Calls Try.prog 3 args W fun e W' => ∃ v, e = .returned v ∧ Rows.resolveCommonsSpec.post enc Try.prog Try.f3 false true false false W args v W' := by
  have hW' := hW
  obtain ⟨p, q, hA0, hV, rfl, hfz, hnd⟩ := hW
  have hA : DataW.TrodAll enc Try.prog W 0 (fun _ => true) true Try.f3.params.toList args.toList ds p := hA0
  rw [Try.params3] at hA hval
  obtain ⟨v0, v1, d0, d1, p0, p1, rfl, rfl, rfl, hd0, hd1⟩ := trodAll_two hA
  obtain ⟨rfl, rfl⟩ := trodVars_none hV
  obtain ⟨xs, a, ha, ra⟩ := openInts enc (one_cell (hval 0 22 v0 rfl rfl)) hd0
  obtain ⟨ys, b, hb, rb⟩ := openInts enc (one_cell (hval 1 22 v1 rfl rfl)) hd1
  clear hA0 hA
  simp only [List.append_nil] at hW'
  refine (calls ha hb ra rb).mono fun e W' ⟨he, hbl⟩ => ?_
  subst he
  exact ⟨_, rfl, DM.post_of_below (pa := p0 ++ p1) (pv := []) hW' (fun _ _ _ => trodAll_cons_mk (shut_bool Try.underlying4 _) trodAll_mk0)
    (fun sp hsp => trodAll_mk2 (DM.trod_stays (by kernel_rfl) (by kernel_rfl) (of_decide_eq_true (by kernel_rfl)) hd0 hbl (fun x hx => hW'.lt x (by simp [hx])) (fun x hx => hsp x (by simp [hx])))
      (DM.trod_stays (by kernel_rfl) (by kernel_rfl) (of_decide_eq_true (by kernel_rfl)) hd1 hbl (fun x hx => hW'.lt x (by simp [hx])) (fun x hx => hsp x (by simp [hx])))) (fun _ _ => rfl) (by simp)
    hbl (ok_one (by kernel_rfl) rfl (okWide_bool_mk Try.underlying4 _))⟩

def args0 : Array Value := #[.slice none 0 0, .slice none 0 0]
/-- a world for the witness -/
noncomputable def laidWorld (os : Os) : World := DM.layWorld Try.prog 0 0 (World.holding Try.prog os ⟨#[], args0, []⟩) Rows.resolveCommonsRow.laid
theorem laid_met (os : Os) : laidMet Try.prog Rows.resolveCommonsRow.laid ((laidWorld os).forCall (fun _ _ => 0) ⟨#[], args0, []⟩).memory :=
  laidMet_of_run' 8 (by kernel_rfl) (by kernel_rfl)
theorem reads (os : Os) {H : Type} (enc : TypeId × Value → H) : ∃ places, DataW.whole enc Try.prog ((laidWorld os).forCall (fun _ _ => 0) ⟨#[], args0, []⟩).memory Try.f3.params.toList Rows.resolveCommonsSpec.vars false args0.toList 8 = some ([.nil, .nil], [], places) :=
  ⟨[], by kernel_rfl⟩

set_option maxRecDepth 100000 in
theorem lifted (os : Os) (started : os.Started) (H : Type) (enc : TypeId × Value → H) (F : Stop.Interp) :
    ReturnsInHanded {} Try.checked os 3 .any ((OpenSpec.ofChange Rows.resolveCommonsSpec).preRow enc Try.prog Try.f3 Rows.resolveCommonsRow.domain false Rows.resolveCommonsRow.laid) (((OpenSpec.ofChange Rows.resolveCommonsSpec).at F).post enc Try.prog Try.f3 false true false false) := by
  obtain ⟨places, hx⟩ := reads os enc
  refine returnsInHanded_of_row (C := Try.checked) (s := OpenSpec.ofChange Rows.resolveCommonsSpec) own started (by kernel_rfl) Try.func3
    (witness_row_at (enc := enc) (C := Try.checked) false (laidWorld os) args0 (DM.layWorld_os _ _ _ _ _) (by kernel_rfl) (by kernel_rfl) (by kernel_rfl)
      (OpenSpec.preRow_of_cond 8 hx (by kernel_rfl) (fun k hk => by cases hk) (by kernel_rfl) (laid_met os))) ?_
  intro W base args ds gs before hval hW _ _ _ _ _ _
  exact contract H enc W base args ds gs before hval hW

theorem said : Rows.ResolveCommonsSaid :=
  OpenClaim.holds_of_cond 3 Try.f3 rfl rfl rfl rfl rfl rfl rfl ⟨rfl, rfl, rfl, rfl, rfl⟩ rfl rfl rfl rfl rfl (by kernel_rfl) Try.func3 (by kernel_rfl)
    (of_decide_eq_true (by kernel_rfl)) (by unfold Func.isWrapper; first | (rw [if_pos (by decide +kernel)]; kernel_rfl) | (rw [if_neg (by decide +kernel)]; exact ⟨rfl, rfl⟩))
    (fun os started H enc _ F => by rw [OpenClaim.pre_eq_preRow]; exact lifted os started H enc F)
end Go.Proofs.Ytjaekghlgndfiaa.commons
