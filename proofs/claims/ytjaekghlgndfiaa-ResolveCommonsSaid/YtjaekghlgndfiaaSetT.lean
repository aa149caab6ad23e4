/- The setting of dovetaillaw20.ResolveCommons' run: the example, linkable and slices.Sorted by hand; the objects that the statement makes. No condition. -/
import Derived.Test.YtjaekghlgndfiaaSortT
import Derived.Test.YtjaekghlgndfiaaDmF
import Derived.Test.YtjaekghlgndfiaaProg
namespace Go.DM.RC
open Go Go.Proofs Go.RowKit
section
variable {w0 : World} {σ : St} {k : K}
/-- one more function by hand: a function of the data without rights to append -/
def addF (C : Cfg) (f : FuncId) (g : List A → Option A) : Cfg := { C with prim := fun h => bif Nat.beq h f then some (fun args σ => (g (stripL args)).map fun x => (x, σ)) else C.prim h }
theorem addF_ok {C : Cfg} {G : World → Prop} (hG : ∀ w w', G w → Below w.heap.size w w' → G w') (hp : PrimsOk C G) (hgp : ∀ g a, C.glob g = some a → pureA a = true) {f : FuncId} {g : List A → Option A}
    (h : ∀ lit x, g lit = some x → (∃ σ1, ∀ w, G w → CallPt C w f lit σ0 (.ret x) σ1) ∧ pureL lit = true ∧ pureA (strip x) = true ∧ strip x = x) : PrimsOk (addF C f g) G := by
  intro w hw f' g' args σ σ' y k us hf hg hI hgl hr
  simp only [addF] at hf
  cases hb : Nat.beq f' f with
  | false =>
    rw [hb] at hf
    exact hp w hw f' g' args σ σ' y k us hf hg hI hgl hr
  | true =>
    rw [hb] at hf
    have e1 := Nat.eq_of_beq_eq_true hb
    subst e1
    cases hf
    have hg : (g (stripL args)).map (fun x => (x, σ)) = some (y, σ') := hg
    cases hq : g (stripL args) with
    | none => rw [hq] at hg; cases hg
    | some x =>
      rw [hq] at hg
      cases hg
      obtain ⟨⟨σ1, h1⟩, h2, h3, h4⟩ := h _ _ hq
      have := closed_pt (C := C) (σ := σ) hI hgl hgp (h1 k.w (hG w k.w hw hI.below)) h2 h3 hr
      rw [h4] at this
      exact this
end
theorem isTrue_inv {r : Option (Out × St)} (h : DM.isTrue r = true) : ∃ σ1, r = some (.ret (.v (.bool true)), σ1) := by
  unfold DM.isTrue at h
  split at h
  · exact ⟨_, rfl⟩
  · cases h
abbrev i (n : Int) : A := .v (.int .i64 n)
def str (s : String) : A := .v (.string s.toUTF8)
noncomputable def cfgA : Cfg := { P := Try.prog, glob := fun _ => none, prim := fun f => if f = 9 then some (DM.sortedG 18) else none }
def alG : List A → Option A
  | [] => some (.v (.bool true))
  | _ => none
noncomputable def cfgB : Cfg := addF cfgA 4 alG
def sym (a s : Int) : List A := [str "c", i 1, i 0, i (-3), i a, i s]
def lit (a s : Int) : List A := [.agg [i 0, nilS, .sl 6 (sym a s) .no, nilS]]
def lkG : List A → Option A
  | [.agg [m, se, .sl z [nm, b, ty, sc, .v (.int ka (.ofNat _x)), .v (.int kb (.ofNat _y))] ap, re]] => bif beqs [.agg [m, se, .sl z [nm, b, ty, sc, .v (.int ka 0), .v (.int kb 0)] ap, re]] (lit 0 0) then some (.v (.bool true)) else none
  | _ => none
noncomputable def cfgC : Cfg := addF cfgB 6 lkG
theorem lkG_inv {l : List A} {x : A} (h : lkG l = some x) : ∃ a s : Nat, l = lit a s ∧ x = .v (.bool true) := by
  unfold lkG at h
  split at h
  · rename_i m se z nm b ty sc ka a kb s ap re
    cases hb : beqs [.agg [m, se, .sl z [nm, b, ty, sc, .v (.int ka 0), .v (.int kb 0)] ap, re]] (lit 0 0) with
    | false => rw [hb] at h; cases h
    | true =>
      rw [hb] at h
      cases h
      have e := beqs_eq _ _ hb
      simp only [lit, sym, List.cons.injEq, A.agg.injEq, A.sl.injEq, A.v.injEq, Value.int.injEq, and_true] at e
      obtain ⟨rfl, rfl, ⟨rfl, ⟨rfl, rfl, rfl, rfl, rfl, rfl⟩, rfl⟩, rfl⟩ := e
      exact ⟨a, s, rfl, rfl⟩
  · cases h
theorem orders : Try.prog.follows .mixedOrders = true := by kernel_rfl
set_option maxRecDepth 1000000 in
theorem alive : DM.isTrue (DM.call cfgA 1000 4 [] DM.σ0) = true := by kernel_rfl
set_option maxRecDepth 1000000 in
theorem linkable (a s : Nat) : DM.isTrue (DM.call cfgB 1000 6 (lit a s) DM.σ0) = true := by
  cases a <;> cases s <;> kernel_rfl
end Go.DM.RC
