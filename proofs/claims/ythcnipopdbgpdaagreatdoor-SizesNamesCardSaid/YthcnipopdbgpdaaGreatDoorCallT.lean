/- A call known at one place stands for itself there. No condition. -/
import Derived.Test.YthcnipopdbgpdaaGreatDoorFmC
namespace Go.DM.FM
open Go Go.RowKit
noncomputable section
def G5 (T : Ck) (kb kt : List Nat) (callF : CallF) : CallF := fun f args σ => bif Nat.beq f T.f && (beqs args T.args && stB (gcS kb kt σ) T.σ) then some (.ret T.x, T.σ') else callF f args σ
section
variable {C : Cfg} {w0 : World} {callF callG : CallF}
theorem Oh {T : Ck} (kb kt : List Nat) (hT : CallPt C w0 T.f T.args T.σ (.ret T.x) T.σ') (hc : Bo C w0 callF) : Bo C w0 (G5 T kb kt callF) := by
  intro f args σ out σ' k us h hI hg hr
  unfold G5 at h
  cases hb : Nat.beq f T.f && (beqs args T.args && stB (gcS kb kt σ) T.σ) with
  | false => rw [hb] at h; exact hc f args σ out σ' k us h hI hg hr
  | true =>
    rw [hb] at h
    simp only [Bool.and_eq_true] at hb
    cases h
    have e1 := Nat.eq_of_beq_eq_true hb.1
    have e2 := beqs_eq _ _ hb.2.1
    have e3 := stB_eq hb.2.2
    subst e1; subst e2
    obtain ⟨g1, g2⟩ := hI.gc (Py kb kt σ)
    rw [e3] at g1 g2
    refine (hT (k.keep T.σ) us g1 (hg.mono g2) (hr.mono g2)).mono (fun e w' he => ?_)
    obtain ⟨k', v, h1, h2, h3, h4, h5⟩ := he
    exact ⟨k', v, h1, h2, g2.trans h3, h4, h5⟩
theorem Oi {T : Ck} (kb kt : List Nat) (h : callF.le callG) : CallF.le (G5 T kb kt callF) (G5 T kb kt callG) := by
  intro f args σ r hr
  unfold G5 at hr ⊢
  cases hb : Nat.beq f T.f && (beqs args T.args && stB (gcS kb kt σ) T.σ) with
  | false => rw [hb] at hr; exact h _ _ _ _ hr
  | true => rw [hb] at hr; exact hr
end
end
end Go.DM.FM
