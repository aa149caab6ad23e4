/- What the functions by hand give is what the program's give; the states of the statement's objects; what Resolve's answer must be. No condition. -/
import Derived.Test.YtjaekghlgndfiaaSetT
namespace Go.DM.RC
open Go Go.Proofs Go.RowKit
/-- the greatest of the first numbers, as the code takes it -/
def mxf (f : Nat → Nat) : Nat → Int
  | 0 => (f 0 : Int)
  | n + 1 => if mxf f n < (f (n + 1) : Int) then (f (n + 1) : Int) else mxf f n
def obj (a s : Int) : List A := [i 0, nilS, .sl 6 (sym a s) .ex, nilS]
def objs (a s : Nat → Nat) : Nat → List A
  | 0 => []
  | n + 1 => objs a s n ++ obj (a n) (s n)
/-- rights to append behind n rounds -/
def apT : Nat → Ap
  | 0 => .ex
  | n + 1 => .gr n
def stT : Nat → St
  | 0 => σ0
  | 1 => σ0.tok 31
  | n + 2 => ((stT (n + 1)).untok n).tok 31
def rowsOk (σ : St) : Nat → List A → Bool
  | 0, [] => true
  | n + 1, .ms b o len _ :: r => Nat.blt b σ.next && Nat.beq o 0 && Nat.beq len 1 && (match σ.blks.get b with | some (.cells cs _) => beqs cs [i 0] | _ => false) && rowsOk σ n r
  | _, _ => false
def chk (n : Nat) : Option (Out × St) → Option (Int × Int)
  | some (.ret (.tup [.agg [.sl z [c, ob, sc, .v (.int ka va), .v (.int ks sz), ty] _ap, .sl y rs _ar], st, e]), σ) =>
    bif beqs [.sl z [c, ob, sc, .v (.int ka 0), .v (.int ks 0), ty] .no, st, e] [.sl 6 [str "c", i (-1), i (-3), i 0, i 0, i 0] .no, str "", i 0] && Nat.beq y 1 && rowsOk σ n rs then some (va, sz) else none
  | _ => none
theorem chk_inv {n : Nat} {r : Option (Out × St)} {va sz : Int} (h : chk n r = some (va, sz)) :
    ∃ rs ap ar σ', r = some (.ret (.tup [.agg [.sl 6 [str "c", i (-1), i (-3), i va, i sz, i 0] ap, .sl 1 rs ar], str "", i 0]), σ') ∧ rowsOk σ' n rs = true := by
  unfold chk at h
  split at h
  · rename_i z c ob sc ka va' ks sz' ty ap y rs ar st e σ'
    cases hb : (beqs [.sl z [c, ob, sc, .v (.int ka 0), .v (.int ks 0), ty] .no, st, e] [.sl 6 [str "c", i (-1), i (-3), i 0, i 0, i 0] .no, str "", i 0] && Nat.beq y 1 && rowsOk σ' n rs) with
    | false => rw [hb] at h; cases h
    | true =>
      rw [hb] at h
      cases h
      simp only [Bool.and_eq_true] at hb
      obtain ⟨⟨h1, h2⟩, h3⟩ := hb
      have e1 := beqs_eq _ _ h1
      have e2 := Nat.eq_of_beq_eq_true h2
      simp only [List.cons.injEq, A.sl.injEq, A.v.injEq, Value.int.injEq, and_true] at e1
      obtain ⟨⟨rfl, rfl, rfl, rfl, rfl, rfl, rfl⟩, rfl, rfl⟩ := e1
      subst e2
      exact ⟨rs, ap, ar, σ', rfl, h3⟩
  · cases h
theorem rows_get {σ : St} : ∀ {n : Nat} {l : List A}, rowsOk σ n l = true → l.length = n ∧ ∀ k (h : k < l.length), ∃ b cap e, l[k] = .ms b 0 1 cap ∧ b < σ.next ∧ σ.blks.get b = some (.cells [i 0] e)
  | 0, [], _ => ⟨rfl, fun k h => by simp at h⟩
  | 0, _ :: _, h => by simp [rowsOk] at h
  | n + 1, [], h => by simp [rowsOk] at h
  | n + 1, x :: r, h => by
    unfold rowsOk at h
    split at h
    · rename_i e1 e2; cases e1
    · rename_i m b o len cap r' e1 e2
      cases e1; cases e2
      simp only [Bool.and_eq_true] at h
      obtain ⟨⟨⟨⟨h0, h1⟩, h2⟩, h3⟩, h4⟩ := h
      obtain ⟨g1, g2⟩ := rows_get h4
      have e1 := Nat.eq_of_beq_eq_true h1
      have e2 := Nat.eq_of_beq_eq_true h2
      subst e1; subst e2
      refine ⟨by rw [List.length_cons, g1], fun k hk => ?_⟩
      cases k with
      | zero =>
        split at h3
        · rename_i cs e hg
          have := beqs_eq _ _ h3
          subst this
          exact ⟨b, cap, e, rfl, Nat.le_of_ble_eq_true h0, hg⟩
        · cases h3
      | succ k => exact g2 k (by simpa using hk)
    · cases h
/-- Resolve's answer for n objects -/
def Answers (n : Nat) (a s : Nat → Nat) : Prop := chk n (DM.call cfgC 1000 5 [.sl 4 (objs a s n) (apT n)] (stT n)) = some (mxf a (n - 1), mxf s (n - 1))
end Go.DM.RC
