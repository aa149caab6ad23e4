/- This text proves the D-machine's runs sound against the model's calls. Condition: the program follows the open orders. -/
import Derived.Test.YtiidocaofjmomaaDmC
import Derived.Recover
import Derived.Tactics
import Derived.LoopN
import Derived.Orders
import Derived.Below
import Derived.ChangeSame
import Derived.Lib.LaidTab
import Derived.Stop.LaidErr
namespace Go.DM
open Go Go.RowKit

def GlobOk (C : Cfg) (k : K) : Prop := ∀ g a, C.glob g = some a → Rel k a (.pointer (some ⟨g, 0, none⟩))
theorem GlobOk.mono0 {C : Cfg} {k k' : K} (h : k.le0 k') (hg : GlobOk C k) : GlobOk C k' := fun g a e => (hg g a e).mono0 h

theorem GlobOk.mono {C : Cfg} {k k' : K} (h : k.le k') (hg : GlobOk C k) : GlobOk C k' := GlobOk.mono0 h.toLe0 hg
/-- the deferred calls -/
def DsRel (k : K) (xs : List (FuncId × List A)) (ds : List Deferred) : Prop := xs.length = ds.length ∧ ∀ (j : Nat) (x : FuncId × List A) (d : Deferred), xs[j]? = some x → ds[j]? = some d → DefRel k x d
theorem DsRel.mono0 {k k' : K} (h : k.le0 k') {xs : List (FuncId × List A)} {ds : List Deferred} (hr : DsRel k xs ds) : DsRel k' xs ds := ⟨hr.1, fun j x d a b => (hr.2 j x d a b).mono0 h⟩
theorem DsRel.mono {k k' : K} (h : k.le k') {xs : List (FuncId × List A)} {ds : List Deferred} (hr : DsRel k xs ds) : DsRel k' xs ds := DsRel.mono0 h.toLe0 hr
theorem DsRel.cons {k : K} {x : FuncId × List A} {d : Deferred} {xs : List (FuncId × List A)} {ds : List Deferred} (h : DefRel k x d) (hr : DsRel k xs ds) : DsRel k (x :: xs) (d :: ds) :=
  ⟨by simp [hr.1], fun j y e hy he => by
    cases j with
    | zero => simp at hy he; subst hy; subst he; exact h
    | succ j => exact hr.2 j y e (by simpa using hy) (by simpa using he)⟩
theorem DsRel.inv_cons {k : K} {x : FuncId × List A} {xs : List (FuncId × List A)} {ds : List Deferred} (hr : DsRel k (x :: xs) ds) : ∃ d ds', ds = d :: ds' ∧ DefRel k x d ∧ DsRel k xs ds' := by
  match ds, hr with
  | d :: ds', hr => exact ⟨d, ds', rfl, hr.2 0 x d rfl rfl, by simpa using hr.1, fun j y e hy he => hr.2 (j + 1) y e (by simpa using hy) (by simpa using he)⟩
theorem DsRel.inv_nil {k : K} {ds : List Deferred} (hr : DsRel k [] ds) : ds = [] := List.eq_nil_of_length_eq_zero (by simpa using hr.1.symm)

/-- a frame stands for an act -/
structure FrRel (k : K) (n : Nat) (φ : Fr) (a : Act) : Prop where
  size : a.tmps.size = n
  slot : ∀ t, Rel k (φ.at t) (a.tmps.getD t undef)
  ds : DsRel k φ.ds a.defers

theorem FrRel.mono0 {k k' : K} (h : k.le0 k') {n : Nat} {φ : Fr} {a : Act} (hr : FrRel k n φ a) : FrRel k' n φ a :=
  ⟨hr.size, fun t => (hr.slot t).mono0 h, hr.ds.mono0 h⟩

theorem FrRel.mono {k k' : K} (h : k.le k') {n : Nat} {φ : Fr} {a : Act} (hr : FrRel k n φ a) : FrRel k' n φ a := FrRel.mono0 h.toLe0 hr
theorem at_set (φ : Fr) (t u : Nat) (x : A) : (φ.set t x).at u = if u = t then x else φ.at u := by
  simp only [Fr.set, Fr.at, Tr.get_set]
  split <;> rfl
theorem ds_set (φ : Fr) (t : Nat) (x : A) : (φ.set t x).ds = φ.ds := rfl

theorem getD_set (us : Array Value) (t u : Nat) (v : Value) (h : t < us.size) : (us.setIfInBounds t v).getD u undef = if u = t then v else us.getD u undef := by
  simp only [Array.getD_eq_getD_getElem?, Array.getElem?_setIfInBounds]
  by_cases hu : t = u
  · subst hu; simp [h]
  · have : ¬ u = t := fun e => hu e.symm
    simp [hu, this]

theorem FrRel.put {k : K} {n : Nat} {φ φ' : Fr} {a : Act} (hr : FrRel k n φ a) {d : Option Tmp} {x : A} {v : Value} (hx : Rel k x v) (h : putA n φ d x = some φ') : FrRel k n φ' (a.put d v) := by
  unfold putA at h
  split at h
  · cases h; exact hr
  · rename_i t
    split at h
    · rename_i ht
      cases h
      refine ⟨by simp [Act.put, hr.size], fun u => ?_, hr.ds⟩
      rw [at_set]
      simp only [Act.put]
      rw [getD_set _ _ _ _ (by rw [hr.size]; exact ht)]
      split
      · exact hx
      · exact hr.slot u
    · cases h
theorem put_defers (a : Act) (d : Option Tmp) (v : Value) : (a.put d v).defers = a.defers := by
  unfold Act.put; split <;> rfl

theorem at_of {φ : Fr} {t : Nat} {x : A} (h : φ.s.get t = some x) : φ.at t = x := by simp [Fr.at, h]
theorem ev_good {C : Cfg} {k : K} {n : Nat} {φ : Fr} {a : Act} (hg : GlobOk C k) (hr : FrRel k n φ a) : ∀ x y, ev C φ x = some y → Rel k y (a.eval x) := by
  intro x y h
  unfold ev at h
  split at h
  · rename_i t; rw [← at_of h]; exact hr.slot t
  · exact ofVal_rel h
  · exact hg _ _ h
  · cases h
    exact .fn (us := []) (vs := []) rfl rfl (fun j a u h => by simp at h) (fun j a u h => by simp at h)

theorem wanted_good {k : K} {n : Nat} {φ : Fr} {a : Act} (hr : FrRel k n φ a) {ops : Array Oper} {o : Oper} {b : Bool} (h : wantedA ops φ o = some b) : Region.wanted o (yielded ops a.tmps) = b := by
  unfold wantedA at h
  unfold Region.wanted
  split at h
  · rename_i hg; cases h; rw [hg]
  · rename_i j want hg
    rw [hg]
    split at h
    · rename_i y hy
      cases h
      suffices yielded ops a.tmps j = y by simp only [this]
      unfold yieldedA at hy
      unfold yielded
      split at hy
      · rename_i d hd
        rw [hd]
        simp only [Option.bind_some]
        have hs := hr.slot d
        rw [Array.getD_eq_getD_getElem?] at hs
        split at hy
        · rename_i c hc
          cases hy
          rw [at_of hc] at hs
          have := rel_v_inv hs
          cases ht : a.tmps[d]? with
          | none => rw [ht] at this; simp [undef] at this
          | some v => rw [ht] at this; simp at this; subst this; rfl
        · cases hy
        · rename_i q hnb hnj hq
          cases hy
          rw [at_of hq] at hs
          cases ht : a.tmps[d]? with
          | none => rfl
          | some v =>
            rw [ht] at hs
            simp only [Option.getD_some] at hs
            cases v with
            | bool c =>
              exfalso
              cases hs with
              | v _ => exact hnb _ rfl
              | junk => exact hnj rfl
            | _ => rfl
        · cases hy
      · rename_i hd
        cases hy
        rw [hd]; rfl
    · cases h

/-- what a call comes to -/
def OutPost (w0 : World) (k : K) (out : Out) (σ : St) (e : Ending) (w : World) : Prop :=
  match out with
  | .ret x => ∃ k' v, e = .returned v ∧ k'.w = w ∧ k.le k' ∧ Inv w0 σ k' ∧ Rel k' x v
  | .pan x => ∃ k' v, e = .panicked [{ v, recovered := false }] ∧ k'.w = w ∧ k.le k' ∧ Inv w0 σ k' ∧ Rel k' x v
def CallOk (C : Cfg) (w0 : World) (callF : CallF) : Prop := ∀ (f : FuncId) (args : List A) (σ : St) (out : Out) (σ' : St) (k : K) (us : List Value), callF f args σ = some (out, σ') → Inv w0 σ k → GlobOk C k → RelL k args us →
  Calls C.P f us.toArray k.w (OutPost w0 k out σ')

/-- what code comes to -/
def Here (w0 : World) (k : K) (n : Nat) (φ : Fr) (σ : St) (a : Act) (w : World) : Prop := ∃ k', k'.w = w ∧ k.le k' ∧ Inv w0 σ k' ∧ FrRel k' n φ a
def Ends (w0 : World) (k : K) (n : Nat) (r : X × Fr × St) (e : Exit) (a : Act) (w : World) : Prop :=
  match r with
  | (.normal, φ, σ) => e = .normal ∧ Here w0 k n φ σ a w
  | (.exit id, φ, σ) => e = .exit id ∧ Here w0 k n φ σ a w
  | (.ret, φ, σ) => e = .ret ∧ Here w0 k n φ σ a w
  | (.pan x, φ, σ) => ∃ v k', e = .panic [{ v, recovered := false }] ∧ k'.w = w ∧ k.le k' ∧ Inv w0 σ k' ∧ FrRel k' n φ a ∧ Rel k' x v

theorem Ends.mono {w0 : World} {k k' : K} (h : k.le k') {n : Nat} {r : X × Fr × St} {e : Exit} {a : Act} {w : World} (hr : Ends w0 k' n r e a w) : Ends w0 k n r e a w := by
  obtain ⟨x, φ, σ⟩ := r
  cases x with
  | pan x => obtain ⟨v, k2, h1, h2, h3, h4⟩ := hr; exact ⟨v, k2, h1, h2, h.trans h3, h4⟩
  | _ => obtain ⟨h1, k2, h2, h3, h4⟩ := hr; exact ⟨h1, k2, h2, h.trans h3, h4⟩

section
variable {C : Cfg} {w0 : World} {callF : CallF} {n : Nat}

theorem put_keep (a : Act) (d : Option Tmp) (v : Value) : ∀ t, d ≠ some t → (a.put d v).tmps.getD t undef = a.tmps.getD t undef := by
  intro t ht
  cases d with
  | none => rfl
  | some u =>
    have : u ≠ t := fun e => ht (by rw [e])
    simp [Act.put, Array.getD_eq_getD_getElem?, this]
/-- one operation -/
theorem oper_goodS (hc : CallOk C w0 callF) {σ : St} {k : K} {φ : Fr} {a : Act} (hI : Inv w0 σ k) (hg : GlobOk C k) (hr : FrRel k n φ a) {o : Oper} {r : R} (h : op C (ev C φ) o σ = some r) {K' : Act → World → Prop} {Q : Exit → Act → World → Prop}
    (hK : match r with
      | .val x σ' => ∃ φ', putA n φ o.dst x = some φ' ∧ ∀ k' a', k.le k' → Inv w0 σ' k' → FrRel k' n φ' a' → (∀ t, o.dst ≠ some t → a'.tmps.getD t undef = a.tmps.getD t undef) → K' a' k'.w
      | .skip σ' => ∃ φ', putA n φ o.dst und = some φ' ∧ ∀ k' a', k.le k' → Inv w0 σ' k' → FrRel k' n φ' a' → (∀ t, o.dst ≠ some t → a'.tmps.getD t undef = a.tmps.getD t undef) → K' a' k'.w
      | .call f args σ' => ∃ out σ'', callF f args σ' = some (out, σ'') ∧ match out with
        | .ret x => ∃ φ', putA n φ o.dst x = some φ' ∧ ∀ k' a', k.le k' → Inv w0 σ'' k' → FrRel k' n φ' a' → (∀ t, o.dst ≠ some t → a'.tmps.getD t undef = a.tmps.getD t undef) → K' a' k'.w
        | .pan x => ∀ k' v, k.le k' → Inv w0 σ'' k' → FrRel k' n φ a → Rel k' x v → Q (.panic [{ v, recovered := false }]) a k'.w
      | .dfr f args σ' => ∃ φ', putA n { φ with ds := (f, args) :: φ.ds } o.dst und = some φ' ∧ ∀ k' a', k.le k' → Inv w0 σ' k' → FrRel k' n φ' a' → (∀ t, o.dst ≠ some t → a'.tmps.getD t undef = a.tmps.getD t undef) → K' a' k'.w
      | .pan x σ' => ∀ k' v, k.le k' → Inv w0 σ' k' → FrRel k' n φ a → Rel k' x v → Q (.panic [{ v, recovered := false }]) a k'.w
      | .rcv _ => False) : o.wp C.P a k.w K' Q := by
  have hG := op_good (ρ' := a.eval) hI (ev_good hg hr) h
  unfold Oper.wp
  cases r with
  | val x σ' =>
    obtain ⟨k', v, h1, h2, h3, h4⟩ := hG
    obtain ⟨φ', h5, h6⟩ := hK
    rw [h1]
    exact h6 k' _ h4 h3 ((hr.mono h4).put h2 h5) (put_keep _ _ _)
  | skip σ' =>
    obtain ⟨k', h1, h3, h4⟩ := hG
    obtain ⟨φ', h5, h6⟩ := hK
    rw [h1]
    exact h6 k' _ h4 h3 ((hr.mono h4).put rel_und h5) (put_keep _ _ _)
  | call f args σ' =>
    obtain ⟨k', us, h1, h2, h3, h4⟩ := hG
    obtain ⟨out, σ'', h5, h6⟩ := hK
    rw [h1]
    have hcall := hc f args σ' out σ'' k' us.toList h5 h3 (hg.mono h4) h2
    show Calls C.P f us k'.w _
    refine Calls.mono (by simpa using hcall) (fun e w' he => ?_)
    cases out with
    | ret x =>
      obtain ⟨k2, v, rfl, rfl, g1, g2, g3⟩ := he
      obtain ⟨φ', q1, q2⟩ := h6
      exact q2 k2 _ (h4.trans g1) g2 ((hr.mono (h4.trans g1)).put g3 q1) (put_keep _ _ _)
    | pan x =>
      obtain ⟨k2, v, rfl, rfl, g1, g2, g3⟩ := he
      exact h6 k2 v (h4.trans g1) g2 (hr.mono (h4.trans g1)) g3
  | dfr f args σ' =>
    obtain ⟨k', d, h1, h2, h3, h4⟩ := hG
    obtain ⟨φ', h5, h6⟩ := hK
    rw [h1]
    have hr' : FrRel k' n { φ with ds := (f, args) :: φ.ds } { a with defers := d :: a.defers } :=
      ⟨hr.size, (hr.mono h4).slot, DsRel.cons h2 (hr.mono h4).ds⟩
    exact h6 k' _ h4 h3 (hr'.put rel_und h5) (put_keep _ _ _)
  | pan x σ' =>
    obtain ⟨k', v, h1, h2, h3, h4⟩ := hG
    rw [h1]
    exact hK k' v h4 h3 (hr.mono h4) h2
  | rcv σ' => exact hK.elim

/-- one operation -/
theorem oper_good (hc : CallOk C w0 callF) {σ : St} {k : K} {φ : Fr} {a : Act} (hI : Inv w0 σ k) (hg : GlobOk C k) (hr : FrRel k n φ a) {o : Oper} {r : R} (h : op C (ev C φ) o σ = some r) {K' : Act → World → Prop} {Q : Exit → Act → World → Prop}
    (hK : match r with
      | .val x σ' => ∃ φ', putA n φ o.dst x = some φ' ∧ ∀ k' a', k.le k' → Inv w0 σ' k' → FrRel k' n φ' a' → K' a' k'.w
      | .skip σ' => ∃ φ', putA n φ o.dst und = some φ' ∧ ∀ k' a', k.le k' → Inv w0 σ' k' → FrRel k' n φ' a' → K' a' k'.w
      | .call f args σ' => ∃ out σ'', callF f args σ' = some (out, σ'') ∧ match out with
        | .ret x => ∃ φ', putA n φ o.dst x = some φ' ∧ ∀ k' a', k.le k' → Inv w0 σ'' k' → FrRel k' n φ' a' → K' a' k'.w
        | .pan x => ∀ k' v, k.le k' → Inv w0 σ'' k' → FrRel k' n φ a → Rel k' x v → Q (.panic [{ v, recovered := false }]) a k'.w
      | .dfr f args σ' => ∃ φ', putA n { φ with ds := (f, args) :: φ.ds } o.dst und = some φ' ∧ ∀ k' a', k.le k' → Inv w0 σ' k' → FrRel k' n φ' a' → K' a' k'.w
      | .pan x σ' => ∀ k' v, k.le k' → Inv w0 σ' k' → FrRel k' n φ a → Rel k' x v → Q (.panic [{ v, recovered := false }]) a k'.w
      | .rcv _ => False) : o.wp C.P a k.w K' Q := by
  refine oper_goodS hc hI hg hr h ?_
  cases r with
  | val x σ' => obtain ⟨φ', h1, h2⟩ := hK; exact ⟨φ', h1, fun k' a' a b c _ => h2 k' a' a b c⟩
  | skip σ' => obtain ⟨φ', h1, h2⟩ := hK; exact ⟨φ', h1, fun k' a' a b c _ => h2 k' a' a b c⟩
  | call f args σ' =>
    obtain ⟨out, σ'', h1, h2⟩ := hK
    refine ⟨out, σ'', h1, ?_⟩
    cases out with
    | ret x => obtain ⟨φ', h1, h2⟩ := h2; exact ⟨φ', h1, fun k' a' a b c _ => h2 k' a' a b c⟩
    | pan x => exact h2
  | dfr f args σ' => obtain ⟨φ', h1, h2⟩ := hK; exact ⟨φ', h1, fun k' a' a b c _ => h2 k' a' a b c⟩
  | pan x σ' => exact hK
  | rcv σ' => exact hK

theorem runOps_good (hc : CallOk C w0 callF) (ops : Array Oper) : ∀ (l : List Oper) (φ : Fr) (σ : St) (k : K) (a : Act) (r : X × Fr × St), runOps C callF n ops l φ σ = some r → Inv w0 σ k → GlobOk C k → FrRel k n φ a →
    ∀ (Q : Exit → Act → World → Prop), (∀ e a' w', Ends w0 k n r e a' w' → Q e a' w') → wpList C.P ops Q l a k.w
  | [], φ, σ, k, a, r, h, hI, hg, hr, Q, hQ => by
    simp only [runOps] at h; cases h
    exact hQ _ _ _ ⟨rfl, k, rfl, K.le.refl k, hI, hr⟩
  | o :: l, φ, σ, k, a, r, h, hI, hg, hr, Q, hQ => by
    simp only [runOps] at h
    have next : ∀ (φ' : Fr) (σ' : St), runOps C callF n ops l φ' σ' = some r → ∀ k' a', k.le k' → Inv w0 σ' k' → FrRel k' n φ' a' → wpList C.P ops Q l a' k'.w :=
      fun φ' σ' h' k' a' h1 h2 h3 => runOps_good hc ops l φ' σ' k' a' r h' h2 (hg.mono h1) h3 Q (fun e a' w' he => hQ e a' w' (he.mono h1))
    unfold wpList
    split at h
    · rename_i hw
      rw [wanted_good hr hw]
      refine Or.inl ?_
      split at h
      · rename_i x σ' ho
        split at h
        case h_2 => cases h
        rename_i φ' hp
        exact oper_good hc hI hg hr ho ⟨φ', hp, next φ' σ' h⟩
      · rename_i σ' ho
        split at h
        case h_2 => cases h
        rename_i φ' hp
        exact oper_good hc hI hg hr ho ⟨φ', hp, next φ' σ' h⟩
      · rename_i f args σ' ho
        split at h
        · rename_i x σ'' hcf
          split at h
          case h_2 => cases h
          rename_i φ' hp
          exact oper_good hc hI hg hr ho ⟨.ret x, σ'', hcf, φ', hp, next φ' σ'' h⟩
        · rename_i x σ'' hcf
          cases h
          exact oper_good hc hI hg hr ho ⟨.pan x, σ'', hcf, fun k' v h1 h2 h3 h4 => hQ _ _ _ ⟨v, k', rfl, rfl, h1, h2, h3, h4⟩⟩
        · cases h
      · rename_i f args σ' ho
        split at h
        case h_2 => cases h
        rename_i φ' hp
        exact oper_good hc hI hg hr ho ⟨φ', hp, next φ' σ' h⟩
      · rename_i x σ' ho
        cases h
        exact oper_good hc hI hg hr ho (fun k' v h1 h2 h3 h4 => hQ _ _ _ ⟨v, k', rfl, rfl, h1, h2, h3, h4⟩)
      · cases h
    · rename_i hw
      rw [wanted_good hr hw]
      split at h
      case h_2 => cases h
      rename_i φ' hp
      exact next φ' σ h k _ (K.le.refl k) hI (hr.put rel_und hp)
    · cases h
end
end Go.DM
namespace Go.DM
open Go Go.RowKit

/-- the regions whose order is open -/
def DrOk1 (C : Cfg) (w0 : World) : Prop := ∀ (callF : CallF), CallOk C w0 callF → ∀ (n : Nat) (ops : Array Oper) (φ : Fr) (σ : St) (k : K) (a : Act) (r : X × Fr × St) (id : Nat) (Q : Exit → Act → World → Prop),
  runOpen C callF n ops φ σ = some r → Inv w0 σ k → GlobOk C k → FrRel k n φ a →
  (∀ e a' w', Ends w0 k n r e a' w' → Q e a' w') → (Code.region id ops true).wp C.P Q a k.w

/-- the choices that an open order makes -/
def CoOk (C : Cfg) (w0 : World) : Prop := ∀ (callF : CallF), CallOk C w0 callF → ∀ (n : Nat) (x y : Code) (q : CoinP) (φ : Fr) (σ : St) (k : K) (a : Act) (r : Fr × St) (Q : Exit → Act → World → Prop),
  coinP C n x y = some q → coinRun C callF n q φ σ = some r → Inv w0 σ k → GlobOk C k → FrRel k n φ a →
  (∀ e a' w', Ends w0 k n (.normal, r.1, r.2) e a' w' → Q e a' w') → (Code.seq x y).wp C.P Q a k.w
def DrOk (C : Cfg) (w0 : World) : Prop := DrOk1 C w0 ∧ CoOk C w0

section
variable {C : Cfg} {w0 : World} {callF : CallF} {n : Nat}

theorem exec_good (hd : DrOk C w0) (hc : CallOk C w0 callF) : ∀ (fuel : Nat),
    (∀ (c : Code) (φ : Fr) (σ : St) (k : K) (a : Act) (r : X × Fr × St), exec C callF n fuel c φ σ = some r → Inv w0 σ k → GlobOk C k → FrRel k n φ a →
      ∀ (Q : Exit → Act → World → Prop), (∀ e a' w', Ends w0 k n r e a' w' → Q e a' w') → c.wp C.P Q a k.w) ∧
    (∀ (c : Code) (φ : Fr) (σ : St) (k : K) (a : Act) (r : X × Fr × St), exec C callF n fuel (.loop c) φ σ = some r → Inv w0 σ k → GlobOk C k → FrRel k n φ a →
      ∀ (Q : Exit → Act → World → Prop), (∀ e a' w', Ends w0 k n r e a' w' → Q e a' w') → Code.rounds C.P c Q fuel a k.w)
  | 0 => ⟨fun c φ σ k a r h => by simp [exec] at h, fun c φ σ k a r h => by simp [exec] at h⟩
  | f + 1 => by
    obtain ⟨ih, ihl⟩ := exec_good hd hc f
    have loop : ∀ (c : Code) (φ : Fr) (σ : St) (k : K) (a : Act) (r : X × Fr × St), exec C callF n (f + 1) (.loop c) φ σ = some r → Inv w0 σ k → GlobOk C k → FrRel k n φ a →
      ∀ (Q : Exit → Act → World → Prop), (∀ e a' w', Ends w0 k n r e a' w' → Q e a' w') → Code.rounds C.P c Q (f + 1) a k.w := by
      intro c φ σ k a r h hI hg hr Q hQ
      simp only [exec] at h
      rw [rounds_succ]
      split at h
      · rename_i φ' σ' h1
        refine ih c φ σ k a _ h1 hI hg hr _ (fun e a' w' he => ?_)
        obtain ⟨rfl, k', rfl, g1, g2, g3⟩ := he
        exact ihl c φ' σ' k' a' r h g2 (hg.mono g1) g3 Q (fun e a' w' he => hQ e a' w' (he.mono g1))
      · rename_i hne
        refine ih c φ σ k a _ h hI hg hr _ (fun e a' w' he => ?_)
        have hq := hQ e a' w' he
        cases e with
        | normal =>
          exfalso
          obtain ⟨x, φ', σ'⟩ := r
          cases x with
          | normal => first | exact hne _ _ h | exact hne _ _ rfl
          | exit id => exact absurd he.1 (by simp)
          | ret => exact absurd he.1 (by simp)
          | pan x => obtain ⟨v, k', h1, _⟩ := he; exact absurd h1 (by simp)
        | _ => exact hq
    refine ⟨fun c φ σ k a r h hI hg hr Q hQ => ?_, loop⟩
    cases c with
    | skip =>
      simp only [exec] at h; cases h
      exact wp_skip (hQ _ _ _ ⟨rfl, k, rfl, K.le.refl k, hI, hr⟩)
    | region id ops draw =>
      cases draw with
      | false =>
        simp only [exec] at h
        exact wp_region_list (runOps_good hc ops ops.toList φ σ k a r h hI hg hr Q hQ)
      | true =>
        simp only [exec] at h
        exact hd.1 callF hc n ops φ σ k a r id Q h hI hg hr hQ
    | seq x y =>
      simp only [exec] at h
      split at h
      · rename_i φ' σ' h1
        refine wp_seq ?_
        refine ih x φ σ k a _ h1 hI hg hr _ (fun e a' w' he => ?_)
        obtain ⟨rfl, k', rfl, g1, g2, g3⟩ := he
        exact ih y φ' σ' k' a' r h g2 (hg.mono g1) g3 Q (fun e a' w' he => hQ e a' w' (he.mono g1))
      case h_3 =>
        split at h
        case h_2 => cases h
        rename_i q hq
        split at h
        case h_2 => cases h
        rename_i φ' σ' hrun
        cases h
        exact hd.2 callF hc n x y q φ σ k a (φ', σ') Q hq hrun hI hg hr hQ
      · rename_i r1 hne h1
        cases h
        refine wp_seq ?_
        refine ih x φ σ k a _ h1 hI hg hr _ (fun e a' w' he => ?_)
        have hq := hQ e a' w' he
        cases e with
        | normal =>
          exfalso
          obtain ⟨x, φ', σ'⟩ := r
          cases x with
          | normal => first | exact hne _ _ h | exact hne _ _ rfl
          | exit id => exact absurd he.1 (by simp)
          | ret => exact absurd he.1 (by simp)
          | pan x => obtain ⟨v, k', h1, _⟩ := he; exact absurd h1 (by simp)
        | _ => exact hq
    | cond x p q =>
      simp only [exec] at h
      split at h
      · rename_i t hx
        have := rel_v_inv (ev_good hg hr x _ hx)
        refine wp_cond (t := t) this ?_
        exact ih _ φ σ k a r h hI hg hr Q hQ
      · cases h
    | block id c =>
      simp only [exec] at h
      refine wp_block ?_
      split at h
      · rename_i j φ' σ' h1
        refine ih c φ σ k a _ h1 hI hg hr _ (fun e a' w' he => ?_)
        obtain ⟨rfl, he⟩ := he
        split at h
        · rename_i hj
          cases h
          simp only [Exit.inBlock, if_pos hj]
          exact hQ _ _ _ ⟨rfl, he⟩
        · rename_i hj
          cases h
          simp only [Exit.inBlock, if_neg hj]
          exact hQ _ _ _ ⟨rfl, he⟩
      · rename_i hne
        refine ih c φ σ k a _ h hI hg hr _ (fun e a' w' he => ?_)
        have hq := hQ e a' w' he
        cases e with
        | exit id =>
          exfalso
          obtain ⟨x, φ', σ'⟩ := r
          cases x with
          | normal => exact absurd he.1 (by simp)
          | exit id => exact hne _ _ _ h
          | ret => exact absurd he.1 (by simp)
          | pan x => obtain ⟨v, k', h1, _⟩ := he; exact absurd h1 (by simp)
        | _ => exact hq
    | loop c => exact wp_loop_rounds (f + 1) (loop c φ σ k a r h hI hg hr Q hQ)
    | exit id =>
      simp only [exec] at h; cases h
      exact wp_exit (hQ _ _ _ ⟨rfl, k, rfl, K.le.refl k, hI, hr⟩)
    | ret =>
      simp only [exec] at h; cases h
      exact wp_ret (hQ _ _ _ ⟨rfl, k, rfl, K.le.refl k, hI, hr⟩)
    | _ => simp only [exec] at h; cases h

/-- the panic that stands -/
def PRel (k : K) (p : Option A) (u : FrameMode) : Prop := match p with
  | some x => ∃ v, u = .panicking [{ v, recovered := false }] ∧ Rel k x v
  | none => u = .returning ∨ ∃ v, u = .panicking [{ v, recovered := true }]
theorem PRel.mono {k k' : K} (h : k.le k') {p : Option A} {u : FrameMode} (hp : PRel k p u) : PRel k' p u := by
  cases p with
  | some x => obtain ⟨v, h1, h2⟩ := hp; exact ⟨v, h1, h2.mono h⟩
  | none => exact hp
/-- settled -/
def PSet (k : K) (p : Option A) (u : FrameMode) : Prop := match p with
  | some x => ∃ v, u = .panicking [{ v, recovered := false }] ∧ Rel k x v
  | none => u = .returning
theorem PSet.rel {k : K} {p : Option A} {u : FrameMode} (hp : PSet k p u) : PRel k p u := by
  cases p with
  | some x => exact hp
  | none => exact .inl hp
theorem PRel.settle {k : K} {p : Option A} {u : FrameMode} (hp : PRel k p u) : PSet k p (settle u) := by
  cases p with
  | some x => obtain ⟨v, rfl, h2⟩ := hp; exact ⟨v, rfl, h2⟩
  | none =>
    rcases hp with rfl | ⟨v, rfl⟩
    · rfl
    · rfl
theorem PSet.ne_run {k : K} {p : Option A} {u : FrameMode} (hp : PSet k p u) : u ≠ .run := by
  cases p with
  | some x => obtain ⟨v, rfl, _⟩ := hp; simp
  | none => have : u = .returning := hp; rw [this]; simp

def EndsS (w0 : World) (k : K) (n : Nat) (c0 : Frame) (cs0 : List Frame) (r : X × Fr × St × Option A) (e : Exit) (a : Act) (cs : List Frame) (w : World) : Prop :=
  match r with
  | (.normal, φ, σ, p) => e = .normal ∧ ∃ k' u, k'.w = w ∧ k.le k' ∧ Inv w0 σ k' ∧ FrRel k' n φ a ∧ PRel k' p u ∧ cs = { c0 with mode := u } :: cs0
  | (.ret, φ, σ, p) => e = .ret ∧ ∃ k' u, k'.w = w ∧ k.le k' ∧ Inv w0 σ k' ∧ FrRel k' n φ a ∧ PRel k' p u ∧ cs = { c0 with mode := u } :: cs0
  | _ => False
theorem EndsS.mono {k k' : K} (h : k.le k') {c0 : Frame} {cs0 : List Frame} {r : X × Fr × St × Option A} {e : Exit} {a : Act} {cs : List Frame} {w : World} (hr : EndsS w0 k' n c0 cs0 r e a cs w) : EndsS w0 k n c0 cs0 r e a cs w := by
  obtain ⟨x, φ, σ, p⟩ := r
  cases x with
  | normal => obtain ⟨h1, k2, u, h2, h3, h4⟩ := hr; exact ⟨h1, k2, u, h2, h.trans h3, h4⟩
  | ret => obtain ⟨h1, k2, u, h2, h3, h4⟩ := hr; exact ⟨h1, k2, u, h2, h.trans h3, h4⟩
  | _ => exact hr.elim

theorem runOpsS_good (hc : CallOk C w0 callF) (ops : Array Oper) (c0 : Frame) (cs0 : List Frame) : ∀ (l : List Oper) (i : Nat) (φ : Fr) (σ : St) (p : Option A) (k : K) (a : Act) (u : FrameMode) (r : X × Fr × St × Option A),
    (∀ j, l[j]? = ops[i + j]?) → runOpsS C callF n ops l φ σ p = some r → Inv w0 σ k → GlobOk C k → FrRel k n φ a → PRel k p u →
    ∀ (Q : Exit → Act → List Frame → World → Prop), (∀ e a' cs w', EndsS w0 k n c0 cs0 r e a' cs w' → Q e a' cs w') → wpOpsS C.P ops Q (List.range' i l.length) a ({ c0 with mode := u } :: cs0) k.w
  | [], i, φ, σ, p, k, a, u, r, hl, h, hI, hg, hr, hp, Q, hQ => by
    simp only [runOpsS] at h; cases h
    exact hQ _ _ _ _ ⟨rfl, k, u, rfl, K.le.refl k, hI, hr, hp, rfl⟩
  | o :: l, i, φ, σ, p, k, a, u, r, hl, h, hI, hg, hr, hp, Q, hQ => by
    have h0 : ops[i]? = some o := by simpa using (hl 0).symm
    have hl' : ∀ j, l[j]? = ops[i + 1 + j]? := fun j => by have := hl (j + 1); simpa [Nat.add_assoc, Nat.add_comm 1 j] using this
    have next : ∀ (φ' : Fr) (σ' : St) (p' : Option A), runOpsS C callF n ops l φ' σ' p' = some r → ∀ k' a' u', k.le k' → Inv w0 σ' k' → FrRel k' n φ' a' → PRel k' p' u' → wpOpsS C.P ops Q (List.range' (i + 1) l.length) a' ({ c0 with mode := u' } :: cs0) k'.w :=
      fun φ' σ' p' h' k' a' u' h1 h2 h3 h4 => runOpsS_good hc ops c0 cs0 l (i + 1) φ' σ' p' k' a' u' r hl' h' h2 (hg.mono h1) h3 h4 Q (fun e a' cs w' he => hQ e a' cs w' (he.mono h1))
    simp only [runOpsS] at h
    simp only [List.length_cons, List.range'_succ, wpOpsS, h0]
    split at h
    · rename_i hw
      rw [wanted_good hr hw]
      simp only [if_true]
      split at h
      · rename_i x σ' ho
        split at h
        case h_2 => cases h
        rename_i φ' hpt
        obtain ⟨k', v, h1, h2, h3, h4⟩ := op_good (ρ' := a.eval) hI (ev_good hg hr) ho
        rw [h1]
        exact next φ' σ' p h k' _ u h4 h3 ((hr.mono h4).put h2 hpt) (hp.mono h4)
      · rename_i σ' ho
        split at h
        case h_2 => cases h
        rename_i φ' hpt
        obtain ⟨k', h1, h3, h4⟩ := op_good (ρ' := a.eval) hI (ev_good hg hr) ho
        rw [h1]
        exact next φ' σ' p h k' _ u h4 h3 ((hr.mono h4).put rel_und hpt) (hp.mono h4)
      · rename_i f args σ' ho
        obtain ⟨k', us, h1, h2, h3, h4⟩ := op_good (ρ' := a.eval) hI (ev_good hg hr) ho
        split at h
        case h_2 => cases h
        rename_i x σ'' hcf
        split at h
        case h_2 => cases h
        rename_i φ' hpt
        rw [h1]
        have hcall := hc f args σ' (.ret x) σ'' k' us.toList hcf h3 (hg.mono h4) h2
        show Calls C.P f us k'.w _
        refine Calls.mono (by simpa using hcall) (fun e w' he => ?_)
        obtain ⟨k2, v, rfl, rfl, g1, g2, g3⟩ := he
        exact next φ' σ'' p h k2 _ u (h4.trans g1) g2 ((hr.mono (h4.trans g1)).put g3 hpt) (hp.mono (h4.trans g1))
      · rename_i σ' ho
        split at h
        case h_2 => cases h
        rename_i φ' hpt
        obtain ⟨k', h1, h3, h4⟩ := op_good (ρ' := a.eval) hI (ev_good hg hr) ho
        rw [h1]
        have hp' := hp.mono h4
        cases p with
        | some x =>
          obtain ⟨v, rfl, hv⟩ := hp'
          exact next φ' σ' none h k' _ (.panicking [{ v, recovered := true }]) h4 h3 ((hr.mono h4).put hv hpt) (.inr ⟨v, rfl⟩)
        | none =>
          have hrc : recoverD ({ c0 with mode := u } :: cs0) = none := by
            rcases hp' with rfl | ⟨v, rfl⟩ <;> rfl
          simp only [hrc]
          exact next φ' σ' none h k' _ u h4 h3 ((hr.mono h4).put (x := .v .nilIface) (.v rfl) hpt) hp'
      · cases h
    · rename_i hw
      rw [wanted_good hr hw]
      split at h
      case h_2 => cases h
      rename_i φ' hpt
      simp only [Bool.false_eq_true, if_false]
      exact next φ' σ p h k _ u (K.le.refl k) hI (hr.put rel_und hpt) hp
    · cases h

theorem execS_other (hd : DrOk C w0) (hc : CallOk C w0 callF) (c0 : Frame) (cs0 : List Frame) (f : Nat) (c : Code) (φ : Fr) (σ : St) (p : Option A) (k : K) (a : Act) (u : FrameMode) (r : X × Fr × St × Option A)
    (h : (match exec C callF n (f + 1) c φ σ with
      | some (.normal, φ', σ') => some (X.normal, φ', σ', p)
      | some (.ret, φ', σ') => some (.ret, φ', σ', p)
      | _ => none) = some r) (hI : Inv w0 σ k) (hg : GlobOk C k) (hr : FrRel k n φ a) (hp : PRel k p u) (Q : Exit → Act → List Frame → World → Prop)
    (hQ : ∀ e a' cs w', EndsS w0 k n c0 cs0 r e a' cs w' → Q e a' cs w') : c.wpS C.P Q a ({ c0 with mode := u } :: cs0) k.w := by
  refine wpS_of_wp ?_
  split at h
  · rename_i φ' σ' h1
    cases h
    refine (exec_good hd hc (f + 1)).1 c φ σ k a _ h1 hI hg hr _ (fun e a' w' he => ?_)
    obtain ⟨rfl, k', rfl, g1, g2, g3⟩ := he
    exact hQ _ _ _ _ ⟨rfl, k', u, rfl, g1, g2, g3, hp.mono g1, rfl⟩
  · rename_i φ' σ' h1
    cases h
    refine (exec_good hd hc (f + 1)).1 c φ σ k a _ h1 hI hg hr _ (fun e a' w' he => ?_)
    obtain ⟨rfl, k', rfl, g1, g2, g3⟩ := he
    exact hQ _ _ _ _ ⟨rfl, k', u, rfl, g1, g2, g3, hp.mono g1, rfl⟩
  · cases h

theorem execS_good (hd : DrOk C w0) (hc : CallOk C w0 callF) (c0 : Frame) (cs0 : List Frame) : ∀ (fuel : Nat) (c : Code) (φ : Fr) (σ : St) (p : Option A) (k : K) (a : Act) (u : FrameMode) (r : X × Fr × St × Option A),
    execS C callF n fuel c φ σ p = some r → Inv w0 σ k → GlobOk C k → FrRel k n φ a → PRel k p u →
    ∀ (Q : Exit → Act → List Frame → World → Prop), (∀ e a' cs w', EndsS w0 k n c0 cs0 r e a' cs w' → Q e a' cs w') → c.wpS C.P Q a ({ c0 with mode := u } :: cs0) k.w
  | 0, c, φ, σ, p, k, a, u, r, h, _, _, _, _, _, _ => by simp [execS] at h
  | f + 1, c, φ, σ, p, k, a, u, r, h, hI, hg, hr, hp, Q, hQ => by
    have ih := execS_good hd hc c0 cs0 f
    cases c with
    | region id ops draw =>
      cases draw with
      | false =>
        simp only [execS] at h
        refine wpS_region ?_
        rw [List.range_eq_range', ← Array.length_toList]
        exact runOpsS_good hc ops c0 cs0 ops.toList 0 φ σ p k a u r (by simp) h hI hg hr hp Q hQ
      | true => exact execS_other hd hc c0 cs0 f _ φ σ p k a u r h hI hg hr hp Q hQ
    | seq x y =>
      simp only [execS] at h
      refine wpS_seq ?_
      split at h
      · rename_i φ' σ' p' h1
        refine ih x φ σ p k a u _ h1 hI hg hr hp _ (fun e a' cs w' he => ?_)
        obtain ⟨rfl, k', u', rfl, g1, g2, g3, g4, rfl⟩ := he
        exact ih y φ' σ' p' k' a' u' r h g2 (hg.mono g1) g3 g4 Q (fun e a' cs w' he => hQ e a' cs w' (he.mono g1))
      · rename_i hne
        refine ih x φ σ p k a u _ h hI hg hr hp _ (fun e a' cs w' he => ?_)
        have hq := hQ e a' cs w' he
        cases e with
        | normal =>
          exfalso
          obtain ⟨x, φ', σ', p'⟩ := r
          cases x with
          | normal => exact hne _ _ _ h
          | ret => exact absurd he.1 (by simp)
          | _ => exact he.elim
        | _ => exact hq
    | cond x s t =>
      simp only [execS] at h
      split at h
      · rename_i b hx
        have := rel_v_inv (ev_good hg hr x _ hx)
        exact wpS_cond (t := b) this (ih _ φ σ p k a u r h hI hg hr hp Q hQ)
      · cases h
    | skip => exact execS_other hd hc c0 cs0 f (.skip) φ σ p k a u r h hI hg hr hp Q hQ
    | block i b => exact execS_other hd hc c0 cs0 f (.block i b) φ σ p k a u r h hI hg hr hp Q hQ
    | loop b => exact execS_other hd hc c0 cs0 f (.loop b) φ σ p k a u r h hI hg hr hp Q hQ
    | rangeFunc g q x y => exact execS_other hd hc c0 cs0 f (.rangeFunc g q x y) φ σ p k a u r h hI hg hr hp Q hQ
    | exit i => exact execS_other hd hc c0 cs0 f (.exit i) φ σ p k a u r h hI hg hr hp Q hQ
    | scope b => exact execS_other hd hc c0 cs0 f (.scope b) φ σ p k a u r h hI hg hr hp Q hQ
    | label l => exact execS_other hd hc c0 cs0 f (.label l) φ σ p k a u r h hI hg hr hp Q hQ
    | goto l => exact execS_other hd hc c0 cs0 f (.goto l) φ σ p k a u r h hI hg hr hp Q hQ
    | ret => exact execS_other hd hc c0 cs0 f (.ret) φ σ p k a u r h hI hg hr hp Q hQ
    | refuse y => exact execS_other hd hc c0 cs0 f (.refuse y) φ σ p k a u r h hI hg hr hp Q hQ

/-- the results -/
theorem loadRes_good {σ : St} {k : K} (hI : Inv w0 σ k) {t : TypeId} {x a : A} {u : Value} (hx : Rel k x u) (h : loadOp C.P t x σ = some a) : ∃ v, ((do loadVar t (← asAddr u)) : Sem Value).run C.P k.w = .ok v k.w ∧ Rel k a v := by
  obtain ⟨v, h1, h2⟩ := loadOp_good hI hx h
  refine ⟨v, ?_, h2⟩
  rw [← h1]
  unfold loadOp at h
  split at h
  · cases hx with
    | ptr hb => rfl
  · obtain ⟨c, y, rfl⟩ := hx.spInv; rfl
  · cases h
def resVal (tmps : Array Value) : ResultVar → Sem Value
  | .tmp t => pure (tmps.getD t undef)
  | .cell a t => do loadVar t (← asAddr (tmps.getD a undef))
theorem resA_good {σ : St} {k : K} (hI : Inv w0 σ k) {φ : Fr} {tmps : Array Value} (hs : ∀ t, Rel k (φ.at t) (tmps.getD t undef)) : ∀ {l : List ResultVar} {xs : List A}, resA C φ σ l = some xs →
    ∃ vs : List Value, (l.mapM (resVal tmps)).run C.P k.w = .ok vs k.w ∧ RelL k xs vs
  | [], xs, h => by simp only [resA] at h; cases h; exact ⟨[], by simp, RelL.nil k⟩
  | .tmp t :: l, xs, h => by
    simp only [resA] at h
    split at h
    case h_2 => cases h
    rename_i x ys hx hy
    cases h
    obtain ⟨vs, h1, h2⟩ := resA_good hI hs hy
    exact ⟨tmps.getD t undef :: vs, by simp only [List.mapM_cons, resVal, Sem.run_bind, Sem.run_pure, Result.andThen_ok, h1], RelL.cons (by rw [← at_of hx]; exact hs t) h2⟩
  | .cell a t :: l, xs, h => by
    simp only [resA] at h
    split at h
    case h_2 => cases h
    rename_i p hp
    split at h
    case h_2 => cases h
    rename_i y ys hx hy
    cases h
    obtain ⟨vs, h1, h2⟩ := resA_good hI hs hy
    obtain ⟨v, h3, h4⟩ := loadRes_good (C := C) hI (hs a) (by rw [at_of hp]; exact hx)
    refine ⟨v :: vs, ?_, RelL.cons h4 h2⟩
    simp only [List.mapM_cons]
    rw [Sem.run_bind]
    have h3' : (resVal tmps (.cell a t)).run C.P k.w = .ok v k.w := h3
    rw [h3']
    simp only [Result.andThen_ok, Sem.run_bind, h1, Sem.run_pure]
theorem results_eq (fn : Func) (tmps : Array Value) : results fn tmps = (do
    let vs ← fn.results.toList.mapM (resVal tmps)
    pure (if h : vs.toArray.size = 1 then vs.toArray[0] else .tuple vs.toArray)) := by
  unfold results
  rw [Array.mapM_eq_mapM_toList]
  simp only [bind_map_left]
  exact congrArg (fun (g : ResultVar → Sem Value) => ((do
    let vs ← fn.results.toList.mapM g
    pure (if h : vs.toArray.size = 1 then vs.toArray[0] else .tuple vs.toArray)) : Sem Value)) (funext fun x => by cases x <;> rfl)
theorem results_good {σ : St} {k : K} (hI : Inv w0 σ k) {φ : Fr} {tmps : Array Value} (hs : ∀ t, Rel k (φ.at t) (tmps.getD t undef)) {fn : Func} {xs : List A} (h : resA C φ σ fn.results.toList = some xs) :
    ∃ v, (results fn tmps).run C.P k.w = .ok v k.w ∧ Rel k (oneOrTup xs) v := by
  obtain ⟨vs, h1, h2⟩ := resA_good hI hs h
  refine ⟨if h : vs.toArray.size = 1 then vs.toArray[0] else .tuple vs.toArray, ?_, ?_⟩
  · rw [results_eq, Sem.run_bind, h1]
    rfl
  · match xs, vs, h2 with
    | [], [], h2 => exact .tup h2.1 h2.2
    | [x], [v], h2 => exact h2.2 0 x v rfl rfl
    | x :: y :: xs, v :: u :: vs, h2 =>
      have : ¬ (v :: u :: vs).toArray.size = 1 := by simp
      rw [dif_neg this]
      exact .tup h2.1 h2.2
    | [], _ :: _, h2 => exact absurd h2.1 (by simp)
    | [_], [], h2 => exact absurd h2.1 (by simp)
    | [_], _ :: _ :: _, h2 => exact absurd h2.1 (by simp)
    | _ :: _ :: _, [], h2 => exact absurd h2.1 (by simp)
    | _ :: _ :: _, [_], h2 => exact absurd h2.1 (by simp)

theorem argFr_get : ∀ (l : List A) (i t : Nat), (argFr i l).get t = if i ≤ t then l[t - i]? else none
  | [], i, t => by simp [argFr]
  | a :: l, i, t => by
    simp only [argFr, Tr.get_set, argFr_get l (i + 1) t]
    by_cases h : t = i
    · subst h; simp
    · rw [if_neg h]
      by_cases h1 : i ≤ t
      · have h2 : i + 1 ≤ t := by omega
        rw [if_pos h1, if_pos h2]
        have : t - i = (t - (i + 1)) + 1 := by omega
        rw [this]; simp
      · rw [if_neg h1, if_neg (by omega)]
theorem enter_good {k : K} {args : List A} {us : List Value} (hr : RelL k args us) {n : Nat} (hn : args.length ≤ n) : FrRel k n ⟨argFr 0 args, []⟩ { tmps := us.toArray ++ Array.replicate (n - us.toArray.size) undef, defers := [] } := by
  refine ⟨?_, fun t => ?_, rfl, fun j x d h => by simp at h⟩
  · have := hr.1
    simp; omega
  · simp only [Fr.at, argFr_get, Nat.zero_le, if_true, Nat.sub_zero, Array.getD_eq_getD_getElem?, Array.getElem?_append]
    by_cases ht : t < us.length
    · have hta : t < args.length := by rw [hr.1]; exact ht
      simp only [List.size_toArray, ht, if_true, List.getElem?_toArray, List.getElem?_eq_getElem hta, List.getElem?_eq_getElem ht, Option.getD_some]
      exact hr.2 t _ _ (List.getElem?_eq_getElem hta) (List.getElem?_eq_getElem ht)
    · have hta : args[t]? = none := List.getElem?_eq_none (by rw [hr.1]; omega)
      simp only [List.size_toArray, ht, if_false, hta, Option.getD_none]
      have : (Array.replicate (n - us.length) undef)[t - us.length]?.getD undef = undef := by
        rw [Array.getElem?_replicate]; split <;> rfl
      rw [this]
      exact rel_und

theorem callD_good (hd : DrOk C w0) (hc : CallOk C w0 callF) {fuel : Nat} {f : FuncId} {args : List A} {σ σ' : St} {p p' : Option A} (h : callD C callF fuel f args σ p = some (σ', p')) {k : K} {us : List Value} (hI : Inv w0 σ k) (hg : GlobOk C k) (hr : RelL k args us) {u : FrameMode} (hp : PRel k p u)
    {R : Ending → FrameMode → World → Prop} (hR : ∀ k' u' v, k.le k' → Inv w0 σ' k' → PRel k' p' u' → R (.returned v) u' k'.w) : (∃ fn, C.P.funcs[f]? = some fn ∧ fn.name ≠ "runtime.NumGoroutine" ∧ fn.body.isSome = true) ∧ CallsD C.P f us.toArray u k.w R := by
  unfold callD at h
  split at h
  case h_2 => cases h
  rename_i fn hf
  split at h
  case h_2 => cases h
  rename_i c hb
  split at h
  case isFalse => cases h
  rename_i hl
  refine ⟨⟨fn, hf, hl.2, by simp [hb]⟩, ?_⟩
  refine callsD_of_wpS hf hb (fun c0 cs hu => ?_)
  have hcs : c0 :: cs = { c0 with mode := u } :: cs := by rw [← hu]
  rw [hcs]
  have fin : ∀ φ, (match φ.ds, resA C φ σ' fn.results.toList with
          | [], some _ => some (σ', p')
          | _, _ => none) = some (σ', p') → ∀ k' u' a', k.le k' → Inv w0 σ' k' → FrRel k' fn.ntmps φ a' → PRel k' p' u' → a'.defers = [] ∧ ∃ v, (results fn a'.tmps).run C.P k'.w = .ok v k'.w ∧ R (.returned v) u' k'.w := by
    intro φ h k' u' a' g1 g2 g3 g4
    split at h
    · rename_i xs hds hx
      have hds' := g3.ds
      rw [hds] at hds'
      obtain ⟨v, q1, q2⟩ := results_good (C := C) g2 g3.slot hx
      exact ⟨hds'.inv_nil, v, q1, hR k' u' v g1 g2 g4⟩
    · cases h
  split at h
  · rename_i φ σ2 p2 h1
    have hh : σ2 = σ' ∧ p2 = p' := by
      split at h
      · cases h; exact ⟨rfl, rfl⟩
      · cases h
    obtain ⟨rfl, rfl⟩ := hh
    refine execS_good hd hc c0 cs fuel c _ σ p k _ u _ h1 hI hg (enter_good hr hl.1) hp _ (fun e a' cs' w' he => ?_)
    obtain ⟨rfl, k', u', rfl, g1, g2, g3, g4, rfl⟩ := he
    obtain ⟨q1, v, q2, q3⟩ := fin φ h k' u' a' g1 g2 g3 g4
    exact ⟨q1, u', rfl, v, q2, q3⟩
  · rename_i φ σ2 p2 h1
    have hh : σ2 = σ' ∧ p2 = p' := by
      split at h
      · cases h; exact ⟨rfl, rfl⟩
      · cases h
    obtain ⟨rfl, rfl⟩ := hh
    refine execS_good hd hc c0 cs fuel c _ σ p k _ u _ h1 hI hg (enter_good hr hl.1) hp _ (fun e a' cs' w' he => ?_)
    obtain ⟨rfl, k', u', rfl, g1, g2, g3, g4, rfl⟩ := he
    obtain ⟨q1, v, q2, q3⟩ := fin φ h k' u' a' g1 g2 g3 g4
    exact ⟨q1, u', rfl, v, q2, q3⟩
  · cases h

theorem leave_good (hd : DrOk C w0) (hc : CallOk C w0 callF) {fuel : Nat} {fn : Func} {tmps : Array Value} {R : Ending → World → Prop} : ∀ (ds : List (FuncId × List A)) (ds' : List Deferred) (σ σ'' : St) (p p'' : Option A) (k : K) (u : FrameMode),
    leave C callF fuel ds σ p = some (σ'', p'') → Inv w0 σ k → GlobOk C k → DsRel k ds ds' → PSet k p u → (∀ k' u', k.le k' → Inv w0 σ'' k' → PSet k' p'' u' → Leaves C.P fn tmps R [] u' k'.w) → Leaves C.P fn tmps R ds' u k.w
  | [], ds', σ, σ'', p, p'', k, u, h, hI, hg, hr, hp, hR => by
    simp only [leave] at h; cases h
    rw [hr.inv_nil]
    exact hR k u (K.le.refl k) hI hp
  | (f, args) :: ds, ds', σ, σ'', p, p'', k, u, h, hI, hg, hr, hp, hR => by
    simp only [leave] at h
    split at h
    case h_2 => cases h
    rename_i σ' p' h1
    obtain ⟨d, ds2, rfl, ⟨us, vs, g1, g2, g3⟩, hr'⟩ := hr.inv_cons
    obtain ⟨⟨fn', hf, hn, hb⟩, hcd⟩ := callD_good hd hc h1 hI hg g3 hp.rel (R := fun
        | .returned _, u', w' => Leaves C.P fn tmps R ds2 (settle u') w'
        | .panicked chain, u', w' => Leaves C.P fn tmps R ds2 (raised u' chain) w'
        | .outgrown, _, w' => R .outgrown w') (fun k' u' v q1 q2 q3 =>
          leave_good hd hc ds ds2 σ' σ'' p' p'' k' (settle u') h q2 (hg.mono q1) (hr'.mono q1) q3.settle (fun k2 u2 e1 e2 e3 => hR k2 u2 (q1.trans e1) e2 e3))
    refine ⟨hp.ne_run, .func f, vs.toArray, f, (us ++ vs).toArray, g1, ?_, hcd⟩
    rw [g1, g2]
    have := run_enter hf hn hb (us ++ vs).toArray k.w
    simpa [invoke] using this

/-- the functions that are given by hand -/
def PrimOk (C : Cfg) (w0 : World) : Prop := ∀ (f : FuncId) (g : List A → St → Option (A × St)) (args : List A) (σ σ' : St) (x : A) (k : K) (us : List Value), C.prim f = some g → g args σ = some (x, σ') → Inv w0 σ k → GlobOk C k → RelL k args us →
  Calls C.P f us.toArray k.w (OutPost w0 k (.ret x) σ')

theorem call_good (hd : DrOk C w0) (hpr : PrimOk C w0) : ∀ (fuel : Nat), CallOk C w0 (call C fuel)
  | 0 => fun f args σ out σ' k us h => by simp [call] at h
  | fuel + 1 => by
    have hc := call_good hd hpr fuel
    intro f args σ out σ' k us h hI hg hr
    simp only [call] at h
    split at h
    · rename_i g hgp
      split at h
      · rename_i x σ2 h1
        cases h
        exact hpr f g args σ _ x k us hgp h1 hI hg hr
      · cases h
    split at h
    case h_2 => cases h
    rename_i fn hf
    split at h
    case h_2 => cases h
    rename_i c hb
    split at h
    case isFalse => cases h
    rename_i hl
    have fin : ∀ (φ : Fr) (σ2 : St) (p : Option A), (match leave C (call C fuel) (fuel + 1) φ.ds σ2 p with
        | some (σ'', none) => match resA C φ σ'' fn.results.toList with
          | some l => some (Out.ret (oneOrTup l), σ'')
          | none => none
        | some (σ'', some y) => some (.pan y, σ'')
        | none => none) = some (out, σ') → ∀ (k' : K) (a : Act) (u : FrameMode), k.le k' → Inv w0 σ2 k' → FrRel k' fn.ntmps φ a → PSet k' p u → Leaves C.P fn a.tmps (OutPost w0 k out σ') a.defers u k'.w := by
      intro φ σ2 p h k' a u g1 g2 g3 g4
      split at h
      · rename_i σ3 hlv
        refine leave_good hd hc φ.ds a.defers σ2 σ3 p none k' u hlv g2 (hg.mono g1) g3.ds g4 (fun k2 u2 e1 e2 e3 => ?_)
        have : u2 = .returning := e3
        subst this
        split at h
        · rename_i l hres
          cases h
          obtain ⟨v, q1, q2⟩ := results_good (C := C) e2 (fun t => (g3.slot t).mono e1) hres
          exact ⟨v, q1, k2, v, rfl, rfl, g1.trans e1, e2, q2⟩
        · cases h
      · rename_i σ3 y hlv
        cases h
        refine leave_good hd hc φ.ds a.defers σ2 σ' p (some y) k' u hlv g2 (hg.mono g1) g3.ds g4 (fun k2 u2 e1 e2 e3 => ?_)
        obtain ⟨v, rfl, hv⟩ := e3
        exact ⟨k2, v, rfl, rfl, g1.trans e1, e2, hv⟩
      · cases h
    have weak : ∀ (φ : Fr) (σ2 : St), (match leave C (call C fuel) (fuel + 1) φ.ds σ2 none with
        | some (σ'', none) => match resA C φ σ'' fn.results.toList with
          | some l => some (Out.ret (oneOrTup l), σ'')
          | none => none
        | _ => none) = some (out, σ') → (match leave C (call C fuel) (fuel + 1) φ.ds σ2 none with
        | some (σ'', none) => match resA C φ σ'' fn.results.toList with
          | some l => some (Out.ret (oneOrTup l), σ'')
          | none => none
        | some (σ'', some y) => some (.pan y, σ'')
        | none => none) = some (out, σ') := by
      intro φ σ2 h
      split at h
      · rename_i σ3 hlv; rw [hlv]; exact h
      · cases h
    refine calls_of_wp_defers hf hb ?_
    split at h
    · rename_i φ σ2 h1
      refine (exec_good hd hc (fuel + 1)).1 c _ σ k _ _ h1 hI hg (enter_good hr hl) _ (fun e a' w' he => ?_)
      obtain ⟨rfl, k', rfl, g1, g2, g3⟩ := he
      exact fin φ σ2 none (weak φ σ2 h) k' a' .returning g1 g2 g3 rfl
    · rename_i φ σ2 h1
      refine (exec_good hd hc (fuel + 1)).1 c _ σ k _ _ h1 hI hg (enter_good hr hl) _ (fun e a' w' he => ?_)
      obtain ⟨rfl, k', rfl, g1, g2, g3⟩ := he
      exact fin φ σ2 none (weak φ σ2 h) k' a' .returning g1 g2 g3 rfl
    · rename_i x φ σ2 h1
      refine (exec_good hd hc (fuel + 1)).1 c _ σ k _ _ h1 hI hg (enter_good hr hl) _ (fun e a' w' he => ?_)
      obtain ⟨v, k', rfl, rfl, g1, g2, g3, g4⟩ := he
      exact fin φ σ2 (some x) h k' a' _ g1 g2 g3 ⟨v, rfl, g4⟩
    · cases h
end
end Go.DM
namespace Go.DM
open Go Go.RowKit

section
variable {C : Cfg} {ρ₁ ρ₂ : Operand → Option A} {o : Oper} {σ : St}

theorem plainOps_congr : ∀ {l : List Operand}, (∀ x ∈ l, ρ₁ x = ρ₂ x) → plainOps ρ₁ l = plainOps ρ₂ l
  | [], _ => rfl
  | x :: l, h => by
    have ih := plainOps_congr (l := l) (fun y hy => h y (by simp [hy]))
    unfold plainOps at ih ⊢
    simp only [List.all_cons, ih, h x (by simp)]
theorem opsOf_congr : ∀ {l : List Operand}, (∀ x ∈ l, ρ₁ x = ρ₂ x) → opsOf ρ₁ l = opsOf ρ₂ l
  | [], _ => rfl
  | x :: l, h => by
    have ih := opsOf_congr (l := l) (fun y hy => h y (by simp [hy]))
    simp only [opsOf, ih, h x (by simp)]
theorem partsOf_congr : ∀ {l : List (Nat × Operand)}, (∀ x ∈ l, ρ₁ x.2 = ρ₂ x.2) → partsOf ρ₁ l = partsOf ρ₂ l
  | [], _ => rfl
  | (i, x) :: l, h => by
    have ih := partsOf_congr (l := l) (fun y hy => h y (by simp [hy]))
    simp only [partsOf, ih, h (i, x) (by simp)]
theorem optOf_congr {x : Option Operand} (h : ∀ y, x = some y → ρ₁ y = ρ₂ y) : optOf ρ₁ x = optOf ρ₂ x := by
  cases x with
  | none => rfl
  | some y => simp only [optOf, h y rfl]
theorem detIf_congr (hs : ∀ cs b, o.op ≠ .select cs b) (h : ∀ x ∈ o.op.operands, ρ₁ x = ρ₂ x) : detIf C ρ₁ o σ = detIf C ρ₂ o σ := by
  have h1 : plainOps ρ₁ o.op.operands.toList = plainOps ρ₂ o.op.operands.toList := plainOps_congr (fun x hx => h x (by simpa using hx))
  have h2 : execOp (valOf ρ₁) o = execOp (valOf ρ₂) o := execOp_congr o hs (fun x hx => by unfold valOf; rw [h x hx])
  unfold detIf detOp
  rw [h1, h2]

theorem op_congr (h : ∀ x ∈ o.op.operands, ρ₁ x = ρ₂ x) : op C ρ₁ o σ = op C ρ₂ o σ := by
  have hdet : (∀ cs b, o.op ≠ .select cs b) → detIf C ρ₁ o σ = detIf C ρ₂ o σ := fun hs => detIf_congr hs h
  cases hop : o.op <;> simp only [hop, Op.operands] at h
  case call c =>
    have hd := hdet (by simp [hop])
    have ha : ∀ x ∈ c.args, ρ₁ x = ρ₂ x := fun x hx => h x (by simp [Call.operands, hx])
    have hl : opsOf ρ₁ c.args.toList = opsOf ρ₂ c.args.toList := opsOf_congr (fun x hx => ha x (by simpa using hx))
    cases hc : c.callee with
    | value f =>
      have hf := h f (by simp [Call.operands, hc])
      simp only [op, hop, hc, hd, hf, hl]
    | invoke x name =>
      have hf := h x (by simp [Call.operands, hc])
      simp only [op, hop, hc, hf, hl]
    | builtin b =>
      simp only [op, hop, hc]
      have ha' : ∀ x ∈ c.args.toList, ρ₁ x = ρ₂ x := fun x hx => ha x (by simpa using hx)
      unfold builtinOp
      generalize c.args.toList = l at ha'
      rw [hd]
      match l, ha' with
      | [], _ => cases b <;> rfl
      | [x], ha' => have h1 := ha' x (by simp); cases b <;> first | rfl | simp only [h1]
      | [x, y], ha' => have h1 := ha' x (by simp); have h2 := ha' y (by simp); cases b <;> first | rfl | simp only [h1, h2]
      | x :: y :: z :: l, _ => cases b <;> rfl
  case defer c =>
    have ha : ∀ x ∈ c.args, ρ₁ x = ρ₂ x := fun x hx => h x (by simp [Call.operands, hx])
    have hl : opsOf ρ₁ c.args.toList = opsOf ρ₂ c.args.toList := opsOf_congr (fun x hx => ha x (by simpa using hx))
    cases hc : c.callee with
    | value f =>
      have hf := h f (by simp [Call.operands, hc])
      simp only [op, hop, hc, hf, hl]
    | _ => simp only [op, hop, hc]
  case build t ps =>
    simp only [op, hop]
    rw [partsOf_congr (l := ps.toList) (fun x hx => h x.2 (by simp; exact ⟨x.1, by simpa using hx⟩))]
  case buildSlice t n ps =>
    simp only [op, hop]
    rw [partsOf_congr (l := ps.toList) (fun x hx => h x.2 (by simp; exact ⟨x.1, by simpa using hx⟩))]
  case makeFunc f first cap =>
    simp only [op, hop]
    rw [opsOf_congr (l := first.toList) (fun x hx => h x (by simp; exact .inl (by simpa using hx))), opsOf_congr (l := cap.toList) (fun x hx => h x (by simp; exact .inr (by simpa using hx)))]
  case makeMap t r => cases r <;> simp only [op, hop]
  case slice t x lo hi mx =>
    cases mx with
    | some m => simp only [op, hop]
    | none =>
      simp only [op, hop]
      rw [h x (by simp), optOf_congr (x := lo) (fun y hy => h y (by simp [hy])), optOf_congr (x := hi) (fun y hy => h y (by simp [hy])), hdet (by simp [hop])]
  case select cs b => simp only [op, hop]
  case go c => simp only [op, hop]
  all_goals
    have hd := hdet (by simp [hop])
    simp at h
    first
      | simp only [op, hop, h]; done
      | simp only [op, hop, h, hd]; done
      | (simp only [op, hop, h])

theorem quiet_st {x : A} {σ' : St} (h : op C ρ₁ o σ = some (.val x σ')) (hq : isQuiet C o = true) (hs : ∀ t y lo hi mx b p l c, o.op = .slice t y lo hi mx → ρ₁ y ≠ some (.ms b p l c)) : σ' = σ := by
  have hdet : ∀ {r}, detIf C ρ₁ o σ = some r → ∃ a, r = .val a σ := by
    intro r h
    unfold detIf detOp at h
    split at h
    · split at h
      · split at h
        · cases h; exact ⟨_, rfl⟩
        · cases h
      · cases h
    · cases h
  have hdet' : detIf C ρ₁ o σ = some (.val x σ') → σ' = σ := fun h => by obtain ⟨a, ha⟩ := hdet h; cases ha; rfl
  have hw : ∀ {y : Option A}, wrapV y σ = some (.val x σ') → σ' = σ := fun h => by obtain ⟨a, _, ha⟩ := wrapV_good h; cases ha; rfl
  cases hop : o.op <;> simp only [hop, isQuiet, Bool.false_eq_true] at hq <;> simp only [op, hop] at h
  case buildSlice t len parts =>
    have hm : C.mutB t = false := by simpa using hq
    split at h
    case h_2 => cases h
    rw [if_neg (by simp [hm])] at h
    exact hw h
  case convert s d y =>
    split at h
    case h_2 => cases h
    split at h
    · rename_i a s2 hc
      cases h
      unfold convertOp at hc
      repeat' split at hc
      all_goals first | (cases hc; rfl) | cases hc
    · exact hdet' h
  case slice t y lo hi mx =>
    cases mx with
    | some m => simp only at h; cases h
    | none =>
      simp only at h
      split at h
      case h_2 => cases h
      rename_i y' l h' hy hl hh
      split at h
      · rename_i a s2 hc
        cases h
        unfold sliceOp at hc
        split at hc
        · repeat' split at hc
          all_goals first | (cases hc; rfl) | cases hc
        · exact absurd hy (hs _ _ _ _ _ _ _ _ _ hop)
        · repeat' split at hc
          all_goals first | (cases hc; rfl) | cases hc
        · repeat' split at hc
          all_goals first | (cases hc; rfl) | cases hc
        · cases hc
      · exact hdet' h
  case call c =>
    cases hc : c.callee <;> simp only [hc, Bool.false_eq_true] at hq <;> simp only [hc] at h
    rename_i b
    unfold builtinOp at h
    cases b <;> simp only [Bool.false_eq_true] at hq
    all_goals
      repeat' split at h
    all_goals first | exact hdet' h | contradiction | (cases h; done) | (cases h; rfl)
  all_goals
    repeat' split at h
  all_goals first | exact hdet' h | exact hw h | (cases h; rfl) | (cases h; done)

theorem opQ_op {x : A} (h : opQ C ρ₁ o σ = some x) (hq : isQuiet C o = true) : op C ρ₁ o σ = some (.val x σ) := by
  have key : ∀ {y : A}, (∀ t z lo hi mx b p l c, o.op = .slice t z lo hi mx → ρ₁ z ≠ some (.ms b p l c)) → (match op C ρ₁ o σ with | some (.val x _) => some x | _ => none) = some y → op C ρ₁ o σ = some (.val y σ) := by
    intro y hs h
    split at h
    · rename_i z s2 ho
      cases h
      rw [ho, quiet_st ho hq hs]
    · cases h
  have hq' := hq
  unfold opQ at h
  cases hop : o.op <;> simp only [hop, isQuiet, Bool.false_eq_true] at hq' <;> simp only [hop] at h
  case buildSlice t len parts =>
    have hm : C.mutB t = false := by simpa using hq'
    rw [if_neg (by simp [hm])] at h
    exact key (fun t' z' lo' hi' mx' b p l c e => by rw [hop] at e; cases e) h
  case slice t z lo hi mx =>
    split at h
    · cases h
    · rename_i hne
      refine key (fun t' z' lo' hi' mx' b p l c e => ?_) h
      rw [hop] at e; cases e
      exact fun e => hne _ _ _ _ e
  case call c =>
    cases hc : c.callee <;> simp only [hc, Bool.false_eq_true] at hq' <;> simp only [hc] at h
    rename_i b
    cases b <;> simp only [Bool.false_eq_true] at hq' <;> exact key (fun t' z' lo' hi' mx' b p l c e => by rw [hop] at e; cases e) h
  all_goals exact key (fun t' z' lo' hi' mx' b p l c e => by rw [hop] at e; cases e) h
end

theorem scalEq_eq {x y : Value} (h : scalEq x y = true) : x = y := by
  unfold scalEq at h
  split at h <;> simp at h
  all_goals first
    | rfl
    | (subst h; rfl)
    | (obtain ⟨h1, h2⟩ := h; subst h1; subst h2; rfl)
    | (obtain ⟨h1, h2, h3⟩ := h; subst h1; subst h2; subst h3; rfl)
    | (obtain ⟨⟨h1, h2⟩, h3⟩ := h; subst h1; subst h2; subst h3; rfl)
    | (rename_i a b; obtain ⟨⟨a⟩⟩ := a; obtain ⟨⟨b⟩⟩ := b; simp at h; subst h; rfl)

mutual
theorem beq_eq : ∀ (x y : A), A.beq x y = true → x = y
  | .v x, y, h => by
    cases y <;> simp only [A.beq, Bool.false_eq_true] at h
    rw [scalEq_eq h]
  | .ptr b o, y, h => by
    cases y <;> simp [A.beq] at h
    obtain ⟨h1, h2⟩ := h; subst h1; subst h2; rfl
  | .sp cs o ap, y, h => by
    cases y <;> simp [A.beq] at h
    obtain ⟨⟨h1, h2⟩, h3⟩ := h
    rw [h1, h2, beqs_eq cs _ h3]
  | .sl z cs ap, y, h => by
    cases y <;> simp [A.beq] at h
    obtain ⟨⟨h1, h2⟩, h3⟩ := h
    rw [h1, h2, beqs_eq cs _ h3]
  | .ms b o l c, y, h => by
    cases y <;> simp [A.beq] at h
    obtain ⟨⟨⟨h1, h2⟩, h3⟩, h4⟩ := h
    rw [h1, h2, h3, h4]
  | .mp b, y, h => by
    cases y <;> simp [A.beq] at h
    rw [h]
  | .fn f u c, y, h => by cases y <;> simp [A.beq] at h
  | .ifc t x, y, h => by
    cases y <;> simp [A.beq] at h
    rw [h.1, beq_eq x _ h.2]
  | .agg cs, y, h => by
    cases y <;> simp [A.beq] at h
    rw [beqs_eq cs _ h]
  | .tup cs, y, h => by
    cases y <;> simp [A.beq] at h
    rw [beqs_eq cs _ h]
  | .raw i l, y, h => by cases y <;> simp [A.beq] at h
  | .junk, y, h => by cases y <;> simp [A.beq] at h
theorem beqs_eq : ∀ (x y : List A), beqs x y = true → x = y
  | [], y, h => by
    cases y with
    | nil => rfl
    | cons a r => simp [beqs] at h
  | x :: r, y, h => by
    cases y with
    | nil => simp [beqs] at h
    | cons a s =>
      simp [beqs] at h
      rw [beq_eq x a h.1, beqs_eq r s h.2]
end
theorem same_eq {x y : A} (h : A.same x y = true) : x = y := by
  unfold A.same at h
  rw [Bool.or_eq_true] at h
  rcases h with h | h
  · exact beq_eq _ _ h
  · simpa using h
theorem A.same_self (x : A) : A.same x x = true := by
  unfold A.same
  simp
end Go.DM
namespace Go.DM
open Go Go.RowKit

section
variable {C : Cfg} {ρ : Operand → Option A} {o : Oper} {σ σ' : St} {x : A}
def valR : Option R → Option A
  | some (.val x _) => some x
  | _ => none
theorem detIf_pure : ∃ v : Option A, ∀ σ, detIf C ρ o σ = v.map fun a => R.val a σ := by
  unfold detIf
  by_cases hp : plainOps ρ o.op.operands.toList = true
  · simp only [if_pos hp]
    unfold detOp
    cases det C.P (execOp (valOf ρ) o) with
    | none => exact ⟨none, fun _ => rfl⟩
    | some r =>
      cases r with
      | value u =>
        simp only
        cases ofVal u with
        | none => exact ⟨none, fun _ => rfl⟩
        | some a => exact ⟨some a, fun _ => rfl⟩
      | _ => exact ⟨none, fun _ => rfl⟩
  · simp only [if_neg hp]; exact ⟨none, fun _ => rfl⟩
theorem valR_map (v : Option A) (σ : St) : valR (v.map fun a => R.val a σ) = v := by cases v <;> rfl
theorem valR_wrap (v : Option A) (σ : St) : valR (wrapV v σ) = v := by cases v <;> rfl
theorem len_pure {c : Call} (hop : o.op = .call c) (hq : pureQ C ρ o = true) : c.callee = .builtin .len ∧ ∃ y a, c.args.toList = [y] ∧ ρ y = some a ∧ ((∃ z cs ap, a = .sl z cs ap) ∨ (∃ u, a = .v u) ∨ ∃ b o l k, a = .ms b o l k) := by
  unfold pureQ at hq
  simp only [hop] at hq
  split at hq
  · rename_i y h1 h2
    refine ⟨h1, y, ?_⟩
    split at hq
    · rename_i hx; exact ⟨_, h2, hx, .inl ⟨_, _, _, rfl⟩⟩
    · rename_i hx; exact ⟨_, h2, hx, .inr (.inl ⟨_, rfl⟩)⟩
    · rename_i hx; exact ⟨_, h2, hx, .inr (.inr ⟨_, _, _, _, rfl⟩)⟩
    · cases hq
  · cases hq
theorem op_pureV (hq : pureQ C ρ o = true) : valR (op C ρ o σ) = valR (op C ρ o σ') := by
  obtain ⟨v, hv⟩ := detIf_pure (C := C) (ρ := ρ) (o := o)
  have hq0 := hq
  unfold pureQ at hq
  cases hop : o.op <;> simp only [hop] at hq <;> first | cases hq | skip
  case call c =>
    obtain ⟨h1, y, a, h2, h3, h4⟩ := len_pure hop hq0
    simp only [op, hop, h1, builtinOp, h2, h3, hv]
    rcases h4 with ⟨z, cs, ap, rfl⟩ | ⟨u, rfl⟩ | ⟨b, o, l, k, rfl⟩
    · cases c.argTypes[0]? with
      | none => rfl
      | some t =>
        simp only [lenA]
        cases C.P.underlying t with
        | none => simp only [valR_map]
        | some d => cases d <;> first | rfl | (cases v <;> rfl)
    · cases c.argTypes[0]? with
      | none => rfl
      | some t =>
        simp only [lenA]
        cases C.P.underlying t with
        | none => simp only [valR_map]
        | some d => cases d <;> first | rfl | (cases v <;> rfl)
    · cases c.argTypes[0]? with
      | none => rfl
      | some t =>
        simp only [lenA]
        cases C.P.underlying t with
        | none => simp only [valR_map]
        | some d => cases d <;> first | rfl | (cases v <;> rfl)
  case buildSlice t len parts =>
    have hm : C.mutB t = false := by simpa using hq
    simp only [op, hop]
    cases partsOf ρ parts.toList with
    | none => rfl
    | some l => simp only [hm, Bool.false_eq_true, if_false, valR_wrap]
  all_goals simp only [op, hop, hv]
  all_goals first
    | (split at hq
       · rename_i hx
         simp only [hx, loadOp]
         simp only [valR_wrap]
       · cases hq)
    | (repeat' split) <;> first | rfl | simp only [valR_map, valR_wrap] | skip
theorem opQ_pure (hq : pureQ C ρ o = true) (h : opQ C ρ o σ = some x) : opQ C ρ o σ' = some x := by
  have hv := op_pureV (C := C) (σ := σ) (σ' := σ') hq
  have hq0 := hq
  unfold pureQ at hq
  unfold opQ at h ⊢
  have fin : valR (op C ρ o σ) = some x → ∃ s, op C ρ o σ' = some (.val x s) := by
    intro e
    rw [hv] at e
    cases ho : op C ρ o σ' with
    | none => rw [ho] at e; cases e
    | some r => rw [ho] at e; cases r <;> first | (cases e; exact ⟨_, rfl⟩) | cases e
  have back : (∃ s, op C ρ o σ = some (.val x s)) → valR (op C ρ o σ) = some x := by rintro ⟨s, hs⟩; rw [hs]; rfl
  cases hop : o.op <;> simp only [hop] at hq h ⊢ <;> first | cases hq | skip
  case buildSlice t len parts =>
    have hm : C.mutB t = false := by simpa using hq
    rw [if_neg (by simp [hm])] at h ⊢
    split at h
    · rename_i y s hs; cases h
      obtain ⟨s', hs'⟩ := fin (back ⟨_, hs⟩)
      simp only [hs']
    · cases h
  case call c =>
    obtain ⟨h1, _⟩ := len_pure hop hq0
    simp only [h1] at h ⊢
    split at h
    · rename_i y s hs; cases h
      obtain ⟨s', hs'⟩ := fin (back ⟨_, hs⟩)
      simp only [hs']
    · cases h
  all_goals
    split at h
    · rename_i y s hs; cases h
      obtain ⟨s', hs'⟩ := fin (back ⟨_, hs⟩)
      simp only [hs']
    · cases h
end

/-- the edges -/
def befVal (acc : Array Nat) (o : Oper) : Nat := o.after.foldl (fun s e => if Region.binds .any e then s ||| 2 ^ e.on ||| acc.getD e.on 0 else s) 0
def befF (acc : Array Nat) (o : Oper) : Array Nat := acc.push (befVal acc o)
theorem before_eq (ops : Array Oper) : Region.before ops = ops.toList.foldl befF #[] := by
  unfold Region.before
  rw [← Array.foldl_toList]
  rfl
theorem befF_size : ∀ (l : List Oper) (acc : Array Nat), (l.foldl befF acc).size = acc.size + l.length
  | [], acc => rfl
  | o :: l, acc => by simp only [List.foldl_cons, befF_size l, befF, Array.size_push, List.length_cons]; omega
theorem befF_keep : ∀ (l : List Oper) (acc : Array Nat) (i : Nat), i < acc.size → (l.foldl befF acc).getD i 0 = acc.getD i 0
  | [], acc, i, _ => rfl
  | o :: l, acc, i, h => by
    simp only [List.foldl_cons]
    rw [befF_keep l (befF acc o) i (by simp [befF]; omega)]
    simp [befF, Array.getD_eq_getD_getElem?, Array.getElem?_push, Nat.ne_of_lt h]
theorem befF_at : ∀ (l : List Oper) (acc : Array Nat) (i : Nat) (o : Oper), l[i]? = some o → (l.foldl befF acc).getD (acc.size + i) 0 = befVal ((l.take i).foldl befF acc) o
  | [], acc, i, o, h => by simp at h
  | p :: l, acc, 0, o, h => by
    simp at h; subst h
    simp only [List.foldl_cons, Nat.add_zero, List.take_zero, List.foldl_nil]
    rw [befF_keep l (befF acc p) acc.size (by simp [befF])]
    simp [befF, Array.getD_eq_getD_getElem?]
  | p :: l, acc, i + 1, o, h => by
    simp only [List.foldl_cons, List.take_succ_cons]
    have := befF_at l (befF acc p) i o (by simpa using h)
    rw [← this]
    congr 1
    simp [befF]; omega
theorem befVal_bit (acc : Array Nat) (o : Oper) (p : Nat) (h : (befVal acc o).testBit p = true) : ∃ e ∈ o.after, Region.binds .any e = true ∧ (p = e.on ∨ (acc.getD e.on 0).testBit p = true) := by
  unfold befVal at h
  rw [← Array.foldl_toList] at h
  have key : ∀ (l : List Edge) (s : Nat), (l.foldl (fun s e => if Region.binds .any e then s ||| 2 ^ e.on ||| acc.getD e.on 0 else s) s).testBit p = true → s.testBit p = true ∨ ∃ e ∈ l, Region.binds .any e = true ∧ (p = e.on ∨ (acc.getD e.on 0).testBit p = true) := by
    intro l
    induction l with
    | nil => intro s h; exact .inl h
    | cons e l ih =>
      intro s h
      simp only [List.foldl_cons] at h
      rcases ih _ h with h | ⟨e', h1, h2⟩
      · split at h
        · rename_i hb
          simp only [Nat.testBit_or, Bool.or_eq_true, Nat.testBit_two_pow, decide_eq_true_eq] at h
          rcases h with (h | h) | h
          · exact .inl h
          · exact .inr ⟨e, by simp, hb, .inl h.symm⟩
          · exact .inr ⟨e, by simp, hb, .inr h⟩
        · exact .inl h
      · exact .inr ⟨e', by simp [h1], h2⟩
  rcases key _ _ h with h | ⟨e, h1, h2⟩
  · simp at h
  · exact ⟨e, by simpa using h1, h2⟩

/-- what the text tells of an allocation that may be early -/
structure EarlyT (C : Cfg) (ops : Array Oper) (j : Nat) : Prop where
  alloc : ∃ o, ops[j]? = some o ∧ isNew o = true
  use : ∀ p q o d, j < p → ops[p]? = some q → ops[j]? = some o → o.dst = some d → d ∈ slotsOf ops q → ∀ i r, i < j → ops[i]? = some r → isQuiet C r = false → bfr (Region.before ops) i p = true
theorem earlyT {C : Cfg} {ops : Array Oper} {j : Nat} (h : earlyOk C ops (Region.before ops) j = true) : EarlyT C ops j := by
  unfold earlyOk at h
  split at h
  case h_2 => cases h
  rename_i o ho
  rw [Bool.and_eq_true] at h
  obtain ⟨h1, h2⟩ := h
  refine ⟨⟨o, ho, h1⟩, fun p q o' d hp hq ho' hd hs i r hi hr hl => ?_⟩
  rw [ho] at ho'; cases ho'
  have := (List.all_eq_true.1 h2) p (List.mem_range.2 (Array.getElem?_eq_some_iff.1 hq).1)
  rw [hq] at this
  simp only at this
  rw [hd] at this
  simp only [Bool.or_eq_true, decide_eq_true_eq, Bool.not_eq_true', List.contains_eq_mem, decide_eq_false_iff_not] at this
  rcases this with h | h | h
  · omega
  · exact absurd hs h
  · have := (List.all_eq_true.1 h) i (List.mem_range.2 hi)
    rw [hr] at this
    simp only at this
    rw [hl, Bool.false_or] at this; exact this

/-- what the text tells of a region -/
structure TextOk (C : Cfg) (ops : Array Oper) : Prop where
  on : ∀ j o e, ops[j]? = some o → e ∈ o.after → Region.binds .any e = true → e.on < j
  loud : ∀ i j p o, i ≠ j → ops[i]? = some p → ops[j]? = some o → isQuiet C p = false → isQuiet C o = false → (bfr (Region.before ops) i j = true ∨ bfr (Region.before ops) j i = true) ∨ (i < j ∧ EarlyT C ops j) ∨ (j < i ∧ EarlyT C ops i)
  slot : ∀ i j p o d, i ≠ j → ops[i]? = some p → ops[j]? = some o → p.dst = some d → d ∈ slotsOf ops o → bfr (Region.before ops) i j = true ∨ bfr (Region.before ops) j i = true

theorem textOk {C : Cfg} {ops : Array Oper} (h : drawOk C ops (Region.before ops) = true) : TextOk C ops := by
  unfold drawOk at h
  rw [List.all_eq_true] at h
  have lt : ∀ {j : Nat} {o : Oper}, ops[j]? = some o → j ∈ List.range ops.size := fun h => List.mem_range.2 (Array.getElem?_eq_some_iff.1 h).1
  have pair : ∀ {i j : Nat} {p o : Oper}, i ≠ j → ops[i]? = some p → ops[j]? = some o → ((isQuiet C p || isQuiet C o || bfr (Region.before ops) i j || bfr (Region.before ops) j i || (decide (i < j) && earlyOk C ops (Region.before ops) j) || (decide (j < i) && earlyOk C ops (Region.before ops) i)) &&
            (match p.dst with
              | some d => !(slotsOf ops o).contains d || bfr (Region.before ops) i j || bfr (Region.before ops) j i
              | none => true)) = true := by
    intro i j p o hne hi hj
    have h1 := h j (lt hj)
    rw [hj] at h1
    simp only [Bool.and_eq_true] at h1
    have h2 := (List.all_eq_true.1 h1.2) i (lt hi)
    rw [hi] at h2
    simp only at h2
    rw [beq_false_of_ne hne, Bool.false_or] at h2
    exact h2
  refine ⟨fun j o e hj he hb => ?_, fun i j p o hne hi hj hp ho => ?_, fun i j p o d hne hi hj hd hs => ?_⟩
  · have h1 := h j (lt hj)
    rw [hj] at h1
    simp only [Bool.and_eq_true, Array.all_eq_true_iff_forall_mem] at h1
    have := h1.1 e he
    simpa [hb] using this
  · have := pair hne hi hj
    simp only [Bool.and_eq_true, hp, ho, Bool.false_or, Bool.or_eq_true, decide_eq_true_eq] at this
    rcases this.1 with (h | h) | h
    · exact .inl h
    · exact .inr (.inl ⟨h.1, earlyT h.2⟩)
    · exact .inr (.inr ⟨h.1, earlyT h.2⟩)
  · have := pair hne hi hj
    simp only [Bool.and_eq_true, hd] at this
    have h2 := this.2
    simp only [Bool.or_eq_true, Bool.not_eq_true', List.contains_eq_mem, decide_eq_false_iff_not] at h2
    rcases h2 with (h2 | h2) | h2
    · exact absurd hs h2
    · exact .inl h2
    · exact .inr h2

theorem bfr_spec {ops : Array Oper} (hT : ∀ j o e, ops[j]? = some o → e ∈ o.after → Region.binds .any e = true → e.on < j) {p i : Nat} (h : bfr (Region.before ops) p i = true) : ∃ o, ops[i]? = some o ∧ ∃ e ∈ o.after, Region.binds .any e = true ∧ (p = e.on ∨ bfr (Region.before ops) p e.on = true) := by
  unfold bfr at h ⊢
  rw [before_eq] at h ⊢
  cases ho : ops.toList[i]? with
  | none =>
    have hlen : ops.toList.length ≤ i := List.getElem?_eq_none_iff.1 ho
    have : (ops.toList.foldl befF #[]).getD i 0 = 0 := by
      rw [Array.getD_eq_getD_getElem?, Array.getElem?_eq_none (by rw [befF_size]; simpa using hlen)]; rfl
    rw [this] at h; simp at h
  | some o =>
    have ho' : ops[i]? = some o := by simpa using ho
    refine ⟨o, ho', ?_⟩
    have h1 := befF_at ops.toList #[] i o ho
    simp only [List.size_toArray, List.length_nil, Nat.zero_add] at h1
    rw [h1] at h
    obtain ⟨e, h2, h3, h4⟩ := befVal_bit _ _ _ h
    refine ⟨e, h2, h3, h4.imp id (fun h4 => ?_)⟩
    have hon := hT i o e ho' h2 h3
    have hi : i < ops.size := (Array.getElem?_eq_some_iff.1 ho').1
    have hk := befF_keep (ops.toList.drop i) ((ops.toList.take i).foldl befF #[]) e.on (by rw [befF_size]; simp; omega)
    rw [← List.foldl_append, List.take_append_drop] at hk
    rw [hk]; exact h4
theorem bfr_lt {ops : Array Oper} (hT : ∀ j o e, ops[j]? = some o → e ∈ o.after → Region.binds .any e = true → e.on < j) : ∀ (i p : Nat), bfr (Region.before ops) p i = true → p < i := by
  intro i
  induction i using Nat.strongRecOn with
  | _ i ih =>
    intro p h
    obtain ⟨o, h1, e, h2, h3, h4⟩ := bfr_spec hT h
    have hon := hT i o e h1 h2 h3
    rcases h4 with rfl | h4
    · exact hon
    · exact Nat.lt_trans (ih e.on hon p h4) hon

/-- the run in the text's order -/
structure Ent where
  φ : Fr
  σ : St
  x : A

section
variable {C : Cfg} {w0 : World} {callF : CallF} {n : Nat} {ops : Array Oper}

def Fact (C : Cfg) (callF : CallF) (n : Nat) (ops : Array Oper) (dd al : Nat → Bool) (e : Nat → Ent) (i : Nat) (o : Oper) : Prop :=
  putA n (e i).φ o.dst (e i).x = some (e (i + 1)).φ ∧
  ((wantedA ops (e i).φ o = some false ∧ (e i).x = und ∧ (e (i + 1)).σ = (e i).σ) ∨
   (wantedA ops (e i).φ o = some true ∧ isQuiet C o = true ∧ opQ C (ev C (e i).φ) o (e i).σ = some (e i).x ∧ (e (i + 1)).σ = (e i).σ) ∨
   (wantedA ops (e i).φ o = some true ∧ isQuiet C o = false ∧ loudStep C callF (e i).φ o (e i).σ = some ((e i).x, (e (i + 1)).σ)) ∨
   (dd i = true ∧ (e (i + 1)).σ = (e i).σ) ∨
   (al i = true ∧ wantedA ops (e i).φ o = some true ∧ isQuiet C o = false ∧ allocZ C o = true ∧ (e (i + 1)).σ = (e i).σ))
def Qu (C : Cfg) (ops : Array Oper) (e : Nat → Ent) (i : Nat) (o : Oper) : Prop := wantedA ops (e i).φ o = some true ∧ isQuiet C o = true
def Lo (C : Cfg) (ops : Array Oper) (e : Nat → Ent) (i : Nat) : Prop := ∃ o, ops[i]? = some o ∧ wantedA ops (e i).φ o = some true ∧ isQuiet C o = false

structure Trace (C : Cfg) (callF : CallF) (n : Nat) (ops : Array Oper) (dd al : Nat → Bool) (bef : Array Nat) (j : Nat) (past : List (Nat × St)) (pend : List (Nat × Fr × Oper × A)) (e : Nat → Ent) : Prop where
  fact : ∀ i o, j ≤ i → ops[i]? = some o → Fact C callF n ops dd al e i o
  past : ∀ i o, j ≤ i → dd i = false → ops[i]? = some o → Qu C ops e i o → ∀ x ∈ past, bfr bef x.1 i = true ∨ sameA C (e i).φ o x.2 (e i).x = true
  pastI : ∀ i o, j ≤ i → dd i = false → ops[i]? = some o → Qu C ops e i o → ∀ p, j ≤ p → p < i → al p = false → Lo C ops e p → bfr bef p i = true ∨ sameA C (e i).φ o (e p).σ (e i).x = true
  pend : ∀ i, j ≤ i → dd i = false → al i = false → Lo C ops e i → ∀ y ∈ pend, bfr bef y.1 i = true ∨ sameA C y.2.1 y.2.2.1 (e (i + 1)).σ y.2.2.2 = true
  pendI : ∀ i, j ≤ i → dd i = false → al i = false → Lo C ops e i → ∀ q o, j ≤ q → q < i → dd q = false → ops[q]? = some o → Qu C ops e q o → bfr bef q i = true ∨ sameA C (e q).φ o (e (i + 1)).σ (e q).x = true

def consE (j : Nat) (a : Ent) (e : Nat → Ent) : Nat → Ent := fun i => if i = j then a else e i
theorem consE_at (j : Nat) (a : Ent) (e : Nat → Ent) : consE j a e j = a := by simp [consE]
theorem consE_ne {j i : Nat} (a : Ent) (e : Nat → Ent) (h : j + 1 ≤ i) : consE j a e i = e i := by
  have : ¬ i = j := by omega
  simp [consE, this]

theorem trace_cons {bef : Array Nat} {j : Nat} {past past' : List (Nat × St)} {pend pend' : List (Nat × Fr × Oper × A)} {e : Nat → Ent} {a : Ent} {o : Oper} {dd al : Nat → Bool} (ho : ops[j]? = some o)
    (h : Trace C callF n ops dd al bef (j + 1) past' pend' e) (hf : Fact C callF n ops dd al (consE j a e) j o) (hp : ∀ x ∈ past, x ∈ past') (hq : ∀ x ∈ pend, x ∈ pend')
    (h1 : dd j = false → wantedA ops a.φ o = some true → isQuiet C o = true → (∀ x ∈ past, bfr bef x.1 j = true ∨ sameA C a.φ o x.2 a.x = true) ∧ (j, a.φ, o, a.x) ∈ pend')
    (h2 : al j = false → wantedA ops a.φ o = some true → isQuiet C o = false → (dd j = false → ∀ y ∈ pend, bfr bef y.1 j = true ∨ sameA C y.2.1 y.2.2.1 (e (j + 1)).σ y.2.2.2 = true) ∧ (j, a.σ) ∈ past') :
    Trace C callF n ops dd al bef j past pend (consE j a e) := by
  have hn : ∀ {i}, j ≤ i → i ≠ j → j + 1 ≤ i := fun h h' => by omega
  have lo : ∀ {i}, j + 1 ≤ i → Lo C ops (consE j a e) i → Lo C ops e i := fun hi ⟨p, q1, q2⟩ => ⟨p, q1, by rw [consE_ne a e hi] at q2; exact q2⟩
  have qu : ∀ {i p}, j + 1 ≤ i → Qu C ops (consE j a e) i p → Qu C ops e i p := fun hi q => by unfold Qu at q ⊢; rw [consE_ne a e hi] at q; exact q
  have loj : Lo C ops (consE j a e) j → wantedA ops a.φ o = some true ∧ isQuiet C o = false := by
    rintro ⟨p, q1, q2⟩
    rw [ho] at q1; cases q1
    rw [consE_at] at q2; exact q2
  have quj : ∀ {p}, ops[j]? = some p → Qu C ops (consE j a e) j p → p = o ∧ wantedA ops a.φ o = some true ∧ isQuiet C o = true := by
    intro p q1 q2
    rw [ho] at q1; cases q1
    unfold Qu at q2
    rw [consE_at] at q2; exact ⟨rfl, q2⟩
  refine ⟨fun i p hi hip => ?_, fun i p hi hdi hip hqu x hx => ?_, fun i p hi hdi hip hqu q hq1 hq2 hal hlo => ?_, fun i hi hdi hal hlo y hy => ?_, fun i hi hdi hal hlo q p hq1 hq2 hdq hqp hqu => ?_⟩
  · by_cases hij : i = j
    · subst hij; rw [ho] at hip; cases hip; exact hf
    · have hi' := hn hi hij
      have := h.fact i p hi' hip
      unfold Fact at this ⊢
      rw [consE_ne a e hi', consE_ne a e (Nat.le_succ_of_le hi')]; exact this
  · by_cases hij : i = j
    · subst hij
      obtain ⟨rfl, q1, q2⟩ := quj hip hqu
      rw [consE_at]
      exact (h1 hdi q1 q2).1 x hx
    · have hi' := hn hi hij
      have := h.past i p hi' hdi hip (qu hi' hqu) x (hp x hx)
      rw [consE_ne a e hi']; exact this
  · have hij : i ≠ j := by omega
    have hi' := hn hi hij
    rw [consE_ne a e hi']
    by_cases hqj : q = j
    · subst hqj
      obtain ⟨q1, q2⟩ := loj hlo
      rw [consE_at]
      exact h.past i p hi' hdi hip (qu hi' hqu) _ (h2 hal q1 q2).2
    · have hq' := hn hq1 hqj
      rw [consE_ne a e hq']
      exact h.pastI i p hi' hdi hip (qu hi' hqu) q hq' hq2 hal (lo hq' hlo)
  · by_cases hij : i = j
    · subst hij
      obtain ⟨q1, q2⟩ := loj hlo
      rw [consE_ne a e (Nat.le_refl _)]
      exact (h2 hal q1 q2).1 hdi y hy
    · have hi' := hn hi hij
      rw [consE_ne a e (Nat.le_succ_of_le hi')]
      exact h.pend i hi' hdi hal (lo hi' hlo) y (hq y hy)
  · have hij : i ≠ j := by omega
    have hi' := hn hi hij
    rw [consE_ne a e (Nat.le_succ_of_le hi')]
    by_cases hqj : q = j
    · subst hqj
      obtain ⟨rfl, q1, q2⟩ := quj hqp hqu
      rw [consE_at]
      exact h.pend i hi' hdi hal (lo hi' hlo) _ (h1 hdq q1 q2).2
    · have hq' := hn hq1 hqj
      rw [consE_ne a e hq']
      exact h.pendI i hi' hdi hal (lo hi' hlo) q p hq' hq2 hdq hqp (qu hq' hqu)

/-- the operations that a call's panic leaves out, and the call -/
def ddOf (bef : Array Nat) : Option Nat → Nat → Bool
  | none, _ => false
  | some p, i => decide (i = p) || bfr bef p i
/-- the allocations behind a call that panics that do not wait for it -/
def alOf (ops : Array Oper) (bef : Array Nat) : Option Nat → Nat → Bool
  | none, _ => false
  | some p, i => decide (p < i) && !bfr bef p i && (match ops[i]? with
    | some o => isAlloc o
    | none => false)
theorem runDv_trace (bef : Array Nat) (jp : Nat) : ∀ (l : List Oper) (j : Nat) (φ : Fr) (σ : St) (past : List (Nat × St)) (pend : List (Nat × Fr × Oper × A)), jp < j → (∀ i, l[i]? = ops[j + i]?) →
    runDv C n ops bef jp l j φ σ past = true → ∃ e : Nat → Ent, (e j).φ = φ ∧ (e j).σ = σ ∧ Trace C callF n ops (ddOf bef (some jp)) (alOf ops bef (some jp)) bef j past pend e
  | [], j, φ, σ, past, pend, hjp, hl, h => by
    have none : ∀ i, j ≤ i → ops[i]? = none := fun i hi => by
      have := hl (i - j)
      rw [show j + (i - j) = i by omega] at this
      rw [← this]; simp
    refine ⟨fun _ => ⟨φ, σ, und⟩, rfl, rfl, ⟨fun i o hi ho => ?_, fun i o hi _ ho => ?_, fun i o hi _ ho => ?_, fun i hi _ _ ⟨o, ho, _⟩ => ?_, fun i hi _ _ ⟨o, ho, _⟩ => ?_⟩⟩
    all_goals rw [none i hi] at ho; cases ho
  | o :: l, j, φ, σ, past, pend, hjp, hl, h => by
    have h0 : ops[j]? = some o := by simpa using (hl 0).symm
    have hl' : ∀ i, l[i]? = ops[j + 1 + i]? := fun i => by have := hl (i + 1); simpa [Nat.add_assoc, Nat.add_comm 1 i] using this
    simp only [runDv] at h
    split at h
    · rename_i hb
      split at h
      case h_2 => cases h
      rename_i φ' hp
      have hdd : ddOf bef (some jp) j = true := by simp [ddOf, hb]
      obtain ⟨e, g1, g2, g3⟩ := runDv_trace bef jp l (j + 1) φ' σ ((j, σ) :: past) pend (by omega) hl' h
      refine ⟨consE j ⟨φ, σ, .junk⟩ e, by rw [consE_at], by rw [consE_at], ?_⟩
      refine trace_cons h0 g3 ?_ (fun _ h => by simp [h]) (fun _ h => h) (fun c => by rw [hdd] at c; cases c) (fun _ _ _ => ⟨fun c => (by rw [hdd] at c; cases c), by simp⟩)
      unfold Fact
      rw [consE_at, consE_ne _ _ (Nat.le_refl _), g1, g2]
      exact ⟨hp, .inr (.inr (.inr (.inl ⟨hdd, rfl⟩)))⟩
    · rename_i hb
      split at h
      · rename_i hw
        split at h
        case isFalse =>
          rename_i hq
          have hq : isQuiet C o = false := by simpa using hq
          split at h
          case isFalse => cases h
          rename_i haz
          split at h
          case h_2 => cases h
          rename_i φ' hp
          obtain ⟨e, g1, g2, g3⟩ := runDv_trace bef jp l (j + 1) φ' σ past pend (by omega) hl' h
          have hal : alOf ops bef (some jp) j = true := by
            have hb' : bfr bef jp j = false := by simpa using hb
            show (decide (jp < j) && !bfr bef jp j && (match ops[j]? with
              | some o => isAlloc o
              | none => false)) = true
            rw [h0]
            simp only [hb', hjp, decide_true, Bool.not_false, Bool.true_and]
            unfold allocZ at haz
            unfold isAlloc
            split at haz
            · rfl
            · cases haz
          refine ⟨consE j ⟨φ, σ, .junk⟩ e, by rw [consE_at], by rw [consE_at], ?_⟩
          refine trace_cons h0 g3 ?_ (fun _ h => h) (fun _ h => h) (fun _ _ h => by rw [hq] at h; cases h) (fun c => by rw [hal] at c; cases c)
          unfold Fact
          rw [consE_at, consE_ne _ _ (Nat.le_refl _), g1, g2]
          exact ⟨hp, .inr (.inr (.inr (.inr ⟨hal, hw, hq, haz, rfl⟩)))⟩
        rename_i hq
        split at h
        case h_2 => cases h
        rename_i x hx
        split at h
        case isFalse => cases h
        rename_i hst
        split at h
        case h_2 => cases h
        rename_i φ' hp
        obtain ⟨e, g1, g2, g3⟩ := runDv_trace bef jp l (j + 1) φ' σ past ((j, φ, o, x) :: pend) (by omega) hl' h
        refine ⟨consE j ⟨φ, σ, x⟩ e, by rw [consE_at], by rw [consE_at], ?_⟩
        refine trace_cons h0 g3 ?_ (fun _ h => h) (fun _ h => by simp [h]) (fun _ _ _ => ⟨fun y hy => ?_, by simp⟩) (fun _ _ h => by rw [hq] at h; cases h)
        · unfold Fact
          rw [consE_at, consE_ne _ _ (Nat.le_refl _), g1, g2]
          exact ⟨hp, .inr (.inl ⟨hw, hq, hx, rfl⟩)⟩
        · have := (List.all_eq_true.1 hst) y hy
          simpa using this
      · rename_i hw
        split at h
        case h_2 => cases h
        rename_i φ' hp
        obtain ⟨e, g1, g2, g3⟩ := runDv_trace bef jp l (j + 1) φ' σ past pend (by omega) hl' h
        refine ⟨consE j ⟨φ, σ, und⟩ e, by rw [consE_at], by rw [consE_at], ?_⟩
        refine trace_cons h0 g3 ?_ (fun _ h => h) (fun _ h => h) (fun _ h _ => by simp only at h; rw [hw] at h; cases h) (fun _ h _ => by simp only at h; rw [hw] at h; cases h)
        unfold Fact
        rw [consE_at, consE_ne _ _ (Nat.le_refl _), g1, g2]
        exact ⟨hp, .inl ⟨hw, rfl, rfl⟩⟩
      · cases h
/-- how a run ends: at the end, or with a call's panic -/
def EndOf (C : Cfg) (callF : CallF) (ops : Array Oper) (e : Nat → Ent) (r : X × Fr × St) (m : Nat) : Option Nat → Prop
  | none => r = (.normal, (e m).φ, (e m).σ)
  | some p => ∃ o f args σ1 v σ2, ops[p]? = some o ∧ wantedA ops (e p).φ o = some true ∧ isQuiet C o = false ∧ op C (ev C (e p).φ) o (e p).σ = some (.call f args σ1) ∧ callF f args σ1 = some (.pan v, σ2) ∧ r = (.pan v, junkF ops.toList (e p).φ, σ2)
theorem panStep_inv {φ : Fr} {o : Oper} {σ σ2 : St} {v : A} (h : panStep C callF φ o σ = some (v, σ2)) : ∃ f args σ1, op C (ev C φ) o σ = some (.call f args σ1) ∧ callF f args σ1 = some (.pan v, σ2) := by
  unfold panStep at h
  split at h
  · rename_i f args σ1 hop
    split at h
    · rename_i v' σ2' hc
      cases h
      exact ⟨f, args, σ1, hop, hc⟩
    · cases h
  · cases h
theorem runDq_trace (bef : Array Nat) : ∀ (l : List Oper) (j : Nat) (φ : Fr) (σ : St) (past : List (Nat × St)) (pend : List (Nat × Fr × Oper × A)) (r : X × Fr × St), (∀ i, l[i]? = ops[j + i]?) →
    runDq C callF n ops bef l j φ σ past pend = some r → ∃ (P : Option Nat) (e : Nat → Ent), (e j).φ = φ ∧ (e j).σ = σ ∧ Trace C callF n ops (ddOf bef P) (alOf ops bef P) bef j past pend e ∧ (∀ p, P = some p → j ≤ p) ∧ EndOf C callF ops e r (j + l.length) P
  | [], j, φ, σ, past, pend, r, hl, h => by
    simp only [runDq] at h; cases h
    have none : ∀ i, j ≤ i → ops[i]? = none := fun i hi => by
      have := hl (i - j)
      rw [show j + (i - j) = i by omega] at this
      rw [← this]; simp
    refine ⟨.none, fun _ => ⟨φ, σ, und⟩, rfl, rfl, ⟨fun i o hi ho => ?_, fun i o hi _ ho => ?_, fun i o hi _ ho => ?_, fun i hi _ _ ⟨o, ho, _⟩ => ?_, fun i hi _ _ ⟨o, ho, _⟩ => ?_⟩, fun p c => by (cases c), rfl⟩
    all_goals rw [none i hi] at ho; cases ho
  | o :: l, j, φ, σ, past, pend, r, hl, h => by
    have h0 : ops[j]? = some o := by simpa using (hl 0).symm
    have hl' : ∀ i, l[i]? = ops[j + 1 + i]? := fun i => by have := hl (i + 1); simpa [Nat.add_assoc, Nat.add_comm 1 i] using this
    have hlen : j + (o :: l).length = j + 1 + l.length := by simp; omega
    have hat : ∀ (a : Ent) (e : Nat → Ent) (P : Option Nat), (∀ p, P = some p → j + 1 ≤ p) → EndOf C callF ops e r (j + 1 + l.length) P → EndOf C callF ops (consE j a e) r (j + 1 + l.length) P := by
      intro a e P hP hE
      cases P with
      | none => simp only [EndOf] at hE ⊢; rw [consE_ne a e (by omega)]; exact hE
      | some p => simp only [EndOf] at hE ⊢; rw [consE_ne a e (hP p rfl)]; exact hE
    simp only [runDq] at h
    split at h
    · rename_i hw
      split at h
      · rename_i hq
        split at h
        case h_2 => cases h
        rename_i x hx
        split at h
        case isFalse => cases h
        rename_i hst
        split at h
        case h_2 => cases h
        rename_i φ' hp
        obtain ⟨P, e, g1, g2, g3, g5, g4⟩ := runDq_trace bef l (j + 1) φ' σ past ((j, φ, o, x) :: pend) r hl' h
        refine ⟨P, consE j ⟨φ, σ, x⟩ e, by rw [consE_at], by rw [consE_at], ?_, fun p c => by (have := g5 p c; omega), by rw [hlen]; exact hat _ _ P g5 g4⟩
        refine trace_cons h0 g3 ?_ (fun _ h => h) (fun _ h => by simp [h]) (fun _ _ _ => ⟨fun y hy => ?_, by simp⟩) (fun _ _ h => by rw [hq] at h; cases h)
        · unfold Fact
          rw [consE_at, consE_ne _ _ (Nat.le_refl _), g1, g2]
          exact ⟨hp, .inr (.inl ⟨hw, hq, hx, rfl⟩)⟩
        · have := (List.all_eq_true.1 hst) y hy
          simpa using this
      · rename_i hq
        have hq : isQuiet C o = false := by simpa using hq
        split at h
        · rename_i x σ' hx
          split at h
          case isFalse => cases h
          rename_i hst
          split at h
          case h_2 => cases h
          rename_i φ' hp
          obtain ⟨P, e, g1, g2, g3, g5, g4⟩ := runDq_trace bef l (j + 1) φ' σ' ((j, σ) :: past) pend r hl' h
          refine ⟨P, consE j ⟨φ, σ, x⟩ e, by rw [consE_at], by rw [consE_at], ?_, fun p c => by (have := g5 p c; omega), by rw [hlen]; exact hat _ _ P g5 g4⟩
          refine trace_cons h0 g3 ?_ (fun _ h => by simp [h]) (fun _ h => h) (fun _ _ h => by rw [hq] at h; cases h) (fun _ _ _ => ⟨fun _ y hy => ?_, by simp⟩)
          · unfold Fact
            rw [consE_at, consE_ne _ _ (Nat.le_refl _), g1, g2]
            exact ⟨hp, .inr (.inr (.inl ⟨hw, hq, hx⟩))⟩
          · rw [g2]
            have := (List.all_eq_true.1 hst) y hy
            simpa using this
        · split at h
          case h_2 => cases h
          rename_i v σ2 hpan
          split at h
          case h_2 => cases h
          rename_i φ' hp
          split at h
          case isFalse => cases h
          rename_i hdv
          cases h
          obtain ⟨e, g1, g2, g3⟩ := runDv_trace (callF := callF) bef j l (j + 1) φ' σ ((j, σ) :: past) pend (by omega) hl' hdv
          obtain ⟨f, args, σ1, hop, hcf⟩ := panStep_inv hpan
          have hdd : ddOf bef (some j) j = true := by simp [ddOf]
          refine ⟨some j, consE j ⟨φ, σ, .junk⟩ e, by rw [consE_at], by rw [consE_at], ?_, fun p c => by (cases c; omega), ?_⟩
          · refine trace_cons h0 g3 ?_ (fun _ h => by simp [h]) (fun _ h => h) (fun c => by rw [hdd] at c; cases c) (fun _ _ _ => ⟨fun c => (by rw [hdd] at c; cases c), by simp⟩)
            unfold Fact
            rw [consE_at, consE_ne _ _ (Nat.le_refl _), g1, g2]
            exact ⟨hp, .inr (.inr (.inr (.inl ⟨hdd, rfl⟩)))⟩
          · simp only [EndOf]
            rw [consE_at]
            exact ⟨o, f, args, σ1, v, σ2, h0, hw, hq, hop, hcf, rfl⟩
    · rename_i hw
      split at h
      case h_2 => cases h
      rename_i φ' hp
      obtain ⟨P, e, g1, g2, g3, g5, g4⟩ := runDq_trace bef l (j + 1) φ' σ past pend r hl' h
      refine ⟨P, consE j ⟨φ, σ, und⟩ e, by rw [consE_at], by rw [consE_at], ?_, fun p c => by (have := g5 p c; omega), by rw [hlen]; exact hat _ _ P g5 g4⟩
      refine trace_cons h0 g3 ?_ (fun _ h => h) (fun _ h => h) (fun _ h _ => by simp only at h; rw [hw] at h; cases h) (fun _ h _ => by simp only at h; rw [hw] at h; cases h)
      unfold Fact
      rw [consE_at, consE_ne _ _ (Nat.le_refl _), g1, g2]
      exact ⟨hp, .inl ⟨hw, rfl, rfl⟩⟩
    · cases h
end
end Go.DM
namespace Go.DM
open Go Go.RowKit

def setO (φ : Fr) (d : Option Tmp) (x : A) : Fr := match d with
  | none => φ
  | some t => φ.set t x
theorem at_setO (φ : Fr) (d : Option Tmp) (x : A) (t : Nat) : (setO φ d x).s.get t = if d = some t then some x else φ.s.get t := by
  unfold setO
  split
  · simp
  · rename_i u
    simp only [Fr.set, Tr.get_set]
    by_cases h : t = u
    · subst h; simp
    · have : ¬ u = t := fun e => h e.symm
      simp [h, this]
theorem ds_setO (φ : Fr) (d : Option Tmp) (x : A) : (setO φ d x).ds = φ.ds := by unfold setO; split <;> rfl
theorem putA_eq {n : Nat} {φ φ' : Fr} {d : Option Tmp} {x : A} (h : putA n φ d x = some φ') : φ' = setO φ d x ∧ ∀ ψ : Fr, ∀ y : A, putA n ψ d y = some (setO ψ d y) := by
  unfold putA at h
  split at h
  · cases h; exact ⟨rfl, fun _ _ => rfl⟩
  · split at h
    · rename_i ht; cases h; exact ⟨rfl, fun ψ y => by simp [putA, ht, setO]⟩
    · cases h
theorem FrRel.congr {k : K} {n : Nat} {φ ψ : Fr} {a : Act} (h : FrRel k n φ a) (h1 : ∀ t, ψ.s.get t = φ.s.get t) (h2 : ψ.ds = φ.ds) : FrRel k n ψ a :=
  ⟨h.size, fun t => by have : ψ.at t = φ.at t := by simp only [Fr.at, h1]
                       rw [this]; exact h.slot t, by rw [h2]; exact h.ds⟩

def dstAt (ops : Array Oper) (i : Nat) : Option Tmp := (ops[i]?).bind (·.dst)

section
variable {C : Cfg} {w0 : World} {callF : CallF} {n : Nat} {ops : Array Oper} {e : Nat → Ent}

def loB (C : Cfg) (ops : Array Oper) (e : Nat → Ent) (i : Nat) : Bool := match ops[i]? with
  | some o => wantedA ops (e i).φ o == some true && !isQuiet C o
  | none => false
theorem loB_iff {i : Nat} : loB C ops e i = true ↔ Lo C ops e i := by
  unfold loB Lo
  cases h : ops[i]? with
  | none => simp
  | some o => simp

def FG (ops : Array Oper) (x : Nat → A) (φ : Fr) (L : Nat → Bool) : Nat → Fr
  | 0 => φ
  | m + 1 => if L m then setO (FG ops x φ L m) (dstAt ops m) (x m) else FG ops x φ L m

theorem FG_ds (x : Nat → A) (φ : Fr) (L : Nat → Bool) : ∀ m, (FG ops x φ L m).ds = φ.ds
  | 0 => rfl
  | m + 1 => by
    unfold FG
    split
    · rw [ds_setO, FG_ds x φ L m]
    · exact FG_ds x φ L m
theorem FG_ext {x y : Nat → A} (φ : Fr) (L : Nat → Bool) : ∀ m, (∀ i, i < m → L i = true → x i = y i) → FG ops x φ L m = FG ops y φ L m
  | 0, _ => rfl
  | m + 1, h => by
    unfold FG
    rw [FG_ext φ L m (fun i hi => h i (by omega))]
    split
    · rename_i hL; rw [h m (by omega) hL]
    · rfl
theorem FG_swap {x y : Nat → A} (φ : Fr) (L : Nat → Bool) (j t : Nat) (h : ∀ i, i ≠ j → x i = y i) : ∀ m, (FG ops x φ L m).s.get t = (FG ops y φ L m).s.get t ∨ (dstAt ops j = some t ∧ (FG ops x φ L m).s.get t = some (x j))
  | 0 => .inl rfl
  | m + 1 => by
    have ih := FG_swap φ L j t h m
    unfold FG
    split
    · rw [at_setO, at_setO]
      by_cases hd : dstAt ops m = some t
      · rw [if_pos hd, if_pos hd]
        by_cases hm : m = j
        · subst hm; exact .inr ⟨hd, rfl⟩
        · rw [h m hm]; exact .inl rfl
      · rw [if_neg hd, if_neg hd]; exact ih
    · exact ih

theorem FG_at {N : Nat} (hφ : ∀ i, i < N → (e (i + 1)).φ = setO (e i).φ (dstAt ops i) (e i).x) {x : Nat → A} (L : Nat → Bool) (j t : Nat) (h : ∀ i, i < N → dstAt ops i = some t → (L i = true ↔ i < j)) (hx : ∀ i, i < N → dstAt ops i = some t → L i = true → x i = (e i).x) :
    ∀ m, m ≤ N → (FG ops x (e 0).φ L m).s.get t = (e (min m j)).φ.s.get t
  | 0, _ => by simp [FG]
  | m + 1, hm => by
    have ih := FG_at hφ L j t h hx m (by omega)
    unfold FG
    by_cases hd : dstAt ops m = some t
    · have hL := h m (by omega) hd
      by_cases hj : m < j
      · rw [if_pos (hL.2 hj), at_setO, if_pos hd, Nat.min_eq_left (by omega : m + 1 ≤ j), hφ m (by omega), at_setO, if_pos hd, hx m (by omega) hd (hL.2 hj)]
      · have : ¬ (L m = true) := fun c => hj (hL.1 c)
        rw [if_neg this, ih, Nat.min_eq_right (by omega), Nat.min_eq_right (by omega)]
    · have h1 : (if L m = true then setO (FG ops x (e 0).φ L m) (dstAt ops m) (x m) else FG ops x (e 0).φ L m).s.get t = (FG ops x (e 0).φ L m).s.get t := by
        split
        · rw [at_setO, if_neg hd]
        · rfl
      rw [h1, ih]
      by_cases hj : m < j
      · rw [Nat.min_eq_left (by omega : m ≤ j), Nat.min_eq_left (by omega : m + 1 ≤ j), hφ m (by omega), at_setO, if_neg hd]
      · rw [Nat.min_eq_right (by omega), Nat.min_eq_right (by omega)]

theorem FG_set {x : Nat → A} (φ : Fr) (L : Nat → Bool) (j t : Nat) (hj : L j = false) (h : ∀ i, j < i → L i = true → dstAt ops i = some t → dstAt ops j ≠ some t) :
    ∀ m, (FG ops x φ (fun i => if i = j then true else L i) m).s.get t = if j < m ∧ dstAt ops j = some t then some (x j) else (FG ops x φ L m).s.get t
  | 0 => by simp [FG]
  | m + 1 => by
    have ih := FG_set (x := x) φ L j t hj h m
    unfold FG
    by_cases hm : m = j
    · subst hm
      simp only [if_true, hj, Bool.false_eq_true, if_false, at_setO]
      rw [ih]
      simp
    · simp only [if_neg hm]
      by_cases hL : L m = true
      · simp only [hL, if_true, at_setO]
        by_cases hd : dstAt ops m = some t
        · rw [if_pos hd]
          by_cases hjm : j < m
          · rw [if_neg (fun c => h m hjm hL hd c.2)]
            rw [if_pos hd]
          · rw [if_neg (fun c => by omega)]
            rw [if_pos hd]
        · rw [if_neg hd, if_neg hd, ih]
          by_cases hjm : j < m
          · simp [hjm, Nat.lt_succ_of_lt hjm]
          · have : ¬ j < m + 1 := by omega
            simp [hjm, this]
      · have hL : L m = false := by simpa using hL
        simp only [hL, Bool.false_eq_true, if_false]
        rw [ih]
        by_cases hjm : j < m
        · simp [hjm, Nat.lt_succ_of_lt hjm]
        · have : ¬ j < m + 1 := by omega
          simp [hjm, this]

theorem walk_down {N : Nat} (hσ : ∀ i, i < N → loB C ops e i = false → (e (i + 1)).σ = (e i).σ) (j : Nat) : ∀ d, j + d ≤ N → (e (j + d)).σ = (e j).σ ∨ ∃ p, j ≤ p ∧ p < j + d ∧ loB C ops e p = true ∧ (e (j + d)).σ = (e (p + 1)).σ
  | 0, _ => .inl rfl
  | d + 1, h => by
    by_cases hl : loB C ops e (j + d) = true
    · exact .inr ⟨j + d, by omega, by omega, hl, rfl⟩
    · have h0 : (e (j + (d + 1))).σ = (e (j + d)).σ := hσ (j + d) (by omega) (by simpa using hl)
      rcases walk_down hσ j d (by omega) with ih | ⟨p, h1, h2, h3, h4⟩
      · exact .inl (h0.trans ih)
      · exact .inr ⟨p, h1, by omega, h3, h0.trans h4⟩

theorem wantedA_congr {φ ψ : Fr} {o : Oper} (h : ∀ t, t ∈ slotsOf ops o → φ.s.get t = ψ.s.get t) : wantedA ops φ o = wantedA ops ψ o := by
  unfold wantedA
  cases hg : o.guard with
  | none => rfl
  | some jw =>
    obtain ⟨j, want⟩ := jw
    simp only
    have : yieldedA ops φ j = yieldedA ops ψ j := by
      unfold yieldedA
      cases hd : (ops[j]?).bind (·.dst) with
      | none => rfl
      | some d =>
        simp only
        rw [h d (by simp [slotsOf, hg, hd])]
    rw [this]
theorem ev_congr {φ ψ : Fr} {o : Oper} (h : ∀ t, t ∈ slotsOf ops o → φ.s.get t = ψ.s.get t) : ∀ x ∈ o.op.operands, ev C φ x = ev C ψ x := by
  intro x hx
  cases x with
  | tmp t =>
    simp only [ev]
    rw [h t (by
      unfold slotsOf
      refine List.mem_append_left _ (List.mem_append_left _ (List.mem_filterMap.2 ⟨.tmp t, by simpa using hx, rfl⟩)))]
  | _ => rfl

/-- the values of the slots, where the first acting operation that is not done is number q: what was allocated early is not known yet -/
def xq (C : Cfg) (ops : Array Oper) (e : Nat → Ent) (q i : Nat) : A := if loB C ops e i = true ∧ q ≤ i then .junk else (e i).x
/-- number i was allocated early -/
def Ea (C : Cfg) (ops : Array Oper) (e : Nat → Ent) (L : Nat → Bool) (q i : Nat) : Prop := q ≤ i ∧ i < ops.size ∧ loB C ops e i = true ∧ L i = true
/-- what an operation that makes a block gives (O: what stands at place c; v: its value) -/
def Birth (k : K) (x : A) (σ σ' : St) (O : Obj) (c : Nat) (v : Value) : Prop :=
  (∃ X, σ' = σ.push X ∧ BlkRel k X O ∧ ∀ k' : K, k'.blk σ.next = some c → Rel k' x v) ∨
  (∃ us t sz m, O = .cells us t (0, 0) ∧ 0 < sz ∧ x = .sl sz [] (.gr σ.nextT) ∧ σ' = σ.tok t ∧ us.size = m * sz ∧ v = .slice (some ⟨c, 0, none⟩) 0 m)
theorem Birth.mono0 {k k' : K} {x : A} {σ σ' : St} {O : Obj} {c : Nat} {v : Value} (h : k.le0 k') (hb : Birth k x σ σ' O c v) : Birth k' x σ σ' O c v := by
  rcases hb with ⟨X, h1, h2, h3⟩ | h1
  · exact .inl ⟨X, h1, h2.mono0 h, h3⟩
  · exact .inr h1
theorem Birth.grown {σ σ' : St} {k : K} {x : A} {O : Obj} {c : Nat} {v : Value} (hb : Birth k x σ σ' O c v) (hI : Inv w0 σ k) (hu : k.unk c O) (hB : w0.heap.size ≤ c) :
    ∃ k', k'.w = k.w ∧ Inv w0 σ' k' ∧ K.le0 k k' ∧ Rel k' x v ∧ (∀ c' o', k.unk c' o' → c' ≠ c → k'.unk c' o') ∧ ∀ c' m, k.frz c' = some m → k'.frz c' = some m := by
  rcases hb with ⟨X, rfl, h2, h3⟩ | ⟨us, t, sz, m, rfl, h1, rfl, rfl, h2, rfl⟩
  · obtain ⟨g1, g2, g3, g4⟩ := hI.adopt hu hB h2
    exact ⟨k.adopt σ.next c, rfl, g1, g2, h3 _ g3, g4, fun _ _ h => h⟩
  · obtain ⟨g1, g2, g3, g4⟩ := hI.adoptTok hu hB
    exact ⟨k.adoptTok c σ.nextT, rfl, g1, g2, rel_tok (k := k.adoptTok c σ.nextT) h1 (if_pos rfl) (if_pos rfl) hu.1 h2, g3, g4⟩
structure Ear (C : Cfg) (w0 : World) (ops : Array Oper) (e : Nat → Ent) (al : Nat → Bool) (L : Nat → Bool) (q : Nat) (k0 k : K) (a : Act) (cs : Nat → Nat) : Prop where
  ear : ∀ i, Ea C ops e L q i → EarlyT C ops i
  blk : ∀ i, Ea C ops e L q i → ∃ O v, k.unk (cs i) O ∧ (∀ t, dstAt ops i = some t → a.tmps.getD t undef = v) ∧ (al i = false → Birth k (e i).x (e i).σ (e (i + 1)).σ O (cs i) v)
  old : ∀ i, Ea C ops e L q i → w0.heap.size ≤ cs i ∧ ∀ o, ¬ k0.unk (cs i) o
  inj : ∀ i i', Ea C ops e L q i → Ea C ops e L q i' → cs i = cs i' → i = i'

/-- an operation that makes a block, at the model -/
theorem new_run {ρ : Operand → Option A} {ρ' : Operand → Value} {o : Oper} {σ : St} {r : R} (k : K) (hρ : ∀ x a, ρ x = some a → Rel k a (ρ' x)) (hn : isNew o = true) (h : op C ρ o σ = some r) :
    ∃ O v x σ', r = .val x σ' ∧ (execOp ρ' o).run C.P k.w = .ok (.value v) (k.w.alloc O) ∧ Birth k x σ σ' O k.w.heap.size v := by
  unfold isNew at hn
  split at hn
  · rename_i t ht
    simp only [op, ht] at h
    split at h
    case h_2 => cases h
    rename_i z hz
    cases h
    obtain ⟨i, zv, us, g1, g2, g3, g4⟩ := zeroOf_good (k := k) hz
    refine ⟨.cells us.toArray t, .pointer (some ⟨k.w.heap.size, 0, none⟩), _, _, rfl, ?_, .inl ⟨_, rfl, .of g4, fun k' h => .ptr h⟩⟩
    simp [execOp, ht, Instr.alloc, run_zeroValue' g1 g2, newVar, g3, newRow]
  · rename_i t x ht
    simp only [op, ht] at h
    split at h
    case h_2 => cases h
    rename_i a ha
    split at h
    case isFalse => cases h
    rename_i ho
    cases h
    have hcs := (hρ _ _ ha).cells (allOne_ne_junk ho)
    obtain ⟨us, g1, g2⟩ : ∃ us : List Value, (ρ' x).cells = us.toArray ∧ RelL k a.cells us := ⟨_, by simp, hcs⟩
    refine ⟨.cells us.toArray t, .pointer (some ⟨k.w.heap.size, 0, none⟩), _, _, rfl, ?_, .inl ⟨_, rfl, .of g2, fun k' h => .ptr h⟩⟩
    simp [execOp, ht, Instr.box, newVar, g1, newRow]
  · rename_i t l c ht
    simp only [op, ht] at h
    split at h
    case h_2 => cases h
    rename_i l' c' hl hc
    obtain ⟨a, σ', h1, rfl⟩ := wrapS_good h
    obtain ⟨us, e, l2, c2, hrun, ⟨z, rfl, rfl, hr, hle, hcx⟩ | ⟨sz, hsz, rfl, rfl, rfl, hlen⟩⟩ := makeSliceOp_run k (hρ _ _ hl) (hρ _ _ hc) h1
    · exact ⟨.cells us.toArray e, _, _, _, rfl, by simp only [execOp, ht, Sem.run_bind, hrun, Result.andThen_ok, Sem.run_pure], .inl ⟨_, rfl, .of hr, fun k' h => .ms h hle hcx⟩⟩
    · exact ⟨.cells us.toArray e, _, _, _, rfl, by simp only [execOp, ht, Sem.run_bind, hrun, Result.andThen_ok, Sem.run_pure], .inr ⟨us.toArray, e, sz, c2, rfl, hsz, rfl, rfl, by simp [hlen], rfl⟩⟩
  · rename_i t r' ht
    cases r' with
    | some x => simp only [op, ht] at h; cases h
    | none =>
      simp only [op, ht] at h
      cases h
      refine ⟨.map #[] 0, .map (some k.w.heap.size), _, _, rfl, ?_, .inl ⟨_, rfl, ⟨[], rfl, rfl, fun j e f h => by simp at h⟩, fun k' h => .mp h⟩⟩
      simp [execOp, ht, Instr.makeMap]
  · cases hn

theorem loud_op {φ : Fr} {o : Oper} {σ σ' : St} {x : A} (hn : isNew o = true) (k : K) (ρ' : Operand → Value) (hρ : ∀ x a, ev C φ x = some a → Rel k a (ρ' x)) (h : loudStep C callF φ o σ = some (x, σ')) :
    ∃ O v, (execOp ρ' o).run C.P k.w = .ok (.value v) (k.w.alloc O) ∧ Birth k x σ σ' O k.w.heap.size v := by
  unfold loudStep at h
  split at h
  · rename_i x0 σ0 hop
    cases h
    obtain ⟨O, v, x1, σ1, g1, g2, g3⟩ := new_run k hρ hn hop
    cases g1
    exact ⟨O, v, g2, g3⟩
  · rename_i σ0 hop
    obtain ⟨O, v, x1, σ1, g1, _⟩ := new_run k hρ hn hop
    cases g1
  · rename_i f args σ0 hop
    obtain ⟨O, v, x1, σ1, g1, _⟩ := new_run k hρ hn hop
    cases g1
  · cases h
theorem allocZ_op {ρ : Operand → Option A} {o : Oper} (σ : St) (h : allocZ C o = true) : ∃ r, op C ρ o σ = some r := by
  unfold allocZ at h
  split at h
  · rename_i t ht
    obtain ⟨z, hz⟩ := Option.isSome_iff_exists.1 h
    exact ⟨_, by simp only [op, ht, hz]; rfl⟩
  · cases h
theorem junkF_ds : ∀ (l : List Oper) (φ : Fr), (junkF l φ).ds = φ.ds
  | [], _ => rfl
  | o :: l, φ => by
    show (junkF l (junkO φ o)).ds = φ.ds
    rw [junkF_ds l]; unfold junkO; split <;> rfl
theorem junkF_keep : ∀ (l : List Oper) (φ : Fr) (t : Nat), φ.s.get t = some .junk → (junkF l φ).s.get t = some .junk
  | [], _, _, h => h
  | o :: l, φ, t, h => junkF_keep l _ t (by
      unfold junkO
      split
      · simp only [Fr.set, Tr.get_set]; split
        · rfl
        · exact h
      · exact h)
theorem junkF_at : ∀ (l : List Oper) (φ : Fr) (t : Nat), (junkF l φ).s.get t = some .junk ∨ ((junkF l φ).s.get t = φ.s.get t ∧ ∀ o ∈ l, o.dst ≠ some t)
  | [], _, _ => .inr ⟨rfl, fun o h => by simp at h⟩
  | o :: l, φ, t => by
    by_cases hd : o.dst = some t
    · left
      refine junkF_keep l _ t ?_
      unfold junkO
      rw [hd]
      simp only [Fr.set, Tr.get_set, if_true]
    · rcases junkF_at l (junkO φ o) t with h | ⟨h1, h2⟩
      · exact .inl h
      · right
        refine ⟨h1.trans ?_, fun o' ho' => ?_⟩
        · unfold junkO
          split
          · rename_i d hdd
            simp only [Fr.set, Tr.get_set]
            rw [if_neg (fun c => hd (by rw [hdd, c]))]
          · rfl
        · rcases List.mem_cons.1 ho' with rfl | h
          · exact hd
          · exact h2 o' h

theorem adopt_run {L : Nat → Bool} {cs : Nat → Nat} {k0 : K} {a : Act} {al : Nat → Bool} (hal : ∀ i, al i = true → ∃ p, p < i ∧ loB C ops e p = true ∧ L p = false) (hσ : ∀ i, i < ops.size → loB C ops e i = false → (e (i + 1)).σ = (e i).σ) :
    ∀ (d q1 : Nat) (k : K), ops.size - q1 = d → q1 ≤ ops.size → k0.le k → (∀ i, i < q1 → loB C ops e i = true → L i = true) → Inv w0 (e q1).σ k → FrRel k n (FG ops (xq C ops e q1) (e 0).φ L ops.size) a → Ear C w0 ops e al L q1 k0 k a cs →
      ∃ q k', q ≤ ops.size ∧ (∀ i, i < q → loB C ops e i = true → L i = true) ∧ (q < ops.size → loB C ops e q = true ∧ L q = false) ∧ k'.w = k.w ∧ k0.le k' ∧ Inv w0 (e q).σ k' ∧ FrRel k' n (FG ops (xq C ops e q) (e 0).φ L ops.size) a ∧ Ear C w0 ops e al L q k0 k' a cs
  | 0, q1, k, hd, hq, hk, h1, hI, hr, hE => ⟨q1, k, hq, h1, fun h => by omega, rfl, hk, hI, hr, hE⟩
  | d + 1, q1, k, hd, hq, hk, h1, hI, hr, hE => by
    have hlt : q1 < ops.size := by omega
    have up : ∀ i, Ea C ops e L (q1 + 1) i → Ea C ops e L q1 i := fun i ⟨a, b, c, d⟩ => ⟨by omega, b, c, d⟩
    cases hl : loB C ops e q1 with
    | false =>
      refine adopt_run hal hσ d (q1 + 1) k (by omega) (by omega) hk (fun i hi hli => ?_) (by rw [hσ q1 hlt hl]; exact hI) ?_ ⟨fun i h => hE.ear i (up i h), fun i h => hE.blk i (up i h), fun i h => hE.old i (up i h), fun i i' h h' => hE.inj i i' (up i h) (up i' h')⟩
      · by_cases hiq : i = q1
        · subst hiq; rw [hl] at hli; cases hli
        · exact h1 i (by omega) hli
      · rw [← FG_ext (x := xq C ops e q1) (e 0).φ L ops.size (fun i _ _ => ?_)]
        · exact hr
        · unfold xq
          by_cases hiq : i = q1
          · subst hiq; rw [hl]; simp
          · have : q1 ≤ i ↔ q1 + 1 ≤ i := by omega
            simp only [this]
    | true =>
      cases hL : L q1 with
      | false => exact ⟨q1, k, hq, h1, fun _ => ⟨hl, hL⟩, rfl, hk, hI, hr, hE⟩
      | true =>
        have hea : Ea C ops e L q1 q1 := ⟨Nat.le_refl _, hlt, hl, hL⟩
        have hal1 : al q1 = false := by
          cases hc : al q1 with
          | false => rfl
          | true =>
            obtain ⟨p, f1, f2, f3⟩ := hal q1 hc
            rw [h1 p f1 f2] at f3; cases f3
        obtain ⟨O, v, hu, hsl, hbi⟩ := hE.blk q1 hea
        obtain ⟨hB, hn0⟩ := hE.old q1 hea
        obtain ⟨k1, gw, g1, g2, g3, g4, g5⟩ := (hbi hal1).grown hI hu hB
        have hk' : k0.le k1 := ⟨hk.toLe0.trans g2, fun c o hc => g4 c o (hk.unk c o hc) (by rintro rfl; exact hn0 o hc), fun c m hf ho => g5 c m (hk.same c m hf ho)⟩
        suffices hsf : FrRel k1 n (FG ops (xq C ops e (q1 + 1)) (e 0).φ L ops.size) a ∧ Ear C w0 ops e al L (q1 + 1) k0 k1 a cs by
          obtain ⟨q, k', r1, r2, r3, r4, r5, r6, r7, r8⟩ := adopt_run (a := a) (cs := cs) hal hσ d (q1 + 1) k1 (by omega) (by omega) hk' (fun i hi hli => by
            by_cases hiq : i = q1
            · subst hiq; exact hL
            · exact h1 i (by omega) hli) g1 hsf.1 hsf.2
          exact ⟨q, k', r1, r2, r3, r4.trans gw, r5, r6, r7, r8⟩
        refine ⟨?_, ?_⟩
        · have hm := hr.mono0 g2
          refine ⟨hm.size, fun u => ?_, by rw [FG_ds]; have := hm.ds; rw [FG_ds] at this; exact this⟩
          have hx' : xq C ops e (q1 + 1) q1 = (e q1).x := by unfold xq; rw [if_neg (by omega)]
          rcases FG_swap (ops := ops) (x := xq C ops e (q1 + 1)) (y := xq C ops e q1) (e 0).φ L q1 u (fun i hi => by
              unfold xq
              have : q1 ≤ i ↔ q1 + 1 ≤ i := by omega
              simp only [this]) ops.size with hs | ⟨hs1, hs2⟩
          · have := hm.slot u
            simp only [Fr.at, hs] at this ⊢
            exact this
          · rw [hsl u hs1]
            simp only [Fr.at, hs2, hx', Option.getD_some]
            exact g3
        · refine ⟨fun i h => hE.ear i (up i h), fun i h => ?_, fun i h => hE.old i (up i h), fun i i' h h' => hE.inj i i' (up i h) (up i' h')⟩
          obtain ⟨O', v', f1, f2, f3⟩ := hE.blk i (up i h)
          refine ⟨O', v', g4 _ _ f1 (fun c => ?_), f2, fun h => (f3 h).mono0 g2⟩
          have := hE.inj i q1 (up i h) hea c
          have := h.1
          omega

/-- the run in any order -/
theorem any_good {P : Option Nat} (hc : CallOk C w0 callF) (hT : TextOk C ops) (hTr : Trace C callF n ops (ddOf (Region.before ops) P) (alOf ops (Region.before ops) P) (Region.before ops) 0 [] [] e) {Q : Exit → Act → World → Prop} {k0 : K} (hg0 : GlobOk C k0)
    (hP : ∀ p, P = some p → ∃ o f args σ1 v σ2, ops[p]? = some o ∧ wantedA ops (e p).φ o = some true ∧ isQuiet C o = false ∧ op C (ev C (e p).φ) o (e p).σ = some (.call f args σ1) ∧ callF f args σ1 = some (.pan v, σ2) ∧
      ∀ (k : K) (a : Act) (u : Value), k0.le k → Inv w0 σ2 k → FrRel k n (junkF ops.toList (e p).φ) a → Rel k v u → Q (.panic [{ v := u, recovered := false }]) a k.w)
    (hQ : P = none → ∀ (k : K) (a : Act), k0.le k → Inv w0 (e ops.size).σ k → FrRel k n (e ops.size).φ a → Q .normal a k.w) :
    ∀ (fuel : Nat) (listed : Array Bool) (rem : List Nat) (k : K) (a : Act) (q : Nat) (cs : Nat → Nat), rem.length = fuel → rem.Nodup → listed.size = ops.size → (∀ i, i ∈ rem ↔ i < ops.size ∧ listed.getD i false = false) →
      (∀ p i, i < ops.size → bfr (Region.before ops) p i = true → listed.getD i false = true → listed.getD p false = true) → (∀ p, P = some p → listed.getD p false = false) → k0.le k →
      q ≤ ops.size → (∀ i, i < q → loB C ops e i = true → listed.getD i false = true) → (q < ops.size → loB C ops e q = true ∧ listed.getD q false = false) →
      Inv w0 (e q).σ k → FrRel k n (FG ops (xq C ops e q) (e 0).φ (listed.getD · false) ops.size) a → Ear C w0 ops e (alOf ops (Region.before ops) P) (listed.getD · false) q k0 k a cs → wpAny C.P .any ops Q fuel listed a k.w := by
  have fact : ∀ i, i < ops.size → ∃ o, ops[i]? = some o ∧ Fact C callF n ops (ddOf (Region.before ops) P) (alOf ops (Region.before ops) P) e i o := fun i hi => ⟨ops[i], by simp [hi], hTr.fact i _ (Nat.zero_le _) (by simp [hi])⟩
  have hφ : ∀ i, i < ops.size → (e (i + 1)).φ = setO (e i).φ (dstAt ops i) (e i).x := fun i hi => by
    obtain ⟨o, ho, hf, _⟩ := fact i hi
    rw [(putA_eq hf).1]; simp [dstAt, ho]
  have hσ : ∀ i, i < ops.size → loB C ops e i = false → (e (i + 1)).σ = (e i).σ := fun i hi hl => by
    obtain ⟨o, ho, _, hf⟩ := fact i hi
    rcases hf with ⟨_, _, h⟩ | ⟨_, _, _, h⟩ | ⟨h1, h2, _⟩ | ⟨_, h⟩ | ⟨_, _, _, _, h⟩
    · exact h
    · exact h
    · exfalso
      have : loB C ops e i = true := loB_iff.2 ⟨o, ho, h1, h2⟩
      rw [hl] at this; cases this
    · exact h
    · exact h
  have ltP : ∀ p, P = some p → p < ops.size := fun p hp => by
    obtain ⟨o, _, _, _, _, _, ho, _⟩ := hP p hp
    exact (Array.getElem?_eq_some_iff.1 ho).1
  have lt : ∀ {i : Nat} {o : Oper}, ops[i]? = some o → i < ops.size := fun h => (Array.getElem?_eq_some_iff.1 h).1
  have alP : ∀ i, alOf ops (Region.before ops) P i = true → ∃ p, P = some p ∧ p < i ∧ loB C ops e p = true := fun i hi => by
    cases hPc : P with
    | none => rw [hPc] at hi; simp [alOf] at hi
    | some p =>
      rw [hPc] at hi
      simp only [alOf, Bool.and_eq_true, decide_eq_true_eq] at hi
      obtain ⟨o, _, _, _, _, _, ho, hw, hq, _⟩ := hP p hPc
      exact ⟨p, rfl, hi.1.1, loB_iff.2 ⟨o, ho, hw, hq⟩⟩
  -- the end
  have fin : ∀ (listed : Array Bool) (k : K) (a : Act) (q : Nat), listed.size = ops.size → (∀ p, P = some p → listed.getD p false = false) → k0.le k → q ≤ ops.size → (q < ops.size → loB C ops e q = true ∧ listed.getD q false = false) → Inv w0 (e q).σ k → FrRel k n (FG ops (xq C ops e q) (e 0).φ (listed.getD · false) ops.size) a →
      Region.ready .any ops listed = [] → Q .normal a k.w := by
    intro listed k a q hsz hnp hk hqN hq2 hI hr hrd
    have all : ∀ i, i < ops.size → listed.getD i false = true := by
      intro i
      induction i using Nat.strongRecOn with
      | _ i ih =>
        intro hi
        cases hL : listed.getD i false with
        | true => rfl
        | false =>
          exfalso
          have : i ∈ Region.ready .any ops listed := by
            refine mem_ready.2 ⟨?_, ops[i], by simp [hi], fun ed he hb => ?_⟩
            · have hi' : i < listed.size := by omega
              simp [Array.getD_eq_getD_getElem?, hi'] at hL ⊢; exact hL
            · have hon := hT.on i ops[i] ed (by simp [hi]) he hb
              exact ih _ hon (by omega)
          rw [hrd] at this; cases this
    have hqe : q = ops.size := by
      rcases Nat.lt_or_ge q ops.size with h | h
      · have := (hq2 h).2
        rw [all q h] at this; cases this
      · omega
    subst hqe
    have hPn : P = none := by
      cases hPc : P with
      | none => rfl
      | some p => have := hnp p hPc; rw [all p (ltP p hPc)] at this; cases this
    refine hQ hPn k a hk hI (hr.congr (fun t => ?_) ?_)
    · have := FG_at hφ (x := xq C ops e ops.size) (listed.getD · false) ops.size t (fun i hi _ => ⟨fun _ => hi, fun _ => all i hi⟩) (fun i hi _ _ => by unfold xq; rw [if_neg (by omega)]) ops.size (Nat.le_refl _)
      rw [Nat.min_self] at this
      exact this.symm
    · rw [FG_ds]
      have : ∀ m, m ≤ ops.size → (e m).φ.ds = (e 0).φ.ds := by
        intro m
        induction m with
        | zero => intro _; rfl
        | succ m ih => intro hm; rw [hφ m (by omega), ds_setO, ih (by omega)]
      exact this _ (Nat.le_refl _)
  intro fuel
  induction fuel with
  | zero =>
    intro listed rem k a q cs hlen hnd hsz hrem hDC hnp hk hqN hq1 hq2 hI hr hE
    have hrd : Region.ready .any ops listed = [] := by
      refine List.eq_nil_iff_forall_not_mem.2 (fun i hi => ?_)
      obtain ⟨h1, o, ho, _⟩ := mem_ready.1 hi
      have hi' := lt ho
      have : i ∈ rem := (hrem i).2 ⟨hi', by
        have hi2 : i < listed.size := by omega
        simp [Array.getD_eq_getD_getElem?, hi2] at h1 ⊢; exact h1⟩
      rw [List.eq_nil_of_length_eq_zero hlen] at this; cases this
    exact ⟨hrd, fin listed k a q hsz hnp hk hqN hq2 hI hr hrd⟩
  | succ fuel ih =>
    intro listed rem k a q cs hlen hnd hsz hrem hDC hnp hk hqN hq1 hq2 hI hr hE
    refine ⟨fin listed k a q hsz hnp hk hqN hq2 hI hr, fun j hj => ?_⟩
    obtain ⟨hj1, o, ho, hedge⟩ := mem_ready.1 hj
    have hjN := lt ho
    have hjl : j < listed.size := by omega
    have hLj : listed.getD j false = false := by
      simp [Array.getD_eq_getD_getElem?, hjl] at hj1 ⊢; exact hj1
    -- what is ahead of j is done; what is behind j is not
    have ahead : ∀ p, bfr (Region.before ops) p j = true → listed.getD p false = true := by
      intro p hp
      obtain ⟨o', ho', ed, h1, h2, h3⟩ := bfr_spec hT.on hp
      rw [ho] at ho'; cases ho'
      have h4 := hedge ed h1 h2
      rcases h3 with rfl | h3
      · exact h4
      · exact hDC p ed.on (Nat.lt_trans (hT.on j o ed ho h1 h2) hjN) h3 h4
    have behind : ∀ p, p < ops.size → bfr (Region.before ops) j p = true → listed.getD p false = false := by
      intro p hp hb
      cases h : listed.getD p false with
      | false => rfl
      | true => rw [hDC j p hp hb h] at hLj; cases hLj
    have order : ∀ i, i < ops.size → i ≠ j → (bfr (Region.before ops) i j = true ∨ bfr (Region.before ops) j i = true) → (listed.getD i false = true ↔ i < j) := by
      intro i hi hne hb
      rcases hb with hb | hb
      · exact ⟨fun _ => bfr_lt hT.on j i hb, fun _ => ahead i hb⟩
      · have := bfr_lt hT.on i j hb
        exact ⟨fun c => (by rw [behind i hi hb] at c; cases c), fun c => by omega⟩
    have self : (listed.getD j false = true ↔ j < j) := ⟨fun c => (by rw [hLj] at c; cases c), fun c => by omega⟩
    have slots : ∀ t, t ∈ slotsOf ops o → ∀ i, i < ops.size → dstAt ops i = some t → (listed.getD i false = true ↔ i < j) := by
      intro t ht i hi hd
      by_cases hij : i = j
      · subst hij; exact self
      · have hoi : ops[i]? = some ops[i] := by simp [hi]
        refine order i hi hij (hT.slot i j ops[i] o t hij hoi ho ?_ ht)
        simpa [dstAt, hi] using hd
    -- an early allocation's slot is not looked at
    have clash : ∀ i t, Ea C ops e (listed.getD · false) q i → dstAt ops i = some t → t ∈ slotsOf ops o → False := by
      intro i t hi hd ht
      have hL := hi.2.2.2
      simp only at hL
      have hij := (slots t ht i hi.2.1 hd).1 hL
      have hqN' : q < ops.size := Nat.lt_of_le_of_lt hi.1 hi.2.1
      have hqi : q < i := by
        rcases Nat.lt_or_eq_of_le hi.1 with h | h
        · exact h
        · rw [← h, (hq2 hqN').2] at hL; cases hL
      have hoi : ops[i]? = some ops[i] := by simp [hi.2.1]
      obtain ⟨oq, f1, _, f3⟩ := loB_iff.1 (hq2 hqN').1
      have := ahead q ((hE.ear i hi).use j o ops[i] t hij ho hoi (by simpa [dstAt, hi.2.1] using hd) ht q oq hqi f1 f3)
      rw [(hq2 hqN').2] at this; cases this
    have hat : ∀ t, t ∈ slotsOf ops o → (FG ops (xq C ops e q) (e 0).φ (listed.getD · false) ops.size).s.get t = (e j).φ.s.get t := fun t ht => by
      have := FG_at hφ (x := xq C ops e q) (listed.getD · false) j t (slots t ht) (fun i hi hd hL => by
        unfold xq
        refine if_neg (fun hc => clash i t ⟨hc.2, hi, hc.1, hL⟩ hd ht)) ops.size (Nat.le_refl _)
      rwa [Nat.min_eq_right (Nat.le_of_lt hjN)] at this
    have hwc : wantedA ops (FG ops (xq C ops e q) (e 0).φ (listed.getD · false) ops.size) o = wantedA ops (e j).φ o := wantedA_congr hat
    have hev := ev_congr (C := C) hat
    have hdst : ∀ t, o.dst = some t → t ∈ slotsOf ops o := fun t h => by
      unfold slotsOf
      refine List.mem_append_left _ (List.mem_append_right _ ?_)
      rw [h]; simp
    have hdj : dstAt ops j = o.dst := by simp [dstAt, ho]
    -- the list with j
    have hL' : (fun i => (listed.setIfInBounds j true).getD i false) = (fun i => if i = j then true else listed.getD i false) := by
      funext i
      by_cases hij : i = j
      · subst hij; simp [Array.getD_eq_getD_getElem?, hjl]
      · rw [if_neg hij]
        have : j ≠ i := fun e => hij e.symm
        simp [Array.getD_eq_getD_getElem?, this]
    have hL'' : ∀ i, (listed.setIfInBounds j true).getD i false = if i = j then true else listed.getD i false := fun i => congrFun hL' i
    have hLo : ∀ i, i ≠ j → (listed.setIfInBounds j true).getD i false = true → listed.getD i false = true := fun i hij h => by rw [hL'' i, if_neg hij] at h; exact h
    have hLu : ∀ i, listed.getD i false = true → (listed.setIfInBounds j true).getD i false = true := fun i h => by
      rw [hL'' i]; split
      · rfl
      · exact h
    have hfr : ∀ q1, (∀ i, listed.getD i false = true → xq C ops e q1 i = xq C ops e q i) → ∀ t, (FG ops (xq C ops e q1) (e 0).φ (fun i => (listed.setIfInBounds j true).getD i false) ops.size).s.get t = (setO (FG ops (xq C ops e q) (e 0).φ (listed.getD · false) ops.size) o.dst (xq C ops e q1 j)).s.get t := by
      intro q1 hx t
      rw [hL', FG_set (e 0).φ (listed.getD · false) j t hLj (fun i hi hL hd hdj' => ?_), at_setO]
      · rw [hdj, FG_ext (x := xq C ops e q1) (y := xq C ops e q) (e 0).φ (listed.getD · false) ops.size (fun i _ hL => hx i hL)]
        simp [hjN]
      · have hiN : i < ops.size := by
          rcases Nat.lt_or_ge i ops.size with h | h
          · exact h
          · simp [dstAt, Array.getElem?_eq_none h] at hd
        have := (slots t (hdst t (by rw [← hdj]; exact hdj')) i hiN hd).1 hL
        omega
    have DC' : ∀ p i, i < ops.size → bfr (Region.before ops) p i = true → (listed.setIfInBounds j true).getD i false = true → (listed.setIfInBounds j true).getD p false = true := by
      intro p i hi hb hL
      rw [hL'' p]
      rw [hL'' i] at hL
      by_cases hpj : p = j
      · simp [hpj]
      · rw [if_neg hpj]
        by_cases hij : i = j
        · subst hij; exact ahead p hb
        · rw [if_neg hij] at hL
          exact hDC p i hi hb hL
    -- the call that panics
    by_cases hjP : P = some j
    · obtain ⟨o', f, args, σ1, v, σ2, ho', hw', hq', hop, hcf, hfin⟩ := hP j hjP
      rw [ho] at ho'; cases ho'
      unfold wpOp
      rw [ho]
      simp only
      rw [wanted_good hr (hwc.trans hw')]
      simp only [if_true]
      refine Or.inl ?_
      have hl : loB C ops e j = true := loB_iff.2 ⟨o, ho, hw', hq'⟩
      have hqj : q ≤ j := by
        rcases Nat.lt_or_ge j q with h | h
        · rw [hq1 j h hl] at hLj; cases hLj
        · exact h
      have hqe : q = j := by
        rcases Nat.lt_or_eq_of_le hqj with hqj | hqj
        · exfalso
          obtain ⟨f1, f2⟩ := hq2 (by omega)
          obtain ⟨oq, p1, p2, p3⟩ := loB_iff.1 f1
          have hET : EarlyT C ops j := by
            rcases hT.loud q j oq o (by omega) p1 ho p3 hq' with (hb | hb) | ⟨_, hb⟩ | ⟨hb, _⟩
            · rw [ahead q hb] at f2; cases f2
            · have := bfr_lt hT.on q j hb; omega
            · exact hb
            · omega
          obtain ⟨o', ho', ht⟩ := hET.alloc
          rw [ho] at ho'; cases ho'
          rw [← op_congr hev] at hop
          obtain ⟨_, _, _, _, g1, _⟩ := new_run k (ev_good (hg0.mono hk) hr) ht hop
          cases g1
        · exact hqj
      subst hqe
      rw [← op_congr hev] at hop
      refine oper_goodS hc hI (hg0.mono hk) hr hop ⟨.pan v, _, hcf, fun k' u g1 g2 g3 g4 => hfin k' a u (hk.trans g1) g2 ?_ g4⟩
      refine ⟨g3.size, fun t => ?_, ?_⟩
      · rcases junkF_at ops.toList (e q).φ t with hj | ⟨hj, hnd⟩
        · simp only [Fr.at, hj, Option.getD_some]; exact .junk
        · have hs := g3.slot t
          have hno : ∀ i, i < ops.size → dstAt ops i ≠ some t := fun i hi hd => hnd ops[i] (Array.getElem_mem_toList hi) (by simpa [dstAt, hi] using hd)
          have h1 := FG_at hφ (x := xq C ops e q) (listed.getD · false) q t (fun i hi hd => absurd hd (hno i hi)) (fun i hi hd _ => absurd hd (hno i hi)) ops.size (Nat.le_refl _)
          rw [Nat.min_eq_right (Nat.le_of_lt hjN)] at h1
          simp only [Fr.at, hj, ← h1] at hs ⊢
          exact hs
      · have hd1 := g3.ds
        rw [FG_ds] at hd1
        have hds : ∀ m, m ≤ ops.size → (e m).φ.ds = (e 0).φ.ds := by
          intro m
          induction m with
          | zero => intro _; rfl
          | succ m ih => intro hm; rw [hφ m (by omega), ds_setO, ih (by omega)]
        rw [junkF_ds, hds q hqN]; exact hd1
    have hnp' : ∀ p, P = some p → (listed.setIfInBounds j true).getD p false = false := by
      intro p hp
      rw [hL'' p, if_neg (by rintro rfl; exact hjP hp)]
      exact hnp p hp
    have hdd' : ∀ i, ddOf (Region.before ops) P i = true → (listed.setIfInBounds j true).getD i false = false := by
      intro i hi
      cases hPc : P with
      | none => rw [hPc] at hi; simp [ddOf] at hi
      | some p =>
        rw [hPc] at hi
        simp only [ddOf, Bool.or_eq_true, decide_eq_true_eq] at hi
        rcases hi with rfl | hi
        · exact hnp' _ hPc
        · cases hc : (listed.setIfInBounds j true).getD i false with
          | false => rfl
          | true =>
            have hiN : i < ops.size := by
              rcases Nat.lt_or_ge i ops.size with h | h
              · exact h
              · rw [Array.getD_eq_getD_getElem?, Array.getElem?_eq_none (by simp [hsz]; exact h)] at hc; cases hc
            have := DC' p i hiN hi hc
            rw [hnp' p hPc] at this; cases this
    have hddj : ddOf (Region.before ops) P j = false := by
      cases hc : ddOf (Region.before ops) P j with
      | false => rfl
      | true => have := hdd' j hc; rw [hL'' j, if_pos rfl] at this; cases this
    have hal' : ∀ i, alOf ops (Region.before ops) P i = true → ∃ p, p < i ∧ loB C ops e p = true ∧ (listed.setIfInBounds j true).getD p false = false := fun i hi => by
      obtain ⟨p, f1, f2, f3⟩ := alP i hi
      exact ⟨p, f2, f3, hnp' p f1⟩
    have alq : ∀ i, i ≤ q → alOf ops (Region.before ops) P i = false := fun i hi => by
      cases hc : alOf ops (Region.before ops) P i with
      | false => rfl
      | true =>
        obtain ⟨p, f1, f2, f3⟩ := alP i hc
        have := hq1 p (by omega) f3
        rw [hnp p f1] at this; cases this
    have next : ∀ (k2 : K) (a2 : Act) (q1 : Nat) (cs' : Nat → Nat), q1 ≤ ops.size → (∀ i, listed.getD i false = true → xq C ops e q1 i = xq C ops e q i) → (∀ i, i < q1 → loB C ops e i = true → (listed.setIfInBounds j true).getD i false = true) →
        k0.le k2 → Inv w0 (e q1).σ k2 → FrRel k2 n (setO (FG ops (xq C ops e q) (e 0).φ (listed.getD · false) ops.size) o.dst (xq C ops e q1 j)) a2 → Ear C w0 ops e (alOf ops (Region.before ops) P) (fun i => (listed.setIfInBounds j true).getD i false) q1 k0 k2 a2 cs' →
        wpAny C.P .any ops Q fuel (listed.setIfInBounds j true) a2 k2.w := by
      intro k2 a2 q1 cs' hq1N hx hq1' h1 h2 h3 h4
      have hjm : j ∈ rem := (hrem j).2 ⟨hjN, hLj⟩
      obtain ⟨q', k', r1, r2, r3, r4, r5, r6, r7, r8⟩ := adopt_run (L := fun i => (listed.setIfInBounds j true).getD i false) hal' hσ (ops.size - q1) q1 k2 rfl hq1N h1 hq1' h2 (h3.congr (hfr q1 hx) (by rw [FG_ds, ds_setO, FG_ds])) h4
      rw [← r4]
      refine ih (listed.setIfInBounds j true) (rem.erase j) k' a2 q' cs' (by rw [List.length_erase_of_mem hjm]; omega) (hnd.erase _) (by simp [hsz]) (fun i => ?_) DC' hnp' r5 r1 r2 r3 r6 r7 r8
      rw [hnd.mem_erase_iff, hrem i, hL'' i]
      by_cases hij : i = j
      · subst hij; simp
      · simp [hij]
    -- what was allocated early stays
    have keep : ∀ (k2 : K) (a2 : Act) (q1 : Nat), k.le k2 → q ≤ q1 → (loB C ops e j = true → j < q1) → (∀ t, o.dst ≠ some t → a2.tmps.getD t undef = a.tmps.getD t undef) → Ear C w0 ops e (alOf ops (Region.before ops) P) (fun i => (listed.setIfInBounds j true).getD i false) q1 k0 k2 a2 cs := by
      intro k2 a2 q1 hle hq hj' hs
      have hea : ∀ i, Ea C ops e (fun i => (listed.setIfInBounds j true).getD i false) q1 i → Ea C ops e (listed.getD · false) q i := by
        rintro i ⟨g1, g2, g3, g4⟩
        refine ⟨by omega, g2, g3, hLo i ?_ g4⟩
        rintro rfl
        have := hj' g3; omega
      refine ⟨fun i h => hE.ear i (hea i h), fun i h => ?_, fun i h => hE.old i (hea i h), fun i i' h h' => hE.inj i i' (hea i h) (hea i' h')⟩
      obtain ⟨O, v, f1, f2, f3⟩ := hE.blk i (hea i h)
      exact ⟨O, v, hle.unk _ _ f1, fun t h1 => by rw [hs t (fun hd => clash i t (hea i h) h1 (hdst t hd))]; exact f2 t h1, fun h => (f3 h).mono0 hle.toLe0⟩
    obtain ⟨hput, hf⟩ := hTr.fact j o (Nat.zero_le _) ho
    have hput' : ∀ ψ : Fr, ∀ y : A, putA n ψ o.dst y = some (setO ψ o.dst y) := (putA_eq hput).2
    unfold wpOp
    rw [ho]
    simp only
    have hf : (wantedA ops (e j).φ o = some false ∧ (e j).x = und ∧ (e (j + 1)).σ = (e j).σ) ∨ (wantedA ops (e j).φ o = some true ∧ isQuiet C o = true ∧ opQ C (ev C (e j).φ) o (e j).σ = some (e j).x ∧ (e (j + 1)).σ = (e j).σ) ∨
        (wantedA ops (e j).φ o = some true ∧ isQuiet C o = false ∧ (loudStep C callF (e j).φ o (e j).σ = some ((e j).x, (e (j + 1)).σ) ∨ (alOf ops (Region.before ops) P j = true ∧ allocZ C o = true))) := by
      rcases hf with h | h | ⟨h1, h2, h3⟩ | ⟨h1, _⟩ | ⟨h1, h2, h3, h4, _⟩
      · exact .inl h
      · exact .inr (.inl h)
      · exact .inr (.inr ⟨h1, h2, .inl h3⟩)
      · rw [hddj] at h1; cases h1
      · exact .inr (.inr ⟨h2, h3, .inr ⟨h1, h4⟩⟩)
    rcases hf with ⟨h1, h2, _⟩ | ⟨h1, h2, h3, _⟩ | ⟨h1, h2, h3⟩
    · rw [wanted_good hr (hwc.trans h1)]
      simp only [Bool.false_eq_true, if_false]
      have hl : loB C ops e j = false := by simp [loB, ho, h1]
      have hxj : xq C ops e q j = und := by unfold xq; rw [if_neg (by rw [hl]; simp)]; exact h2
      refine next k _ q cs hqN (fun _ _ => rfl) (fun i hi hli => hLu i (hq1 i hi hli)) hk hI (hr.put rel_und (by rw [hxj]; exact hput' _ _)) (keep k _ q (K.le.refl k) (Nat.le_refl _) (fun h => by rw [hl] at h; cases h) (put_keep _ _ _))
    · rw [wanted_good hr (hwc.trans h1)]
      simp only [if_true]
      refine Or.inl ?_
      have hl : loB C ops e j = false := by simp [loB, ho, h2]
      have hxj : xq C ops e q j = (e j).x := by unfold xq; rw [if_neg (by rw [hl]; simp)]
      have hsame : ∀ σ', (σ' = (e j).σ ∨ sameA C (e j).φ o σ' (e j).x = true) → opQ C (ev C (e j).φ) o σ' = some (e j).x := by
        intro σ' h
        rcases h with rfl | h
        · exact h3
        · unfold sameA at h
          rw [Bool.or_eq_true] at h
          rcases h with h | h
          · exact opQ_pure h h3
          · split at h
            · rename_i y hy; rw [hy, same_eq h]
            · cases h
      have hst : (e q).σ = (e j).σ ∨ sameA C (e j).φ o (e q).σ (e j).x = true := by
        rcases Nat.lt_trichotomy q j with hqj | hqj | hqj
        · right
          obtain ⟨f1, f2⟩ := hq2 (by omega)
          rcases hTr.pastI j o (Nat.zero_le _) hddj ho ⟨h1, h2⟩ q (Nat.zero_le _) hqj (alq q (Nat.le_refl _)) (loB_iff.1 f1) with h | h
          · rw [ahead q h] at f2; cases f2
          · exact h
        · rw [hqj]; exact .inl rfl
        · rcases walk_down hσ j (q - j) (by omega) with h | ⟨p, g1, g2, g3, g4⟩
          · rw [show j + (q - j) = q by omega] at h
            exact .inl h
          · right
            rw [show j + (q - j) = q by omega] at g4
            rw [g4]
            have hpj : j < p := by
              rcases Nat.lt_or_ge j p with h | h
              · exact h
              · have : p = j := by omega
                subst this; rw [hl] at g3; cases g3
            have hddp : ddOf (Region.before ops) P p = false := by
              cases hc : ddOf (Region.before ops) P p with
              | false => rfl
              | true =>
                have h5 := hdd' p hc
                rw [hLu p (hq1 p (by omega) g3)] at h5; cases h5
            rcases hTr.pendI p (Nat.zero_le _) hddp (alq p (by omega)) (loB_iff.1 g3) j o (Nat.zero_le _) hpj hddj ho ⟨h1, h2⟩ with h | h
            · have c := hq1 p (by omega) g3
              rw [behind p (by omega) h] at c; cases c
            · exact h
      have hop : op C (ev C (FG ops (xq C ops e q) (e 0).φ (listed.getD · false) ops.size)) o (e q).σ = some (.val (e j).x (e q).σ) := by
        rw [op_congr hev]
        exact opQ_op (hsame _ hst) h2
      refine oper_goodS hc hI (hg0.mono hk) hr hop ⟨_, hput' _ _, fun k2 a2 g1 g2 g3 g4 => next k2 a2 q cs hqN (fun _ _ => rfl) (fun i hi hli => hLu i (hq1 i hi hli)) (hk.trans g1) g2 (by rw [hxj]; exact g3) (keep k2 a2 q g1 (Nat.le_refl _) (fun h => by rw [hl] at h; cases h) g4)⟩
    · rw [wanted_good hr (hwc.trans h1)]
      simp only [if_true]
      refine Or.inl ?_
      have hl : loB C ops e j = true := loB_iff.2 ⟨o, ho, h1, h2⟩
      have hqj : q ≤ j := by
        rcases Nat.lt_or_ge j q with h | h
        · rw [hq1 j h hl] at hLj; cases hLj
        · exact h
      rcases Nat.lt_or_eq_of_le hqj with hqj | hqj
      · -- an early allocation
        obtain ⟨f1, f2⟩ := hq2 (by omega)
        obtain ⟨oq, p1, p2, p3⟩ := loB_iff.1 f1
        have hET : EarlyT C ops j := by
          rcases hT.loud q j oq o (by omega) p1 ho p3 h2 with (hb | hb) | ⟨_, hb⟩ | ⟨hb, _⟩
          · rw [ahead q hb] at f2; cases f2
          · have := bfr_lt hT.on q j hb; omega
          · exact hb
          · omega
        obtain ⟨o', ho', ht⟩ := hET.alloc
        rw [ho] at ho'; cases ho'
        have hρ := ev_good (C := C) (hg0.mono hk) hr
        obtain ⟨O, v, hrun, hbi⟩ : ∃ O v, (execOp a.eval o).run C.P k.w = .ok (.value v) (k.w.alloc O) ∧ (alOf ops (Region.before ops) P j = false → Birth k (e j).x (e j).σ (e (j + 1)).σ O k.w.heap.size v) := by
          rcases h3 with h3 | ⟨h3, h4⟩
          · unfold loudStep at h3
            rw [← op_congr hev] at h3
            obtain ⟨O, v, g1, g2⟩ := loud_op (callF := callF) ht k a.eval hρ h3
            exact ⟨O, v, g1, fun _ => g2⟩
          · obtain ⟨r, hr'⟩ := allocZ_op (C := C) (ρ := ev C (FG ops (xq C ops e q) (e 0).φ (listed.getD · false) ops.size)) (e j).σ h4
            obtain ⟨O, v, _, _, _, g1, _⟩ := new_run k hρ ht hr'
            exact ⟨O, v, g1, fun c => by rw [h3] at c; cases c⟩
        obtain ⟨g1, g2, g3⟩ := hI.hide O
        have hw : (k.hide O).w = k.w.alloc O := rfl
        unfold Oper.wp
        rw [hrun]
        show wpAny C.P .any ops Q fuel (listed.setIfInBounds j true) (a.put o.dst v) (k.w.alloc O)
        rw [← hw]
        have hxj : xq C ops e q j = .junk := by unfold xq; rw [if_pos ⟨hl, by omega⟩]
        have hsz' : ∀ i, Ea C ops e (listed.getD · false) q i → cs i < k.w.heap.size := by
          intro i hi
          obtain ⟨_, _, r1, _⟩ := hE.blk i hi
          exact lt_of_heap r1.1
        refine next (k.hide O) _ q (fun i => if i = j then k.w.heap.size else cs i) hqN (fun _ _ => rfl) (fun i hi hli => hLu i (hq1 i hi hli)) (hk.trans g2) g1 ((hr.mono g2).put (x := xq C ops e q j) (by rw [hxj]; exact .junk) (hput' _ _)) ?_
        have hea : ∀ i, i ≠ j → Ea C ops e (fun i => (listed.setIfInBounds j true).getD i false) q i → Ea C ops e (listed.getD · false) q i := fun i hij ⟨b1, b2, b3, b4⟩ => ⟨b1, b2, b3, hLo i hij b4⟩
        refine ⟨fun i h => ?_, fun i h => ?_, fun i h => ?_, fun i i' h h' b1 => ?_⟩
        · by_cases hij : i = j
          · subst hij; exact hET
          · exact hE.ear i (hea i hij h)
        · by_cases hij : i = j
          · subst hij
            simp only [if_true]
            refine ⟨O, v, g3, fun t2 b1 => ?_, fun h => (hbi h).mono0 g2.toLe0⟩
            rw [hdj] at b1
            have hsz2 : t2 < a.tmps.size := by
              rw [hr.size]
              unfold putA at hput
              rw [b1] at hput
              simp only at hput
              split at hput
              · assumption
              · cases hput
            simp [Act.put, b1, Array.getD_eq_getD_getElem?, hsz2]
          · simp only [if_neg hij]
            obtain ⟨O2, v2, r1, r2, r3⟩ := hE.blk i (hea i hij h)
            refine ⟨O2, v2, g2.unk _ _ r1, fun t2 b1 => ?_, fun h => (r3 h).mono0 g2.toLe0⟩
            rw [put_keep _ _ _ t2 (fun hd => clash i t2 (hea i hij h) b1 (hdst t2 hd))]
            exact r2 t2 b1
        · by_cases hij : i = j
          · simp only [if_pos hij]
            refine ⟨hI.below.size, fun o2 hu => ?_⟩
            have := lt_of_heap (hk.unk _ _ hu).1
            exact Nat.lt_irrefl _ this
          · simp only [if_neg hij]
            exact hE.old i (hea i hij h)
        · by_cases hij : i = j <;> by_cases hij' : i' = j
          · omega
          · simp only [if_pos hij, if_neg hij'] at b1
            have := hsz' i' (hea i' hij' h'); omega
          · simp only [if_neg hij, if_pos hij'] at b1
            have := hsz' i (hea i hij h); omega
          · simp only [if_neg hij, if_neg hij'] at b1
            exact hE.inj i i' (hea i hij h) (hea i' hij' h') b1
      · subst hqj
        have hxj : xq C ops e (q + 1) q = (e q).x := by unfold xq; rw [if_neg (by omega)]
        have next' : ∀ (k2 : K) (a2 : Act), k.le k2 → Inv w0 (e (q + 1)).σ k2 → FrRel k2 n (setO (FG ops (xq C ops e q) (e 0).φ (listed.getD · false) ops.size) o.dst (e q).x) a2 → (∀ t, o.dst ≠ some t → a2.tmps.getD t undef = a.tmps.getD t undef) → wpAny C.P .any ops Q fuel (listed.setIfInBounds q true) a2 k2.w := by
          intro k2 a2 g1 g2 g3 g4
          refine next k2 a2 (q + 1) cs (by omega) (fun i hL => ?_) (fun i hi hli => ?_) (hk.trans g1) g2 (by rw [hxj]; exact g3) (keep k2 a2 (q + 1) g1 (by omega) (fun _ => by omega) g4)
          · unfold xq
            have : i ≠ q := by rintro rfl; rw [hLj] at hL; cases hL
            have : q ≤ i ↔ q + 1 ≤ i := by omega
            simp only [this]
          · by_cases hiq : i = q
            · rw [hL'' i, if_pos hiq]
            · exact hLu i (hq1 i (by omega) hli)
        have h3 := h3.resolve_right (fun c => by rw [alq q (Nat.le_refl _)] at c; cases c.1)
        unfold loudStep at h3
        split at h3
        · rename_i x σ' hop
          cases h3
          rw [← op_congr hev] at hop
          exact oper_goodS hc hI (hg0.mono hk) hr hop ⟨_, hput' _ _, fun k2 a2 g1 g2 g3 g4 => next' k2 a2 g1 g2 g3 g4⟩
        · rename_i σ' hop
          rw [← op_congr hev] at hop
          have hx : (e q).x = und := (Prod.mk.inj (Option.some.inj h3)).1.symm
          have hs' : (e (q + 1)).σ = σ' := (Prod.mk.inj (Option.some.inj h3)).2.symm
          rw [hs'] at next'
          rw [hx] at next'
          exact oper_goodS hc hI (hg0.mono hk) hr hop ⟨_, hput' _ _, fun k2 a2 g1 g2 g3 g4 => next' k2 a2 g1 g2 g3 g4⟩
        · rename_i f args σ' hop
          rw [← op_congr hev] at hop
          split at h3
          · rename_i x σ'' hcf
            have hx : x = (e q).x := (Prod.mk.inj (Option.some.inj h3)).1
            have hs' : σ'' = (e (q + 1)).σ := (Prod.mk.inj (Option.some.inj h3)).2
            subst hx; subst hs'
            exact oper_goodS hc hI (hg0.mono hk) hr hop ⟨.ret (e q).x, _, hcf, _, hput' _ _, fun k2 a2 g1 g2 g3 g4 => next' k2 a2 g1 g2 g3 g4⟩
          · cases h3
        · cases h3

theorem dr_any (hc : CallOk C w0 callF) {φ : Fr} {σ : St} {k : K} {a : Act} {r : X × Fr × St} {Q : Exit → Act → World → Prop} (hd : drawOk C ops (Region.before ops) = true) (h : runDq C callF n ops (Region.before ops) ops.toList 0 φ σ [] [] = some r)
    (hI : Inv w0 σ k) (hg : GlobOk C k) (hr : FrRel k n φ a) (hQ : ∀ e a' w', Ends w0 k n r e a' w' → Q e a' w') : wpAny C.P .any ops Q ops.size (Array.replicate ops.size false) a (k.wd k.w.drew).w := by
  have hT := textOk hd
  obtain ⟨P, e, g1, g2, g3, g5, g4⟩ := runDq_trace (Region.before ops) ops.toList 0 φ σ [] [] r (by simp) h
  obtain ⟨hI', hk⟩ := hI.drew
  have hfalse : ∀ i, (Array.replicate ops.size false).getD i false = false := fun i => by
    rw [Array.getD_eq_getD_getElem?, Array.getElem?_replicate]; split <;> rfl
  have hF : ∀ x m, FG ops x (e 0).φ ((Array.replicate ops.size false).getD · false) m = (e 0).φ := by
    intro x m
    induction m with
    | zero => rfl
    | succ m ih => unfold FG; rw [if_neg (by simp [hfalse])]; exact ih
  have fact : ∀ i o, ops[i]? = some o → Fact C callF n ops (ddOf (Region.before ops) P) (alOf ops (Region.before ops) P) e i o := fun i o h => g3.fact i o (Nat.zero_le _) h
  have hσ : ∀ i, i < ops.size → loB C ops e i = false → (e (i + 1)).σ = (e i).σ := fun i hi hl => by
    obtain ⟨_, hf⟩ := fact i ops[i] (by simp [hi])
    rcases hf with ⟨_, _, h⟩ | ⟨_, _, _, h⟩ | ⟨h1, h2, _⟩ | ⟨_, h⟩ | ⟨_, _, _, _, h⟩
    · exact h
    · exact h
    · exfalso
      have : loB C ops e i = true := loB_iff.2 ⟨ops[i], by simp [hi], h1, h2⟩
      rw [hl] at this; cases this
    · exact h
    · exact h
  have hE0 : ∀ i, ¬ Ea C ops e ((Array.replicate ops.size false).getD · false) 0 i := fun i h => by have := h.2.2.2; simp only [hfalse] at this; cases this
  obtain ⟨q, k', r1, r2, r3, r4, r5, r6, r7, r8⟩ := adopt_run (w0 := w0) (n := n) (L := ((Array.replicate ops.size false).getD · false)) (cs := fun _ => 0) (k0 := k.wd k.w.drew) (a := a) (al := alOf ops (Region.before ops) P) (fun i hi => by
    cases hPc : P with
    | none => rw [hPc] at hi; simp [alOf] at hi
    | some p =>
      rw [hPc] at hi g4
      simp only [alOf, Bool.and_eq_true, decide_eq_true_eq] at hi
      obtain ⟨o, _, _, _, _, _, q1, q2, q3, _⟩ := g4
      exact ⟨p, hi.1.1, loB_iff.2 ⟨o, q1, q2, q3⟩, hfalse p⟩) hσ ops.size 0 (k.wd k.w.drew) rfl (Nat.zero_le _) (K.le.refl _) (fun i hi => by omega) (by rw [g2]; exact hI') (by rw [hF, g1]; exact hr.mono hk) ⟨fun i h => absurd h (hE0 i), fun i h => absurd h (hE0 i), fun i h => absurd h (hE0 i), fun i _ h => absurd h (hE0 i)⟩
  rw [← r4]
  refine any_good (k0 := k.wd k.w.drew) hc hT g3 (hg.mono hk) (fun p hp => ?_) (fun hPn k' a' h1 h2 h3 => hQ _ _ _ ?_) ops.size _ (List.range ops.size) k' a q _ (by simp) List.nodup_range (by simp) (fun i => by simp [hfalse, List.mem_range]) (fun p i hi hb hL => by rw [hfalse] at hL; cases hL) (fun p _ => hfalse p) r5 r1 r2 r3 r6 r7 r8
  · subst hp
    obtain ⟨o, f, args, σ1, v, σ2, q1, q2, q3, q4, q5, q6⟩ := g4
    refine ⟨o, f, args, σ1, v, σ2, q1, q2, q3, q4, q5, fun k' a' u h1 h2 h3 h4 => hQ _ _ _ ?_⟩
    rw [q6]
    exact ⟨u, k', rfl, rfl, hk.trans h1, h2, h3, h4⟩
  · subst hPn
    rw [show r = _ from g4]
    simp only [Nat.zero_add, Array.length_toList]
    exact ⟨rfl, k', rfl, hk.trans h1, h2, h3⟩

end
end Go.DM
namespace Go.DM
open Go Go.RowKit

/-- an ending, with another one in place of the normal one -/
def Qn (N : Act → World → Prop) (Q : Exit → Act → World → Prop) : Exit → Act → World → Prop
  | .normal, a, w => N a w
  | e, a, w => Q e a w
theorem wp_exits {P : Program} {o : Oper} {a : Act} {w : World} {K K' N : Act → World → Prop} {Q : Exit → Act → World → Prop} (h : ∀ a w, K a w → K' a w) (hh : o.wp P a w K (Qn N Q)) : o.wp P a w K' Q := by
  unfold Oper.wp at *
  generalize (execOp a.eval o).run P w = r at *
  cases r with
  | ok n w' =>
    cases n <;> simp only [Oper.upon] at hh ⊢ <;>
      first
        | exact h _ _ hh
        | exact Calls.mono hh (fun e w'' he => by cases e <;> first | exact h _ _ he | exact he)
        | exact Rows.mono hh (fun _ _ he => h _ _ he)
  | halt x w' => cases x <;> simp only [Oper.upon] at hh ⊢ <;> exact hh

section
variable {P : Program} {ops : Array Oper} {m : Nat} {N : Act → World → Prop} {Q : Exit → Act → World → Prop}
def Down (ops : Array Oper) (listed : Array Bool) : Prop := ∀ p i, i < ops.size → bfr (Region.before ops) p i = true → listed.getD i false = true → listed.getD p false = true
theorem ready_pred {listed : Array Bool} {j : Nat} (hon : ∀ j o e, ops[j]? = some o → e ∈ o.after → Region.binds .any e = true → e.on < j) (hD : Down ops listed) (hj : j ∈ Region.ready .any ops listed) : ∀ p, bfr (Region.before ops) p j = true → listed.getD p false = true := by
  intro p hp
  obtain ⟨_, o, ho, hedge⟩ := mem_ready.1 hj
  obtain ⟨o', ho', ed, h1, h2, h3⟩ := bfr_spec hon hp
  rw [ho] at ho'; cases ho'
  have h4 := hedge ed h1 h2
  rcases h3 with rfl | h3
  · exact h4
  · have := hon j o ed ho h1 h2
    have hjN := (Array.getElem?_eq_some_iff.1 ho).1
    exact hD p ed.on (by omega) h3 h4
theorem ready_un {listed : Array Bool} {j : Nat} (hsz : listed.size = ops.size) (hj : j ∈ Region.ready .any ops listed) : listed.getD j false = false ∧ j < ops.size := by
  obtain ⟨h1, o, ho, _⟩ := mem_ready.1 hj
  have hjN := (Array.getElem?_eq_some_iff.1 ho).1
  have hjl : j < listed.size := by omega
  refine ⟨?_, hjN⟩
  simp [Array.getD_eq_getD_getElem?, hjl] at h1 ⊢; exact h1
theorem none_ready {listed : Array Bool} (hon : ∀ j o e, ops[j]? = some o → e ∈ o.after → Region.binds .any e = true → e.on < j) (hsz : listed.size = ops.size) (hrd : Region.ready .any ops listed = []) : ∀ i, i < ops.size → listed.getD i false = true := by
  intro i
  induction i using Nat.strongRecOn with
  | _ i ih =>
    intro hi
    cases hL : listed.getD i false with
    | true => rfl
    | false =>
      exfalso
      have : i ∈ Region.ready .any ops listed := by
        refine mem_ready.2 ⟨?_, ops[i], by simp [hi], fun ed he hb => ?_⟩
        · have hi' : i < listed.size := by omega
          simp [Array.getD_eq_getD_getElem?, hi'] at hL ⊢; exact hL
        · have := hon i ops[i] ed (by simp [hi]) he hb
          exact ih _ this (by omega)
      rw [hrd] at this; cases this
theorem getD_mark {listed : Array Bool} {j : Nat} (hj : j < listed.size) (i : Nat) : (listed.setIfInBounds j true).getD i false = if i = j then true else listed.getD i false := by
  by_cases hij : i = j
  · subst hij; simp [Array.getD_eq_getD_getElem?, hj]
  · rw [if_neg hij]
    have : j ≠ i := fun e => hij e.symm
    simp [Array.getD_eq_getD_getElem?, this]
theorem down_mark {listed : Array Bool} {j : Nat} (hon : ∀ j o e, ops[j]? = some o → e ∈ o.after → Region.binds .any e = true → e.on < j) (hsz : listed.size = ops.size) (hD : Down ops listed) (hj : j ∈ Region.ready .any ops listed) : Down ops (listed.setIfInBounds j true) := by
  have hjN := (ready_un hsz hj).2
  intro p i hi hb hL
  rw [getD_mark (by omega)] at hL ⊢
  split
  · rfl
  · split at hL
    · rename_i hij; subst hij; exact ready_pred hon hD hj p hb
    · exact hD p i hi hb hL
theorem wanted_none {o : Oper} (h : o.guard = none) (y : Nat → Option Bool) : Region.wanted o y = true := by unfold Region.wanted; rw [h]

/-- the first operations of a region, whose others wait for all of them -/
theorem split_any (hm : m ≤ ops.size) (hon : ∀ j o e, ops[j]? = some o → e ∈ o.after → Region.binds .any e = true → e.on < j) (hB : ∀ p j, p < m → m ≤ j → j < ops.size → bfr (Region.before ops) p j = true) (hG : ∀ j o, j < m → ops[j]? = some o → o.guard = none)
    (hN : ∀ listed a w, listed.size = ops.size → (∀ i, i < m → listed.getD i false = true) → (∀ i, m ≤ i → listed.getD i false = false) → Down ops listed → N a w → wpAny P .any ops Q (ops.size - m) listed a w) :
    ∀ (fuel : Nat) (listed' listed : Array Bool) (rem : List Nat) (a : Act) (w : World), listed'.size = m → listed.size = ops.size → (∀ i, i < m → listed.getD i false = listed'.getD i false) → (∀ i, m ≤ i → listed.getD i false = false) → rem.length = fuel → rem.Nodup →
      (∀ i, i ∈ rem ↔ i < m ∧ listed'.getD i false = false) → Down ops listed → wpAny P .any (ops.toList.take m).toArray (Qn N Q) fuel listed' a w → wpAny P .any ops Q (fuel + (ops.size - m)) listed a w
  | 0, listed', listed, rem, a, w, hs', hs, he, ht, hl, hnd, hr, hD, h => by
    rw [Nat.zero_add]
    refine hN listed a w hs (fun i hi => ?_) ht hD h.2
    rw [he i hi]
    cases hL : listed'.getD i false with
    | true => rfl
    | false =>
      have := (hr i).2 ⟨hi, hL⟩
      rw [List.eq_nil_of_length_eq_zero hl] at this; cases this
  | fuel + 1, listed', listed, rem, a, w, hs', hs, he, ht, hl, hnd, hr, hD, h => by
    rw [show fuel + 1 + (ops.size - m) = fuel + (ops.size - m) + 1 by omega]
    obtain ⟨r0, rr, hrem⟩ : ∃ r0 rr, rem = r0 :: rr := by
      cases rem with
      | nil => cases hl
      | cons r0 rr => exact ⟨r0, rr, rfl⟩
    have hr0 : r0 < m ∧ listed'.getD r0 false = false := (hr r0).1 (by rw [hrem]; simp)
    refine ⟨fun hrd => ?_, fun j hj => ?_⟩
    · have := none_ready hon hs hrd r0 (by omega)
      rw [he r0 hr0.1, hr0.2] at this; cases this
    · obtain ⟨hLj, hjN⟩ := ready_un hs hj
      have hpred := ready_pred hon hD hj
      have hjm : j < m := by
        rcases Nat.lt_or_ge j m with h | h
        · exact h
        · exfalso
          have := hpred r0 (hB r0 j hr0.1 h hjN)
          rw [he r0 hr0.1, hr0.2] at this; cases this
      obtain ⟨_, o, ho, hedge⟩ := mem_ready.1 hj
      have ho' : (ops.toList.take m).toArray[j]? = some o := by
        simp only [List.getElem?_toArray]
        rw [List.getElem?_take, if_pos hjm]; simpa using ho
      have hLj' : listed'.getD j false = false := by rw [← he j hjm]; exact hLj
      have hjl' : j < listed'.size := by omega
      have hj' : j ∈ Region.ready .any (ops.toList.take m).toArray listed' := by
        refine mem_ready.2 ⟨?_, o, ho', fun ed h1 h2 => ?_⟩
        · simp [Array.getD_eq_getD_getElem?, hjl'] at hLj' ⊢; exact hLj'
        · have := hon j o ed ho h1 h2
          rw [← he ed.on (by omega)]; exact hedge ed h1 h2
      have h2 := h.2 j hj'
      have hjr : j ∈ rem := (hr j).2 ⟨hjm, hLj'⟩
      have next : ∀ a w, wpAny P .any (ops.toList.take m).toArray (Qn N Q) fuel (listed'.setIfInBounds j true) a w → wpAny P .any ops Q (fuel + (ops.size - m)) (listed.setIfInBounds j true) a w := fun a w hh => by
        refine split_any hm hon hB hG hN fuel (listed'.setIfInBounds j true) (listed.setIfInBounds j true) (rem.erase j) a w (by simpa using hs') (by simpa using hs) (fun i hi => ?_) (fun i hi => ?_) (by rw [List.length_erase_of_mem hjr]; omega) (hnd.erase _) (fun i => ?_) (down_mark hon hs hD hj) hh
        · rw [getD_mark (by omega), getD_mark hjl', he i hi]
        · rw [getD_mark (by omega), if_neg (by omega)]; exact ht i hi
        · rw [hnd.mem_erase_iff, hr i, getD_mark hjl']
          by_cases hij : i = j
          · subst hij; simp
          · simp [hij]
      unfold wpOp at h2 ⊢
      rw [ho'] at h2
      rw [ho]
      simp only [wanted_none (hG j o hjm ho), if_true] at h2 ⊢
      rcases h2 with h2 | ⟨h2, a', w', h3⟩
      · exact .inl (wp_exits next h2)
      · exact .inr ⟨h2, a', w', h3⟩
end

theorem lateP1_inv {o : Oper} {c : Call} {s z ta : Tmp} (h : lateP1 o = some (c, s, z, ta)) : o.op = .call c ∧ o.dst = some ta ∧ o.guard = none ∧ c.callee = .builtin .append ∧ c.args.toList = [.tmp s, .tmp z] := by
  unfold lateP1 at h
  split at h
  · rename_i h1 h2 h3
    split at h
    · rename_i h4 h5; cases h; exact ⟨h1, h2, h3, h4, h5⟩
    · cases h
  · cases h
theorem lateP2_inv {o : Oper} {t : TypeId} {a i p : Tmp} (h : lateP2 o = some (t, a, i, p)) : o.op = .indexAddr t (.tmp a) (.tmp i) ∧ o.dst = some p ∧ o.guard = none := by
  unfold lateP2 at h
  split at h
  · rename_i h1 h2 h3; cases h; exact ⟨h1, h2, h3⟩
  · cases h
theorem lateP3_inv {o : Oper} {t : TypeId} {p v : Tmp} (h : lateP3 o = some (t, p, v)) : o.op = .store t (.tmp p) (.tmp v) ∧ o.dst = none ∧ o.guard = none := by
  unfold lateP3 at h
  split at h
  · rename_i h1 h2 h3; cases h; exact ⟨h1, h2, h3⟩
  · cases h
/-- an operation that gives such an address -/
def LateAdr.Is (ad : LateAdr) (o : Oper) : Prop := match ad with
  | .fld t x f => o.op = .fieldAddr t (.tmp x) f
  | .idx t x i => o.op = .indexAddr t (.tmp x) (.tmp i)
theorem lateP4_inv {o : Oper} {ad : LateAdr} {b : Tmp} (h : lateP4 o = some (ad, b)) : ad.Is o ∧ o.dst = some b ∧ o.guard = none := by
  unfold lateP4 at h
  split at h
  · rename_i h1 h2 h3; cases h; exact ⟨h1, h2, h3⟩
  · rename_i h1 h2 h3; cases h; exact ⟨h1, h2, h3⟩
  · cases h

section
variable {C : Cfg} {w0 : World} {callF : CallF} {n : Nat} {ops : Array Oper}
theorem run_indexSlice {P : Program} {t e : TypeId} {c o len cap sz : Nat} {kd : IntKind} {i : Int} (w : World) (hu : P.underlying t = some (.slice e)) (hs : sizeOfT P e = some sz) (h0 : 0 ≤ i) (h1 : i < (len : Nat)) :
    (Instr.indexAt t (.slice (some ⟨c, o, none⟩) len cap) (.int kd i)).run P w = .ok (.pointer (some ⟨c, o + i.toNat * sz, none⟩)) w := by
  simp only [Instr.indexAt, asIntOf, Sem.run_bind, Sem.run_pure, run_underlying hu, Result.andThen_ok]
  rw [if_pos ⟨h0, h1⟩]
  simp [run_sizeOfT hs, addr_add]
theorem run_fieldPtr {P : Program} {s : TypeId} {c o b x f : Nat} {a : A} (w : World) (h : fieldOp P s (.ptr b x) f = some a) : ∃ off, a = .ptr b (x + off) ∧ (Instr.fieldAt s (.pointer (some ⟨c, o, none⟩)) f).run P w = .ok (.pointer (some ⟨c, o + off, none⟩)) w := by
  unfold fieldOp at h
  split at h
  · rename_i fs hu
    split at h
    · rename_i fd hf
      split at h
      · rename_i n hn
        split at h
        · cases h
        · rename_i hn0
          cases h
          refine ⟨fd.offset, rfl, ?_⟩
          simp [Instr.fieldAt, run_underlying hu, hf, Instr.sureAddr, fieldPlace, run_sizeOfT hn, hn0, addr_add]
      · cases h
    · cases h
  · cases h
theorem run_storeRow {P : Program} {t e : TypeId} {c o lo hi : Nat} {v : Value} {us : List Value} {sz : Nat} (w : World) (hh : w.heap[c]? = some (.cells us.toArray e (lo, hi))) (hn : sizeOfT P t = some sz) (hsz : v.cells.size = sz) (hb : o + sz ≤ us.length) (h1 : ∀ x ∈ v.cells.toList, x.oneCell' = true) (hr : lo = hi ∨ hi ≤ o) :
    (Instr.storeAt t (.pointer (some ⟨c, o, none⟩)) v).run P w = .ok () (w.setRow c (us.take o ++ v.cells.toList ++ us.drop (o + v.cells.toList.length)).toArray) := by
  have hrun := run_stores P c e lo hi v.cells.toList o 0 us w hh (by simp only [Array.length_toList, hsz]; omega) h1 (by simpa using hr)
  simp only [Nat.add_zero] at hrun
  simp [Instr.storeAt, Instr.sureAddr, storeVar, run_sizeOfT hn, hsz, hrun]

theorem adr_run {ad : LateAdr} {φ : Fr} {k : K} {a : Act} {o3 : Oper} {b o : Nat} (hr : FrRel k n φ a) (h : ad.val C φ = some (.ptr b o)) (hi : ad.Is o3) :
    ∃ xc, k.blk b = some xc ∧ ∀ (a' : Act) (w : World), (∀ t, t ∈ ad.tmps → a'.tmps.getD t undef = a.tmps.getD t undef) → (execOp a'.eval o3).run C.P w = .ok (.value (.pointer (some ⟨xc, o, none⟩))) w := by
  cases ad with
  | fld st x f =>
    unfold LateAdr.val at h
    dsimp only at h
    split at h
    case h_2 => cases h
    rename_i b0 o0 hX
    have hxv := hr.slot x
    rw [at_of hX] at hxv
    obtain ⟨xc, hxe, hxb⟩ : ∃ xc, a.tmps.getD x undef = .pointer (some ⟨xc, o0, none⟩) ∧ k.blk b0 = some xc := by
      generalize a.tmps.getD x undef = xx at hxv
      cases hxv with
      | ptr hb => exact ⟨_, rfl, hb⟩
    obtain ⟨off, h1, _⟩ := run_fieldPtr (c := xc) (o := o0) k.w h
    cases h1
    refine ⟨xc, hxb, fun a' w ht => ?_⟩
    obtain ⟨off', h3, h4⟩ := run_fieldPtr (c := xc) (o := o0) w h
    have : off' = off := by injection h3 with _ h3; omega
    subst this
    have he1 : a'.eval (.tmp x) = .pointer (some ⟨xc, o0, none⟩) := by
      show a'.tmps.getD x undef = _
      rw [ht x (by simp [LateAdr.tmps]), hxe]
    have hi' : o3.op = .fieldAddr st (.tmp x) f := hi
    simp only [execOp, hi', he1]
    exact v_run h4
  | idx t x i =>
    unfold LateAdr.val at h
    dsimp only at h
    split at h
    case h_2 => cases h
    rename_i b0 o0 len cap kd j hX hJ
    split at h
    case h_2 => cases h
    rename_i e hu
    split at h
    case h_2 => cases h
    rename_i sz hsz
    split at h
    case isFalse => cases h
    rename_i hj
    cases h
    have hxv := hr.slot x
    rw [at_of hX] at hxv
    have hiv := hr.slot i
    rw [at_of hJ] at hiv
    have hti := rel_v_inv hiv
    obtain ⟨xc, capv, hxe, hxb⟩ : ∃ xc capv, a.tmps.getD x undef = .slice (some ⟨xc, o0, none⟩) len capv ∧ k.blk b = some xc := by
      generalize a.tmps.getD x undef = xx at hxv
      cases hxv with
      | ms hb => exact ⟨_, _, rfl, hb⟩
      | mv hb => exact ⟨_, _, rfl, hb⟩
    refine ⟨xc, hxb, fun a' w ht => ?_⟩
    have he1 : a'.eval (.tmp x) = .slice (some ⟨xc, o0, none⟩) len capv := by
      show a'.tmps.getD x undef = _
      rw [ht x (by simp [LateAdr.tmps]), hxe]
    have he2 : a'.eval (.tmp i) = .int kd j := by
      show a'.tmps.getD i undef = _
      rw [ht i (by simp [LateAdr.tmps]), hti]
    have hi' : o3.op = .indexAddr t (.tmp x) (.tmp i) := hi
    simp only [execOp, hi', he1, he2]
    exact v_run (run_indexSlice _ hu hsz hj.1 hj.2)

theorem late_tail {m : Nat} {p : LateP} (hm : m + 5 = ops.size) (hp : lateP (ops.toList.drop m) = some p) (hon : ∀ j o e, ops[j]? = some o → e ∈ o.after → Region.binds .any e = true → e.on < j)
    (hb1 : ∀ t, m < t → t < ops.size → bfr (Region.before ops) m t = true) (hb2 : bfr (Region.before ops) (m + 1) (m + 2) = true) (hb3 : bfr (Region.before ops) (m + 3) (m + 4) = true)
    {φ φ3 : Fr} {σ σ3 : St} {x3 : X} (h : lateTail C n p φ σ = some (x3, φ3, σ3)) {k : K} {a : Act} (hI : Inv w0 σ k) (hr : FrRel k n φ a) {Q : Exit → Act → World → Prop}
    (hQ : ∀ k3 a3, k.le k3 → Inv w0 σ3 k3 → FrRel k3 n φ3 a3 → Q .normal a3 k3.w) {listed : Array Bool} (hs : listed.size = ops.size) (hl1 : ∀ i, i < m → listed.getD i false = true) (hl2 : ∀ i, m ≤ i → listed.getD i false = false) (hD : Down ops listed) :
    wpAny C.P .any ops Q 5 listed a k.w ∧ x3 = .normal := by
  -- the five operations
  have hlen : (ops.toList.drop m).length = 5 := by simp; omega
  unfold lateP at hp
  split at hp
  case h_2 => cases hp
  rename_i o0 o1 o2 o3 o4 hl5
  split at hp
  case h_2 => cases hp
  rename_i c s z ta t1 ta1 ti tp e tp1 tv ad tb t2 tb1 ta2 g0 g1 g2 g3 g4
  split at hp
  case isFalse => cases hp
  rename_i hcd
  cases hp
  obtain ⟨e1, e2, e3, e4, n1, n2, n4, n5, n7, n8, n9, n10, n11, m1, m2, m3⟩ := hcd
  replace e1 := e1.symm
  replace e2 := e2.symm
  replace e3 := e3.symm
  replace e4 := e4.symm
  subst e1 e2 e3 e4
  obtain ⟨p0, d0, q0, c0, ar0⟩ := lateP1_inv g0
  obtain ⟨p1, d1, q1⟩ := lateP2_inv g1
  obtain ⟨p2, d2, q2⟩ := lateP3_inv g2
  obtain ⟨p3, d3, q3⟩ := lateP4_inv g3
  obtain ⟨p4, d4, q4⟩ := lateP3_inv g4
  have at_ : ∀ j, ops[m + j]? = [o0, o1, o2, o3, o4][j]? := fun j => by
    rw [← hl5, List.getElem?_drop]; simp
  have a0 : ops[m]? = some o0 := at_ 0
  have a1 : ops[m + 1]? = some o1 := at_ 1
  have a2 : ops[m + 2]? = some o2 := at_ 2
  have a3 : ops[m + 3]? = some o3 := at_ 3
  have a4 : ops[m + 4]? = some o4 := at_ 4
  -- the machine's step
  unfold lateTail at h
  simp only at h
  split at h
  case h_2 => cases h
  rename_i s' z' ti' v hS hZ hTi hTv
  split at h
  case h_2 => cases h
  rename_i av addr σ3' hval
  cases h
  have h := hval
  clear hval
  unfold lateVal at h
  dsimp only at h hS hZ hTi hTv ⊢
  split at h
  case h_2 => cases h
  rename_i sz zs ap kd len
  split at h
  case h_2 => cases h
  rename_i t t' hat0 hat1
  split at h
  case h_2 => cases h
  rename_i el el' el1 hu hu' hu1
  split at h
  case isFalse => cases h
  rename_i hcond
  obtain ⟨k1, k2, k3, k4, k5, k6, k7, k8, k9, k10, k11, k12⟩ := hcond
  split at h
  case h_2 => cases h
  rename_i av2 σ2 hap
  split at h
  case h_2 => cases h
  rename_i b' o' hfo
  split at h
  case h_2 => cases h
  rename_i σ3'' hso
  cases h
  refine ⟨?_, rfl⟩
  obtain ⟨inf, hinf, rfl⟩ := sizeOfT_some k1
  have hsv := hr.slot s
  have hzv := hr.slot z
  have htiv := hr.slot ti
  have htvv := hr.slot tv
  rw [at_of hS] at hsv
  rw [at_of hZ] at hzv
  rw [at_of hTi] at htiv
  rw [at_of hTv] at htvv
  have hti := rel_v_inv htiv
  have hvc := htvv.cells (allOne_ne_junk k7)
  have hvl : (a.tmps.getD tv undef).cells.size = inf.size := by
    have := hvc.1; rw [k6] at this; simpa using this.symm
  obtain ⟨w1, r, hrun, ⟨cc, oo, cap, us, e', lo, hi, k2', r1, r2, r3, r4, r5, r6, r7, r8, r9, r10, _⟩⟩ := append_late (P := C.P) (ty := o0.type) hI hat0 hat1 hu hu' (fun kd h => by cases h) hinf hsv hzv (new := zs) (by simp [appended]) k4 k5 hvc k6 k9 hap
  subst r1
  -- the store of the slice
  obtain ⟨xc, hxb, hfr⟩ := adr_run (o3 := o3) hr hfo p3
  unfold storeOp at hso
  simp only at hso
  split at hso
  case h_2 => cases hso
  rename_i cs eb nb hcb hnb
  split at hso
  case isFalse => cases hso
  rename_i hq
  obtain ⟨z1, z2, z3⟩ := hq
  cases hso
  have hkb : k2'.blk b' = some xc := r8.toLe0.blk b' xc hxb
  have hac := r6.cells (allOne_ne_junk z2)
  obtain ⟨ub, eb2, y1, y2, _, hI3, hle3⟩ := r7.storeRow (o := o') hcb hkb hac (by rw [z1]; exact z3)
  have hgb : σ2.blks.get b' = some (.cells cs eb) := (r7.cellsAt hcb hkb).2.1
  have hne : xc ≠ cc := r10 b' xc _ hgb hxb
  have hub : w1.heap[xc]? = some (.cells ub.toArray eb2 (0, 0)) := by
    rw [← y1, r5]; exact (setRow_other _ _ _ _ hne).symm
  have hnbs : (Value.slice (some ⟨cc, oo, none⟩) (len.toNat + 1) cap).cells.toList.length = nb := by rw [← hac.1, z1]
  generalize husA : (us.take (oo + len.toNat * inf.size) ++ (a.tmps.getD tv undef).cells.toList ++ us.drop (oo + len.toNat * inf.size + (a.tmps.getD tv undef).cells.toList.length)).toArray = usA at r5
  generalize husB : (ub.take o' ++ (Value.slice (some ⟨cc, oo, none⟩) (len.toNat + 1) cap).cells.toList ++ ub.drop (o' + (Value.slice (some ⟨cc, oo, none⟩) (len.toNat + 1) cap).cells.toList.length)).toArray = usB at hI3 hle3
  -- the worlds and the acts on the way
  let W : Nat → Nat → World := fun p q => if 2 ≤ q then (if 2 ≤ p then w1.setRow cc usA else w1).setRow xc usB else (if 2 ≤ p then w1.setRow cc usA else w1)
  have hn1' : ta < n := k10
  have hn2' : tp < n := k11
  have hn3' : tb < n := k12
  have go : ∀ (d p q : Nat) (listed : Array Bool) (a' : Act), p ≤ 2 → q ≤ 2 → p + q + d = 4 → listed.size = ops.size → Down ops listed → (∀ i, i ≤ m → listed.getD i false = true) →
      (listed.getD (m + 1) false = decide (1 ≤ p)) → (listed.getD (m + 2) false = decide (2 ≤ p)) → (listed.getD (m + 3) false = decide (1 ≤ q)) → (listed.getD (m + 4) false = decide (2 ≤ q)) →
      a'.tmps.size = n → a'.defers = a.defers → (∀ t, t ≠ ta → t ≠ tp → t ≠ tb → a'.tmps.getD t undef = a.tmps.getD t undef) → a'.tmps.getD ta undef = .slice (some ⟨cc, oo, none⟩) (len.toNat + 1) cap →
      (1 ≤ p → a'.tmps.getD tp undef = .pointer (some ⟨cc, oo + len.toNat * inf.size, none⟩)) → (1 ≤ q → a'.tmps.getD tb undef = .pointer (some ⟨xc, o', none⟩)) →
      wpAny C.P .any ops Q d listed a' (W p q) := by
    intro d
    induction d with
    | zero =>
      intro p q listed a' hp hq hpq hsz hD hl h1 h2 h3 h4 b1 b2 b3 b4 b5 b6
      have ep : p = 2 := by omega
      have eq : q = 2 := by omega
      subst ep eq
      have all : ∀ i, i < ops.size → listed.getD i false = true := fun i hi => by
        rcases Nat.lt_or_ge m i with h | h
        · have : i = m + 1 ∨ i = m + 2 ∨ i = m + 3 ∨ i = m + 4 := by omega
          rcases this with rfl | rfl | rfl | rfl
          · rw [h1]; rfl
          · rw [h2]; rfl
          · rw [h3]; rfl
          · rw [h4]; rfl
        · exact hl i h
      refine ⟨List.eq_nil_iff_forall_not_mem.2 (fun j hj => ?_), ?_⟩
      · obtain ⟨g1, g2⟩ := ready_un hsz hj
        rw [all j g2] at g1; cases g1
      · have hw : W 2 2 = (k2'.wd (k2'.w.setRow xc usB)).w := by
          show (w1.setRow cc usA).setRow xc usB = k2'.w.setRow xc usB
          rw [r5]
        rw [hw]
        refine hQ _ a' (r8.trans hle3) hI3 ⟨b1, fun t => ?_, ?_⟩
        · simp only [at_set]
          by_cases ht3 : t = tb
          · subst ht3
            rw [if_pos rfl, b6 (by omega)]
            exact .ptr (hle3.toLe0.blk _ _ hkb)
          · rw [if_neg ht3]
            by_cases ht2 : t = tp
            · subst ht2; rw [if_pos rfl]; exact .junk
            · rw [if_neg ht2]
              by_cases ht1 : t = ta
              · subst ht1; rw [if_pos rfl, b4]; exact r6.mono hle3
              · rw [if_neg ht1, b3 t ht1 ht2 ht3]; exact ((hr.slot t).mono r8).mono hle3
        · rw [b2]; exact (hr.ds.mono r8).mono hle3
    | succ d ih =>
      intro p q listed a' hp hq hpq hsz hD hl h1 h2 h3 h4 b1 b2 b3 b4 b5 b6
      have hun : ∀ j, j ∈ Region.ready .any ops listed → j = m + 1 ∨ j = m + 2 ∨ j = m + 3 ∨ j = m + 4 := fun j hj => by
        obtain ⟨g1, g2⟩ := ready_un hsz hj
        rcases Nat.lt_or_ge m j with h | h
        · omega
        · rw [hl j h] at g1; cases g1
      refine ⟨fun hrd => ?_, fun j hj => ?_⟩
      · exfalso
        have all := none_ready hon hsz hrd
        have := all (m + 2) (by omega)
        rw [h2] at this
        have := all (m + 4) (by omega)
        rw [h4] at this
        simp at *
        omega
      · obtain ⟨g1, g2⟩ := ready_un hsz hj
        have hpred := ready_pred hon hD hj
        have hD' := down_mark hon hsz hD hj
        have hmk := fun i => getD_mark (listed := listed) (j := j) (by omega) i
        have hl' : ∀ i, i ≤ m → (listed.setIfInBounds j true).getD i false = true := fun i hi => by
          rw [hmk i]; split
          · rfl
          · exact hl i hi
        have put1 : ∀ (t u : Nat) (v : Value), t < n → (a'.put (some t) v).tmps.getD u undef = if u = t then v else a'.tmps.getD u undef := fun t u v ht => by
          show (a'.tmps.setIfInBounds t v).getD u undef = _
          exact getD_set _ _ _ _ (by rw [b1]; exact ht)
        have put2 : ∀ (t : Nat) (v : Value), (a'.put (some t) v).tmps.size = n := fun t v => by simp [Act.put, b1]
        rcases hun j hj with rfl | rfl | rfl | rfl
        · -- the place
          rw [h1] at g1
          have ep : p = 0 := by simp at g1; omega
          subst ep
          unfold wpOp
          rw [a1]
          simp only [wanted_none q1, if_true]
          refine .inl ?_
          unfold Oper.wp
          have he1 : a'.eval (.tmp ta) = .slice (some ⟨cc, oo, none⟩) (len.toNat + 1) cap := b4
          have he2 : a'.eval (.tmp ti) = .int kd len := by
            show a'.tmps.getD ti undef = _
            rw [b3 ti (fun e => n1 e.symm) (fun e => n11 e.symm) (fun e => n9 e.symm), hti]
          have hrun1 : (execOp a'.eval o1).run C.P (W 0 q) = .ok (.value (.pointer (some ⟨cc, oo + len.toNat * inf.size, none⟩))) (W 0 q) := by
            simp only [execOp, p1, he1, he2]
            exact v_run (run_indexSlice _ hu1 k2 k8 (by omega))
          rw [hrun1]
          show wpAny C.P .any ops Q d _ (a'.put o1.dst _) (W 0 q)
          rw [d1]
          have hW : W 0 q = W 1 q := rfl
          rw [hW]
          refine ih 1 q _ _ (by omega) hq (by omega) (by simpa using hsz) hD' hl' ?_ ?_ ?_ ?_ (put2 _ _) (by rw [put_defers]; exact b2) (fun t c1 c2 c3 => ?_) ?_ (fun _ => ?_) (fun hq1 => ?_)
          · rw [hmk, if_pos rfl]; rfl
          · rw [hmk, if_neg (by omega), h2]; rfl
          · rw [hmk, if_neg (by omega), h3]
          · rw [hmk, if_neg (by omega), h4]
          · rw [put1 _ _ _ hn2', if_neg c2]; exact b3 t c1 c2 c3
          · rw [put1 _ _ _ hn2', if_neg n4]; exact b4
          · rw [put1 _ _ _ hn2', if_pos rfl]
          · rw [put1 _ _ _ hn2', if_neg (fun e => n7 e.symm)]; exact b6 hq1
        · -- the element's store
          have g3 := hpred (m + 1) hb2
          rw [h1] at g3
          rw [h2] at g1
          have ep : p = 1 := by simp at g1 g3; omega
          subst ep
          unfold wpOp
          rw [a2]
          simp only [wanted_none q2, if_true]
          refine .inl ?_
          unfold Oper.wp
          have he1 : a'.eval (.tmp tp) = .pointer (some ⟨cc, oo + len.toNat * inf.size, none⟩) := b5 (by omega)
          have he2 : a'.eval (.tmp tv) = a.tmps.getD tv undef := b3 tv (fun e => n2 e.symm) (fun e => n8 e.symm) (fun e => n10 e.symm)
          have hrow : (W 1 q).heap[cc]? = some (.cells us.toArray e' (lo, hi)) := by
            show (if 2 ≤ q then w1.setRow xc usB else w1).heap[cc]? = _
            split
            · rw [setRow_other _ _ _ _ (fun e => hne e.symm)]; exact r2
            · exact r2
          have hst := run_storeRow (v := a.tmps.getD tv undef) _ hrow k3 hvl r3 (allOne_mem hvc k7) r4
          rw [husA] at hst
          have hrun1 : (execOp a'.eval o2).run C.P (W 1 q) = .ok .skip ((W 1 q).setRow cc usA) := by
            simp only [execOp, p2, he1, he2]
            exact u_run hst
          rw [hrun1]
          show wpAny C.P .any ops Q d _ (a'.put o2.dst _) ((W 1 q).setRow cc usA)
          rw [d2]
          have hW : (W 1 q).setRow cc usA = W 2 q := by
            show (if 2 ≤ q then w1.setRow xc usB else w1).setRow cc usA = (if 2 ≤ q then (w1.setRow cc usA).setRow xc usB else w1.setRow cc usA)
            split
            · exact setRow_swap _ hne _ _
            · rfl
          rw [hW]
          refine ih 2 q _ _ (by omega) hq (by omega) (by simpa using hsz) hD' hl' ?_ ?_ ?_ ?_ b1 b2 b3 b4 (fun _ => b5 (by omega)) b6
          · rw [hmk, if_neg (by omega), h1]; rfl
          · rw [hmk, if_pos rfl]; rfl
          · rw [hmk, if_neg (by omega), h3]
          · rw [hmk, if_neg (by omega), h4]
        · -- the field's address
          rw [h3] at g1
          have eq : q = 0 := by simp at g1; omega
          subst eq
          unfold wpOp
          rw [a3]
          simp only [wanted_none q3, if_true]
          refine .inl ?_
          unfold Oper.wp
          have hrun1 : (execOp a'.eval o3).run C.P (W p 0) = .ok (.value (.pointer (some ⟨xc, o', none⟩))) (W p 0) :=
            hfr a' _ (fun t ht => b3 t (fun e => m1 (e ▸ ht)) (fun e => m2 (e ▸ ht)) (fun e => m3 (e ▸ ht)))
          rw [hrun1]
          show wpAny C.P .any ops Q d _ (a'.put o3.dst _) (W p 0)
          rw [d3]
          have hW : W p 0 = W p 1 := rfl
          rw [hW]
          refine ih p 1 _ _ hp (by omega) (by omega) (by simpa using hsz) hD' hl' ?_ ?_ ?_ ?_ (put2 _ _) (by rw [put_defers]; exact b2) (fun t c1 c2 c3 => ?_) ?_ (fun hp1 => ?_) (fun _ => ?_)
          · rw [hmk, if_neg (by omega), h1]
          · rw [hmk, if_neg (by omega), h2]
          · rw [hmk, if_pos rfl]; rfl
          · rw [hmk, if_neg (by omega), h4]; rfl
          · rw [put1 _ _ _ hn3', if_neg c3]; exact b3 t c1 c2 c3
          · rw [put1 _ _ _ hn3', if_neg n5]; exact b4
          · rw [put1 _ _ _ hn3', if_neg n7]; exact b5 hp1
          · rw [put1 _ _ _ hn3', if_pos rfl]
        · -- the slice's store
          have g3 := hpred (m + 3) hb3
          rw [h3] at g3
          rw [h4] at g1
          have eq : q = 1 := by simp at g1 g3; omega
          subst eq
          unfold wpOp
          rw [a4]
          simp only [wanted_none q4, if_true]
          refine .inl ?_
          unfold Oper.wp
          have he1 : a'.eval (.tmp tb) = .pointer (some ⟨xc, o', none⟩) := b6 (by omega)
          have he2 : a'.eval (.tmp ta) = .slice (some ⟨cc, oo, none⟩) (len.toNat + 1) cap := b4
          have hrow : (W p 1).heap[xc]? = some (.cells ub.toArray eb2 (0, 0)) := by
            show (if 2 ≤ p then w1.setRow cc usA else w1).heap[xc]? = _
            split
            · rw [setRow_other _ _ _ _ hne]; exact hub
            · exact hub
          have hst := run_storeRow (v := .slice (some ⟨cc, oo, none⟩) (len.toNat + 1) cap) _ hrow hnb (by simpa using hnbs) (Nat.le_trans z3 y2) (allOne_mem hac z2) (.inl rfl)
          rw [husB] at hst
          have hrun1 : (execOp a'.eval o4).run C.P (W p 1) = .ok .skip ((W p 1).setRow xc usB) := by
            simp only [execOp, p4, he1, he2]
            exact u_run hst
          rw [hrun1]
          show wpAny C.P .any ops Q d _ (a'.put o4.dst _) ((W p 1).setRow xc usB)
          rw [d4]
          have hW : (W p 1).setRow xc usB = W p 2 := rfl
          rw [hW]
          refine ih p 2 _ _ hp (by omega) (by omega) (by simpa using hsz) hD' hl' ?_ ?_ ?_ ?_ b1 b2 b3 b4 b5 (fun _ => b6 (by omega))
          · rw [hmk, if_neg (by omega), h1]
          · rw [hmk, if_neg (by omega), h2]
          · rw [hmk, if_neg (by omega), h3]; rfl
          · rw [hmk, if_pos rfl]; rfl
  -- the append itself
  refine ⟨fun hrd => ?_, fun j hj => ?_⟩
  · have := none_ready hon hs hrd m (by omega)
    rw [hl2 m (Nat.le_refl _)] at this; cases this
  · obtain ⟨g1, g2⟩ := ready_un hs hj
    have hpred := ready_pred hon hD hj
    have hjm : j = m := by
      rcases Nat.lt_trichotomy j m with h | h | h
      · rw [hl1 j h] at g1; cases g1
      · exact h
      · have := hpred m (hb1 j h g2)
        rw [hl2 m (Nat.le_refl _)] at this; cases this
    subst hjm
    unfold wpOp
    rw [a0]
    simp only [wanted_none q0, if_true]
    refine .inl ?_
    unfold Oper.wp
    have hrun1 : (execOp a.eval o0).run C.P k.w = .ok (.value (.slice (some ⟨cc, oo, none⟩) (len.toNat + 1) cap)) w1 := by
      rw [exec_builtin p0 c0, args2 ar0]
      exact v_run hrun
    rw [hrun1]
    show wpAny C.P .any ops Q 4 _ (a.put o0.dst _) (W 0 0)
    rw [d0]
    have hmk := fun i => getD_mark (listed := listed) (j := j) (by omega) i
    have put1 : ∀ (u : Nat) (v : Value), (a.put (some ta) v).tmps.getD u undef = if u = ta then v else a.tmps.getD u undef := fun u v => by
      show (a.tmps.setIfInBounds ta v).getD u undef = _
      exact getD_set _ _ _ _ (by rw [hr.size]; exact hn1')
    refine go 4 0 0 _ _ (by omega) (by omega) (by omega) (by simpa using hs) (down_mark hon hs hD hj) (fun i hi => ?_) ?_ ?_ ?_ ?_ (by simp [Act.put, hr.size]) (put_defers _ _ _) (fun t c1 _ _ => ?_) ?_ (fun h => by omega) (fun h => by omega)
    · rw [hmk]; split
      · rfl
      · exact hl1 i (by omega)
    · rw [hmk, if_neg (by omega), hl2 _ (by omega)]; rfl
    · rw [hmk, if_neg (by omega), hl2 _ (by omega)]; rfl
    · rw [hmk, if_neg (by omega), hl2 _ (by omega)]; rfl
    · rw [hmk, if_neg (by omega), hl2 _ (by omega)]; rfl
    · rw [put1, if_neg c1]
    · rw [put1, if_pos rfl]

theorem drOk1 (hm : C.P.follows .mixedOrders = true) : DrOk1 C w0 := by
  intro callF hc n ops φ σ k a r id Q h hI hg hr hQ
  refine wp_region_any hm ?_
  show wpAny C.P .any ops Q ops.size (Array.replicate ops.size false) a (k.wd k.w.drew).w
  unfold runOpen at h
  split at h
  · rename_i hd; exact dr_any hc hd h hI hg hr hQ
  · unfold runLate at h
    split at h
    case h_2 => cases h
    rename_i p hp
    split at h
    case isFalse => cases h
    rename_i hst
    rw [Bool.and_eq_true] at hst
    obtain ⟨hst, hd⟩ := hst
    split at h
    case h_2 => cases h
    rename_i φ1 σ1 hrun
    have hm5 : ops.size - 5 + 5 = ops.size := by
      unfold lateP at hp
      split at hp
      · rename_i hl5
        have := congrArg List.length hl5
        simp at this; omega
      · cases hp
    unfold lateSt at hst
    simp only [Bool.and_eq_true] at hst
    obtain ⟨⟨⟨⟨⟨⟨⟨t1, t2⟩, t3⟩, t4⟩, t5⟩, t6⟩, t7⟩, t8⟩ := hst
    rw [List.all_eq_true] at t1 t2
    have lt : ∀ {j : Nat} {o : Oper}, ops[j]? = some o → j < ops.size := fun h => (Array.getElem?_eq_some_iff.1 h).1
    have hon : ∀ j o e, ops[j]? = some o → e ∈ o.after → Region.binds .any e = true → e.on < j := fun j o e ho he hb => by
      have := t1 j (List.mem_range.2 (lt ho))
      rw [ho] at this
      simp only [Bool.and_eq_true, Array.all_eq_true_iff_forall_mem] at this
      have := this.1 e he
      simpa [hb] using this
    have hG : ∀ j o, j < ops.size - 5 → ops[j]? = some o → o.guard = none := fun j o hj ho => by
      have := t1 j (List.mem_range.2 (lt ho))
      rw [ho] at this
      simp only [Bool.and_eq_true, Bool.or_eq_true, decide_eq_true_eq] at this
      rcases this.2 with h | h
      · omega
      · exact Option.isNone_iff_eq_none.1 h
    have hB : ∀ p j, p < ops.size - 5 → ops.size - 5 ≤ j → j < ops.size → bfr (Region.before ops) p j = true := fun p j h1 h2 h3 => by
      have := t2 j (List.mem_range.2 h3)
      simp only [Bool.or_eq_true, decide_eq_true_eq] at this
      rcases this with h | h
      · omega
      · exact (List.all_eq_true.1 h) p (List.mem_range.2 h1)
    have hlen : (ops.toList.take (ops.size - 5)).toArray.size = ops.size - 5 := by simp
    have hpre := dr_any hc (Q := Qn (fun a' w' => Here w0 k n φ1 σ1 a' w') Q) hd (runDr_dq hrun) hI hg hr (fun e a' w' he => by
      obtain ⟨rfl, he⟩ := he
      exact he)
    rw [hlen] at hpre
    have hfalse : ∀ (l i : Nat), (Array.replicate l false).getD i false = false := fun l i => by
      rw [Array.getD_eq_getD_getElem?, Array.getElem?_replicate]; split <;> rfl
    have key := split_any (P := C.P) (m := ops.size - 5) (by omega) hon hB hG (fun listed a' w' hs h1 h2 hD hH => by
      obtain ⟨k1, rfl, hk1, hI1, hr1⟩ := hH
      obtain ⟨x3, φ3, σ3⟩ := r
      rw [show ops.size - (ops.size - 5) = 5 by omega]
      have hx : x3 = .normal := by
        unfold lateTail at h
        split at h
        case h_2 => cases h
        split at h
        case h_2 => cases h
        cases h; rfl
      subst hx
      exact (late_tail hm5 hp hon (fun t h3 h4 => by
        have : t = ops.size - 5 + 1 ∨ t = ops.size - 5 + 2 ∨ t = ops.size - 5 + 3 ∨ t = ops.size - 5 + 4 := by omega
        rcases this with rfl | rfl | rfl | rfl
        · exact t3
        · exact t4
        · exact t5
        · exact t6) t7 t8 h hI1 hr1 (fun k3 a3 g1 g2 g3 => hQ _ _ _ ⟨rfl, k3, rfl, hk1.trans g1, g2, g3⟩) hs h1 h2 hD).1)
      (ops.size - 5) (Array.replicate (ops.size - 5) false) (Array.replicate ops.size false) (List.range (ops.size - 5)) a (k.wd k.w.drew).w (by simp) (by simp) (fun i _ => by rw [hfalse, hfalse]) (fun i _ => hfalse _ _) (by simp) List.nodup_range (fun i => by simp [hfalse, List.mem_range]) (fun p i _ _ hL => by rw [hfalse] at hL; cases hL) hpre
    rw [show ops.size - 5 + (ops.size - (ops.size - 5)) = ops.size by omega] at key
    exact key
end
end Go.DM
namespace Go.DM
open Go Go.RowKit

section
variable {C : Cfg} {w0 : World} {callF : CallF} {n : Nat}
theorem putA_keep {φ φ' : Fr} {d : Option Tmp} {x : A} (h : putA n φ d x = some φ') : φ'.ds = φ.ds ∧ ∀ t, d ≠ some t → φ'.s.get t = φ.s.get t := by
  unfold putA at h
  split at h
  · cases h; exact ⟨rfl, fun _ _ => rfl⟩
  · split at h
    · cases h
      rename_i t0 _
      refine ⟨rfl, fun t ht => ?_⟩
      simp only [Fr.set, Tr.get_set]
      rw [if_neg (fun e => ht (by rw [e]))]
    · cases h
theorem runDr_keep {ops : Array Oper} {bef : Array Nat} : ∀ {l : List Oper} {j : Nat} {φ : Fr} {σ : St} {past : List (Nat × St)} {pend : List (Nat × Fr × Oper × A)} {x : X} {φ' : Fr} {σ' : St},
    runDr C callF n ops bef l j φ σ past pend = some (x, φ', σ') → x = .normal ∧ φ'.ds = φ.ds ∧ ∀ t, (∀ o ∈ l, o.dst ≠ some t) → φ'.s.get t = φ.s.get t
  | [], j, φ, σ, past, pend, x, φ', σ', h => by simp only [runDr] at h; cases h; exact ⟨rfl, rfl, fun _ _ => rfl⟩
  | o :: l, j, φ, σ, past, pend, x, φ', σ', h => by
    simp only [runDr] at h
    have fin : ∀ {φ1 : Fr} {y : A} {σ1 : St} {past1 : List (Nat × St)} {pend1 : List (Nat × Fr × Oper × A)}, putA n φ o.dst y = some φ1 → runDr C callF n ops bef l (j + 1) φ1 σ1 past1 pend1 = some (x, φ', σ') →
        x = .normal ∧ φ'.ds = φ.ds ∧ ∀ t, (∀ o' ∈ o :: l, o'.dst ≠ some t) → φ'.s.get t = φ.s.get t := by
      intro φ1 y σ1 past1 pend1 hp hr
      obtain ⟨g1, g2, g3⟩ := runDr_keep hr
      obtain ⟨p1, p2⟩ := putA_keep hp
      exact ⟨g1, g2.trans p1, fun t ht => (g3 t (fun o' ho => ht o' (List.mem_cons_of_mem _ ho))).trans (p2 t (ht o (List.mem_cons_self ..)))⟩
    split at h
    · split at h
      · split at h
        · split at h
          · split at h
            · rename_i hp; exact fin hp h
            · cases h
          · cases h
        · cases h
      · split at h
        · split at h
          · split at h
            · rename_i hp; exact fin hp h
            · cases h
          · cases h
        · cases h
    · split at h
      · rename_i hp; exact fin hp h
      · cases h
    · cases h
/-- a frame that knows nothing of what some operations set, for one that does -/
theorem junk_rel {k : K} {l : List Oper} {φ ψ : Fr} {a : Act} (hr : FrRel k n ψ a) (hd : ψ.ds = φ.ds) (h : ∀ t, (∀ o ∈ l, o.dst ≠ some t) → ψ.s.get t = φ.s.get t) : FrRel k n (junkF l φ) a := by
  refine ⟨hr.size, fun t => ?_, by rw [junkF_ds, ← hd]; exact hr.ds⟩
  rcases junkF_at l φ t with h1 | ⟨h1, h2⟩
  · rw [at_of h1]; exact .junk
  · have : (junkF l φ).at t = ψ.at t := by simp only [Fr.at, h1, h t h2]
    rw [this]; exact hr.slot t
theorem put_get {a : Act} {t u : Nat} {v : Value} (h : t < a.tmps.size) : (a.put (some t) v).tmps.getD u undef = if u = t then v else a.tmps.getD u undef := by
  show (a.tmps.setIfInBounds t v).getD u undef = _
  exact getD_set _ _ _ _ h
theorem coinR_inv {ops : Array Oper} {e : TypeId} {c t : Tmp} (h : coinR C n ops = some (e, c, t)) : ∃ o0 o1 o2 o3 t1 t2 t3 b1 b2,
    ops.toList = [o0, o1, o2, o3] ∧ o0.op = .alloc e ∧ o0.dst = some c ∧ o1.op = .store t1 (.tmp c) (.const (.bool b1)) ∧ o2.op = .store t2 (.tmp c) (.const (.bool b2)) ∧ o3.op = .load t3 (.tmp c) ∧ o3.dst = some t ∧
      c ≠ t ∧ c < n ∧ t < n ∧ zeroBool (zeroOf C.P e) = true ∧ sizeOfT C.P t1 = some 1 ∧ sizeOfT C.P t2 = some 1 ∧ sizeOfT C.P t3 = some 1 ∧ isAggT C.P t3 = some false ∧
          o0.guard = none ∧ o1.guard = none ∧ o2.guard = none ∧ o3.guard = none ∧ o1.dst = none ∧ o2.dst = none ∧
          Region.ready .any ops #[false, false, false, false] = [0] ∧ Region.ready .any ops #[true, false, false, false] = [1, 2] ∧ Region.ready .any ops #[true, true, false, false] = [2] ∧ Region.ready .any ops #[true, false, true, false] = [1] ∧
          Region.ready .any ops #[true, true, true, false] = [3] ∧ Region.ready .any ops #[true, true, true, true] = [] := by
  unfold coinR at h
  split at h
  case h_2 => cases h
  rename_i o0 o1 o2 o3 hl
  split at h
  case h_2 => cases h
  rename_i e' c' t1 c1 b1 t2 c2 b2 t3 c3 t' p0 d0 p1 p2 p3 d3
  split at h
  case isFalse => cases h
  rename_i hc
  cases h
  obtain ⟨rfl, rfl, rfl, hc⟩ := hc
  exact ⟨o0, o1, o2, o3, t1, t2, t3, b1, b2, hl, p0, d0, p1, p2, p3, d3, hc⟩
/-- whatever the order: a bool, and one new block that nobody knows -/
theorem coin_wp (hm : C.P.follows .mixedOrders = true) {ops : Array Oper} {id : Nat} {e : TypeId} {c t : Tmp} (h : coinR C n ops = some (e, c, t)) {σ : St} {k : K} (hI : Inv w0 σ k) {φ : Fr} {a : Act} (hr : FrRel k n φ a) {Q : Exit → Act → World → Prop}
    (hQ : ∀ (b : Bool) k' a', k.le k' → Inv w0 σ k' → FrRel k' n (junkF ops.toList φ) a' → a'.tmps.getD t undef = .bool b → Q .normal a' k'.w) : (Code.region id ops true).wp C.P Q a k.w := by
  obtain ⟨o0, o1, o2, o3, t1, t2, t3, b1, b2, hl, p0, d0, p1, p2, p3, d3, hct, hcn, htn, hz, z1, z2, z3, hag, g0, g1, g2, g3, e1, e2, r0, r1, r12, r21, r3, r4⟩ := coinR_inv h
  refine wp_region_any hm ?_
  show wpAny C.P .any ops Q ops.size (Array.replicate ops.size false) a (k.wd k.w.drew).w
  obtain ⟨hI1, hle1⟩ := hI.drew
  have hsz : ops.size = 4 := by have := congrArg List.length hl; simpa using this
  have at_ : ∀ j, ops[j]? = [o0, o1, o2, o3][j]? := fun j => by rw [← hl, Array.getElem?_toList]
  rw [hsz]
  generalize hk1 : k.wd k.w.drew = k1 at hI1 hle1
  have has : a.tmps.size = n := hr.size
  -- the new variable
  obtain ⟨us, hus⟩ : ∃ x, zeroOf C.P e = some [.v (.bool x)] := by
    unfold zeroBool at hz
    split at hz
    · rename_i x hx; exact ⟨x, hx⟩
    · cases hz
  obtain ⟨i, zv, zs, q1, q2, q3, q4⟩ := zeroOf_good (k := k1) hus
  have hzs : zs = [.bool us] := by
    obtain ⟨z, zr, e', hz1, hz2⟩ := q4.inv_cons
    have := hz2.inv_nil
    subst this
    subst e'
    rw [rel_v_inv hz1]
  subst hzs
  let W : Bool → World := fun b => k1.w.alloc (.cells #[.bool b] e)
  have hheap : ∀ b, (W b).heap[k1.w.heap.size]? = some (.cells [Value.bool b].toArray e (0, 0)) := fun b => heap_alloc_same _ _
  have hstore : ∀ (b b' : Bool) (ty : TypeId), sizeOfT C.P ty = some 1 → (Instr.storeAt ty (.pointer (some ⟨k1.w.heap.size, 0, none⟩)) (.bool b')).run C.P (W b) = .ok () (W b') := fun b b' ty hty => by
    have := run_storeRow (v := .bool b') (o := 0) (W b) (hheap b) hty rfl (by simp) (fun x hx => by simp [Value.cells] at hx; subst hx; rfl) (.inl rfl)
    rw [this]
    congr 1
    exact setRow_alloc k1.w _ _ e (0, 0)
  have hload : ∀ b, (Instr.loadAt t3 (.pointer (some ⟨k1.w.heap.size, 0, none⟩))).run C.P (W b) = .ok (.bool b) (W b) := fun b => by
    obtain ⟨inf, hi, _⟩ := sizeOfT_some z3
    have hcell : (W b).cell? ⟨k1.w.heap.size, 0, none⟩ = some (.bool b) := by
      have := hheap b
      simp [World.cell?, this]
    simp [Instr.loadAt, Instr.sureAddr, loadVar, run_isAgg' hag, hcell]
  let a1 : Act := a.put (some c) (.pointer (some ⟨k1.w.heap.size, 0, none⟩))
  have hc1 : a1.eval (.tmp c) = .pointer (some ⟨k1.w.heap.size, 0, none⟩) := by
    show a1.tmps.getD c undef = _
    rw [put_get (by rw [has]; exact hcn), if_pos rfl]
  -- the load, and the end
  have s3 : ∀ b, wpAny C.P .any ops Q 1 #[true, true, true, false] a1 (W b) := fun b => by
    refine ⟨fun hr => (by rw [r3] at hr; cases hr), fun j hj => ?_⟩
    rw [r3] at hj
    obtain rfl : j = 3 := by simpa using hj
    unfold wpOp
    rw [at_ 3]
    simp only [List.getElem?_cons_succ, List.getElem?_cons_zero, wanted_none g3, if_true]
    refine .inl ?_
    unfold Oper.wp
    have hrun : (execOp a1.eval o3).run C.P (W b) = .ok (.value (.bool b)) (W b) := by
      simp only [execOp, p3, hc1]
      exact v_run (hload b)
    rw [hrun]
    show wpAny C.P .any ops Q 0 _ (a1.put o3.dst (.bool b)) (W b)
    rw [d3]
    refine ⟨r4, ?_⟩
    have hh := hI1.hide (.cells #[.bool b] e)
    have ha1 : a1.tmps.size = n := by show (a.tmps.setIfInBounds c _).size = n; simp [has]
    refine hQ b (k1.hide (.cells #[.bool b] e)) _ (hle1.trans hh.2.1) hh.1 ?_ (by rw [put_get (by rw [ha1]; exact htn), if_pos rfl])
    refine ⟨by show ((a1.tmps).setIfInBounds t _).size = n; simp [ha1], fun u => ?_, ?_⟩
    · rcases junkF_at ops.toList φ u with h1 | ⟨h1, h2⟩
      · rw [at_of h1]; exact .junk
      · have hu : (junkF ops.toList φ).at u = φ.at u := by simp only [Fr.at, h1]
        rw [hu, put_get (by rw [ha1]; exact htn)]
        have n1 : u ≠ t := fun e' => h2 o3 (by rw [hl]; simp) (by rw [d3, e'])
        have n2 : u ≠ c := fun e' => h2 o0 (by rw [hl]; simp) (by rw [d0, e'])
        rw [if_neg n1, put_get (by rw [has]; exact hcn), if_neg n2]
        exact (hr.slot u).mono (hle1.trans hh.2.1)
    · rw [junkF_ds]; exact hr.ds.mono (hle1.trans hh.2.1)
  have step : ∀ (o : Oper) (ty : TypeId) (b' b : Bool) (j : Nat) (L L' : Array Bool) (m : Nat), ops[j]? = some o → o.op = .store ty (.tmp c) (.const (.bool b')) → sizeOfT C.P ty = some 1 → o.guard = none → o.dst = none → L.setIfInBounds j true = L' →
      wpAny C.P .any ops Q m L' a1 (W b') → wpOp C.P ops Q j (wpAny C.P .any ops Q m (L.setIfInBounds j true)) a1 (W b) := by
    intro o ty b' b j L L' m h1 h2 h3 h4 h5 h6 h7
    unfold wpOp
    rw [h1]
    simp only [wanted_none h4, if_true]
    refine .inl ?_
    unfold Oper.wp
    have hrun : (execOp a1.eval o).run C.P (W b) = .ok .skip (W b') := by
      simp only [execOp, h2, hc1]
      exact u_run (hstore b b' ty h3)
    rw [hrun, h6]
    show wpAny C.P .any ops Q m L' (a1.put o.dst _) (W b')
    rw [h5]
    exact h7
  refine ⟨fun hr => (by rw [show Array.replicate 4 false = #[false, false, false, false] from rfl, r0] at hr; cases hr), fun j hj => ?_⟩
  rw [show Array.replicate 4 false = #[false, false, false, false] from rfl, r0] at hj
  obtain rfl : j = 0 := by simpa using hj
  unfold wpOp
  rw [at_ 0]
  simp only [List.getElem?_cons_zero, wanted_none g0, if_true]
  refine .inl ?_
  unfold Oper.wp
  have hrun : (execOp a.eval o0).run C.P k1.w = .ok (.value (.pointer (some ⟨k1.w.heap.size, 0, none⟩))) (W us) := by
    simp only [execOp, p0]
    refine v_run ?_
    simp [Instr.alloc, run_zeroValue' q1 q2, newVar, q3, newRow, W]
  rw [hrun]
  show wpAny C.P .any ops Q 3 #[true, false, false, false] (a.put o0.dst _) (W us)
  rw [d0]
  refine ⟨fun hr => (by rw [r1] at hr; cases hr), fun j hj => ?_⟩
  rw [r1] at hj
  simp only [List.mem_cons, List.not_mem_nil, or_false] at hj
  rcases hj with rfl | rfl
  · refine step o1 t1 b1 us 1 _ #[true, true, false, false] 2 (at_ 1) p1 z1 g1 e1 rfl ⟨fun hr => (by rw [r12] at hr; cases hr), fun j hj => ?_⟩
    rw [r12] at hj
    obtain rfl : j = 2 := by simpa using hj
    exact step o2 t2 b2 b1 2 _ #[true, true, true, false] 1 (at_ 2) p2 z2 g2 e2 rfl (s3 b2)
  · refine step o2 t2 b2 us 2 _ #[true, false, true, false] 2 (at_ 2) p2 z2 g2 e2 rfl ⟨fun hr => (by rw [r21] at hr; cases hr), fun j hj => ?_⟩
    rw [r21] at hj
    obtain rfl : j = 1 := by simpa using hj
    exact step o1 t1 b1 b2 1 _ #[true, true, true, false] 1 (at_ 1) p1 z1 g1 e1 rfl (s3 b1)
theorem late_tail3 {ops ops2 : Array Oper} {m : Nat} {p : LateP} (hm : m + 3 = ops.size) (hp : lateQ (ops.toList.drop m) ops2.toList = some p) (hon : ∀ j o e, ops[j]? = some o → e ∈ o.after → Region.binds .any e = true → e.on < j)
    (hb1 : bfr (Region.before ops) m (m + 1) = true) (hb2 : bfr (Region.before ops) m (m + 2) = true) (hb3 : bfr (Region.before ops) (m + 1) (m + 2) = true)
    {φ φ3 : Fr} {σ σ3 : St} {x3 : X} (h : lateTail C n p φ σ = some (x3, φ3, σ3)) {k : K} {a : Act} (hI : Inv w0 σ k) (hr : FrRel k n φ a) {Q Q1 : Exit → Act → World → Prop}
    (hQ1 : ∀ a w, wpList C.P ops2 Q ops2.toList a w → Q1 .normal a w)
    (hQ : ∀ k3 a3, k.le k3 → Inv w0 σ3 k3 → FrRel k3 n φ3 a3 → Q .normal a3 k3.w) {listed : Array Bool} (hs : listed.size = ops.size) (hl1 : ∀ i, i < m → listed.getD i false = true) (hl2 : ∀ i, m ≤ i → listed.getD i false = false) (hD : Down ops listed) :
    wpAny C.P .any ops Q1 3 listed a k.w := by
  -- the operations
  unfold lateQ at hp
  split at hp
  case h_2 => cases hp
  rename_i o0 o3 o4 o1 o2 hl3 hl2'
  unfold lateP at hp
  dsimp only at hp
  split at hp
  case h_2 => cases hp
  rename_i c s z ta t1 ta1 ti tp e tp1 tv ad tb t2 tb1 ta2 g0 g1 g2 g3 g4
  split at hp
  case isFalse => cases hp
  rename_i hcd
  cases hp
  obtain ⟨e1, e2, e3, e4, n1, n2, n4, n5, n7, n8, n9, n10, n11, m1, m2, m3⟩ := hcd
  replace e1 := e1.symm
  replace e2 := e2.symm
  replace e3 := e3.symm
  replace e4 := e4.symm
  subst e1 e2 e3 e4
  obtain ⟨p0, d0, q0, c0, ar0⟩ := lateP1_inv g0
  obtain ⟨p1, d1, q1⟩ := lateP2_inv g1
  obtain ⟨p2, d2, q2⟩ := lateP3_inv g2
  obtain ⟨p3, d3, q3⟩ := lateP4_inv g3
  obtain ⟨p4, d4, q4⟩ := lateP3_inv g4
  have at_ : ∀ j, ops[m + j]? = [o0, o3, o4][j]? := fun j => by
    rw [← hl3, List.getElem?_drop]; simp
  have a0 : ops[m]? = some o0 := at_ 0
  have a3 : ops[m + 1]? = some o3 := at_ 1
  have a4 : ops[m + 2]? = some o4 := at_ 2
  -- the machine's step
  unfold lateTail at h
  simp only at h
  split at h
  case h_2 => cases h
  rename_i s' z' ti' v hS hZ hTi hTv
  split at h
  case h_2 => cases h
  rename_i av addr σ3' hval
  cases h
  have h := hval
  clear hval
  unfold lateVal at h
  dsimp only at h hS hZ hTi hTv ⊢
  split at h
  case h_2 => cases h
  rename_i sz zs ap kd len
  split at h
  case h_2 => cases h
  rename_i t t' hat0 hat1
  split at h
  case h_2 => cases h
  rename_i el el' el1 hu hu' hu1
  split at h
  case isFalse => cases h
  rename_i hcond
  obtain ⟨k1, k2, k3, k4, k5, k6, k7, k8, k9, k10, k11, k12⟩ := hcond
  split at h
  case h_2 => cases h
  rename_i av2 σ2 hap
  split at h
  case h_2 => cases h
  rename_i b' o' hfo
  split at h
  case h_2 => cases h
  rename_i σ3'' hso
  cases h
  obtain ⟨inf, hinf, rfl⟩ := sizeOfT_some k1
  have hsv := hr.slot s
  have hzv := hr.slot z
  have htiv := hr.slot ti
  have htvv := hr.slot tv
  rw [at_of hS] at hsv
  rw [at_of hZ] at hzv
  rw [at_of hTi] at htiv
  rw [at_of hTv] at htvv
  have hti := rel_v_inv htiv
  have hvc := htvv.cells (allOne_ne_junk k7)
  have hvl : (a.tmps.getD tv undef).cells.size = inf.size := by
    have := hvc.1; rw [k6] at this; simpa using this.symm
  obtain ⟨w1, r, hrun, ⟨cc, oo, cap, us, e', lo, hi, k2', r1, r2, r3, r4, r5, r6, r7, r8, r9, r10, _⟩⟩ := append_late (P := C.P) (ty := o0.type) hI hat0 hat1 hu hu' (fun kd h => by cases h) hinf hsv hzv (new := zs) (by simp [appended]) k4 k5 hvc k6 k9 hap
  subst r1
  -- the store of the slice
  obtain ⟨xc, hxb, hfr⟩ := adr_run (o3 := o3) hr hfo p3
  unfold storeOp at hso
  simp only at hso
  split at hso
  case h_2 => cases hso
  rename_i cs eb nb hcb hnb
  split at hso
  case isFalse => cases hso
  rename_i hq
  obtain ⟨z1, z2, z3⟩ := hq
  cases hso
  have hkb : k2'.blk b' = some xc := r8.toLe0.blk b' xc hxb
  have hac := r6.cells (allOne_ne_junk z2)
  obtain ⟨ub, eb2, y1, y2, _, hI3, hle3⟩ := r7.storeRow (o := o') hcb hkb hac (by rw [z1]; exact z3)
  have hgb : σ2.blks.get b' = some (.cells cs eb) := (r7.cellsAt hcb hkb).2.1
  have hne : xc ≠ cc := r10 b' xc _ hgb hxb
  have hub : w1.heap[xc]? = some (.cells ub.toArray eb2 (0, 0)) := by
    rw [← y1, r5]; exact (setRow_other _ _ _ _ hne).symm
  have hnbs : (Value.slice (some ⟨cc, oo, none⟩) (len.toNat + 1) cap).cells.toList.length = nb := by rw [← hac.1, z1]
  generalize husA : (us.take (oo + len.toNat * inf.size) ++ (a.tmps.getD tv undef).cells.toList ++ us.drop (oo + len.toNat * inf.size + (a.tmps.getD tv undef).cells.toList.length)).toArray = usA at r5
  generalize husB : (ub.take o' ++ (Value.slice (some ⟨cc, oo, none⟩) (len.toNat + 1) cap).cells.toList ++ ub.drop (o' + (Value.slice (some ⟨cc, oo, none⟩) (len.toNat + 1) cap).cells.toList.length)).toArray = usB at hI3 hle3
  have hn1' : ta < n := k10
  have hn2' : tp < n := k11
  have hn3' : tb < n := k12
  have has : a.tmps.size = n := hr.size
  -- the acts on the way
  let A1 : Act := a.put (some ta) (.slice (some ⟨cc, oo, none⟩) (len.toNat + 1) cap)
  let A2 : Act := A1.put (some tb) (.pointer (some ⟨xc, o', none⟩))
  let A3 : Act := A2.put (some tp) (.pointer (some ⟨cc, oo + len.toNat * inf.size, none⟩))
  have sz1 : A1.tmps.size = n := by show (a.tmps.setIfInBounds _ _).size = n; simp [has]
  have sz2 : A2.tmps.size = n := by show (A1.tmps.setIfInBounds _ _).size = n; simp [sz1]
  have f1 : ∀ t, A1.tmps.getD t undef = if t = ta then .slice (some ⟨cc, oo, none⟩) (len.toNat + 1) cap else a.tmps.getD t undef := fun t => put_get (by rw [has]; exact hn1')
  have f2 : ∀ t, A2.tmps.getD t undef = if t = tb then .pointer (some ⟨xc, o', none⟩) else A1.tmps.getD t undef := fun t => put_get (by rw [sz1]; exact hn3')
  have f3 : ∀ t, A3.tmps.getD t undef = if t = tp then .pointer (some ⟨cc, oo + len.toNat * inf.size, none⟩) else A2.tmps.getD t undef := fun t => put_get (by rw [sz2]; exact hn2')
  -- one after the other
  have only : ∀ {L : Array Bool} {i : Nat}, L.size = ops.size → Down ops L → (∀ j, j < i → L.getD j false = true) → (∀ j, i ≤ j → L.getD j false = false) → i < ops.size → (∀ j, i < j → j < ops.size → bfr (Region.before ops) i j = true) →
      ∀ j, j ∈ Region.ready .any ops L → j = i := by
    intro L i hs hD h1 h2 hi hb j hj
    obtain ⟨g1, g2⟩ := ready_un hs hj
    have hpred := ready_pred hon hD hj
    rcases Nat.lt_trichotomy j i with h | h | h
    · rw [h1 j h] at g1; cases g1
    · exact h
    · have := hpred i (hb j h g2)
      rw [h2 i (Nat.le_refl _)] at this; cases this
  have some_ : ∀ {L : Array Bool} {i : Nat}, L.size = ops.size → (∀ j, i ≤ j → L.getD j false = false) → i < ops.size → Region.ready .any ops L ≠ [] := fun hs h2 hi hrd => by
    have := none_ready hon hs hrd _ hi
    rw [h2 _ (Nat.le_refl _)] at this; cases this
  have mk1 : ∀ {L : Array Bool} {i : Nat}, L.size = ops.size → i < ops.size → (∀ j, j < i → L.getD j false = true) → (∀ j, i ≤ j → L.getD j false = false) →
      (L.setIfInBounds i true).size = ops.size ∧ (∀ j, j < i + 1 → (L.setIfInBounds i true).getD j false = true) ∧ (∀ j, i + 1 ≤ j → (L.setIfInBounds i true).getD j false = false) := by
    intro L i hs hi h1 h2
    refine ⟨by simpa using hs, fun j hj => ?_, fun j hj => ?_⟩
    · rw [getD_mark (by omega)]; split
      · rfl
      · exact h1 j (by omega)
    · rw [getD_mark (by omega), if_neg (by omega)]; exact h2 j (by omega)
  refine ⟨fun hrd => absurd hrd (some_ hs hl2 (by omega)), fun j hj => ?_⟩
  obtain rfl := only hs hD hl1 hl2 (by omega) (fun t h3 h4 => by
    have : t = m + 1 ∨ t = m + 2 := by omega
    rcases this with rfl | rfl
    · exact hb1
    · exact hb2) j hj
  obtain ⟨hs1, hl11, hl12⟩ := mk1 hs (by omega) hl1 hl2
  have hD1 := down_mark hon hs hD hj
  unfold wpOp
  rw [a0]
  simp only [wanted_none q0, if_true]
  refine .inl ?_
  unfold Oper.wp
  have hrun1 : (execOp a.eval o0).run C.P k.w = .ok (.value (.slice (some ⟨cc, oo, none⟩) (len.toNat + 1) cap)) w1 := by
    rw [exec_builtin p0 c0, args2 ar0]
    exact v_run hrun
  rw [hrun1]
  show wpAny C.P .any ops Q1 2 _ (a.put o0.dst _) w1
  rw [d0]
  -- the address
  refine ⟨fun hrd => absurd hrd (some_ hs1 hl12 (by omega)), fun j' hj' => ?_⟩
  obtain rfl := only hs1 hD1 hl11 hl12 (by omega) (fun t h3 h4 => by
    obtain rfl : t = j + 2 := by omega
    exact hb3) j' hj'
  obtain ⟨hs2, hl21, hl22⟩ := mk1 hs1 (by omega) hl11 hl12
  have hD2 := down_mark hon hs1 hD1 hj'
  unfold wpOp
  rw [a3]
  simp only [wanted_none q3, if_true]
  refine .inl ?_
  unfold Oper.wp
  have hrun2 : (execOp A1.eval o3).run C.P w1 = .ok (.value (.pointer (some ⟨xc, o', none⟩))) w1 :=
    hfr A1 _ (fun t ht => by rw [f1, if_neg (by rintro rfl; exact m1 ht)])
  rw [hrun2]
  show wpAny C.P .any ops Q1 1 _ (A1.put o3.dst _) w1
  rw [d3]
  -- the slice's store
  refine ⟨fun hrd => absurd hrd (some_ hs2 hl22 (by omega)), fun j'' hj'' => ?_⟩
  obtain rfl := only hs2 hD2 hl21 hl22 (by omega) (fun t h3 h4 => by omega) j'' hj''
  obtain ⟨hs3, hl31, _⟩ := mk1 hs2 (by omega) hl21 hl22
  unfold wpOp
  rw [a4]
  simp only [wanted_none q4, if_true]
  refine .inl ?_
  unfold Oper.wp
  have he1 : A2.eval (.tmp tb) = .pointer (some ⟨xc, o', none⟩) := by
    show A2.tmps.getD tb undef = _
    rw [f2, if_pos rfl]
  have he2 : A2.eval (.tmp ta) = .slice (some ⟨cc, oo, none⟩) (len.toNat + 1) cap := by
    show A2.tmps.getD ta undef = _
    rw [f2, if_neg n5, f1, if_pos rfl]
  have hst := run_storeRow (v := .slice (some ⟨cc, oo, none⟩) (len.toNat + 1) cap) _ hub hnb (by simpa using hnbs) (Nat.le_trans z3 y2) (allOne_mem hac z2) (.inl rfl)
  rw [husB] at hst
  have hrun3 : (execOp A2.eval o4).run C.P w1 = .ok .skip (w1.setRow xc usB) := by
    simp only [execOp, p4, he1, he2]
    exact u_run hst
  rw [hrun3]
  show wpAny C.P .any ops Q1 0 _ (A2.put o4.dst _) (w1.setRow xc usB)
  rw [d4]
  refine ⟨List.eq_nil_iff_forall_not_mem.2 (fun i hi => ?_), hQ1 _ _ ?_⟩
  · obtain ⟨g1, g2⟩ := ready_un hs3 hi
    rw [hl31 i (by omega)] at g1; cases g1
  -- the element's place, and its store
  show wpList C.P ops2 Q ops2.toList A2 (w1.setRow xc usB)
  rw [hl2']
  unfold wpList
  simp only [wanted_none q1, if_true]
  refine .inl ?_
  unfold Oper.wp
  have hf1 : A2.eval (.tmp ta) = .slice (some ⟨cc, oo, none⟩) (len.toNat + 1) cap := he2
  have hf2 : A2.eval (.tmp ti) = .int kd len := by
    show A2.tmps.getD ti undef = _
    rw [f2, if_neg (fun e => n9 e.symm), f1, if_neg (fun e => n1 e.symm), hti]
  have hrun4 : (execOp A2.eval o1).run C.P (w1.setRow xc usB) = .ok (.value (.pointer (some ⟨cc, oo + len.toNat * inf.size, none⟩))) (w1.setRow xc usB) := by
    simp only [execOp, p1, hf1, hf2]
    exact v_run (run_indexSlice _ hu1 k2 k8 (by omega))
  rw [hrun4]
  show wpList C.P ops2 Q [o2] (A2.put o1.dst _) (w1.setRow xc usB)
  rw [d1]
  unfold wpList
  simp only [wanted_none q2, if_true]
  refine .inl ?_
  unfold Oper.wp
  have hg1 : A3.eval (.tmp tp) = .pointer (some ⟨cc, oo + len.toNat * inf.size, none⟩) := by
    show A3.tmps.getD tp undef = _
    rw [f3, if_pos rfl]
  have hg2 : A3.eval (.tmp tv) = a.tmps.getD tv undef := by
    show A3.tmps.getD tv undef = _
    rw [f3, if_neg (fun e => n8 e.symm), f2, if_neg (fun e => n10 e.symm), f1, if_neg (fun e => n2 e.symm)]
  have hrow : (w1.setRow xc usB).heap[cc]? = some (.cells us.toArray e' (lo, hi)) := by
    rw [setRow_other _ _ _ _ (fun e => hne e.symm)]; exact r2
  have hst2 := run_storeRow (v := a.tmps.getD tv undef) _ hrow k3 hvl r3 (allOne_mem hvc k7) r4
  rw [husA] at hst2
  have hrun5 : (execOp A3.eval o2).run C.P (w1.setRow xc usB) = .ok .skip ((w1.setRow xc usB).setRow cc usA) := by
    simp only [execOp, p2, hg1, hg2]
    exact u_run hst2
  rw [hrun5]
  show wpList C.P ops2 Q [] (A3.put o2.dst _) ((w1.setRow xc usB).setRow cc usA)
  rw [d2]
  unfold wpList
  have hw : (w1.setRow xc usB).setRow cc usA = (k2'.wd (k2'.w.setRow xc usB)).w := by
    show _ = k2'.w.setRow xc usB
    rw [setRow_swap _ hne, r5]
  rw [hw]
  refine hQ _ A3 (r8.trans hle3) hI3 ⟨by show (A2.tmps.setIfInBounds _ _).size = n; simp [sz2], fun t => ?_, ?_⟩
  · simp only [at_set]
    by_cases ht3 : t = tb
    · subst ht3
      rw [if_pos rfl, f3, if_neg (fun e => n7 e.symm), f2, if_pos rfl]
      exact .ptr (hle3.toLe0.blk _ _ hkb)
    · rw [if_neg ht3]
      by_cases ht2 : t = tp
      · subst ht2; rw [if_pos rfl]; exact .junk
      · rw [if_neg ht2, f3, if_neg ht2, f2, if_neg ht3, f1]
        by_cases ht1 : t = ta
        · subst ht1; rw [if_pos rfl, if_pos rfl]; exact r6.mono hle3
        · rw [if_neg ht1, if_neg ht1]; exact ((hr.slot t).mono r8).mono hle3
  · exact (hr.ds.mono r8).mono hle3
theorem lateTail_keep {p : LateP} {φ φ3 : Fr} {σ σ3 : St} {x3 : X} (h : lateTail C n p φ σ = some (x3, φ3, σ3)) : φ3.ds = φ.ds ∧ ∀ t, t ≠ p.ta → t ≠ p.tp → t ≠ p.tb → φ3.s.get t = φ.s.get t := by
  unfold lateTail at h
  split at h
  case h_2 => cases h
  split at h
  case h_2 => cases h
  cases h
  refine ⟨rfl, fun t h1 h2 h3 => ?_⟩
  simp only [Fr.set, Tr.get_set]
  rw [if_neg h3, if_neg h2, if_neg h1]
theorem lateQ_dst {l1 l2 : List Oper} {p : LateP} (h : lateQ l1 l2 = some p) : (∃ o ∈ l1, o.dst = some p.ta) ∧ (∃ o ∈ l2, o.dst = some p.tp) ∧ ∃ o ∈ l1, o.dst = some p.tb := by
  unfold lateQ at h
  split at h
  case h_2 => cases h
  rename_i o0 o3 o4 o1 o2
  unfold lateP at h
  dsimp only at h
  split at h
  case h_2 => cases h
  rename_i c s z ta t1 ta1 ti tp e tp1 tv ad tb t2 tb1 ta2 g0 g1 g2 g3 g4
  split at h
  case isFalse => cases h
  cases h
  exact ⟨⟨o0, by simp, (lateP1_inv g0).2.1⟩, ⟨o1, by simp, (lateP2_inv g1).2.1⟩, ⟨o3, by simp, (lateP4_inv g3).2.1⟩⟩
/-- the first way -/
theorem lateA_wp (hm : C.P.follows .mixedOrders = true) (hc : CallOk C w0 callF) {o1 o2 : Array Oper} {i1 i2 : Nat} {φ : Fr} {σ σ3 : St} (h : lateA C callF n o1 o2 φ σ = some σ3) {k : K} {a : Act} (hI : Inv w0 σ k) (hg : GlobOk C k) (hr : FrRel k n φ a)
    {Q : Exit → Act → World → Prop} (hQ : ∀ k' a', k.le k' → Inv w0 σ3 k' → FrRel k' n (junkF (o1.toList ++ o2.toList) φ) a' → Q .normal a' k'.w) : (Code.seq (.region i1 o1 true) (.region i2 o2 false)).wp C.P Q a k.w := by
  unfold lateA at h
  split at h
  case h_2 => cases h
  rename_i p hp
  split at h
  case isFalse => cases h
  rename_i hst
  rw [Bool.and_eq_true] at hst
  obtain ⟨hst, hd⟩ := hst
  split at h
  case h_2 => cases h
  rename_i φ1 σ1 hrun
  split at h
  case h_2 => cases h
  rename_i x3 φ3 σ3' hlt
  cases h
  have hm3 : o1.size - 3 + 3 = o1.size := by
    unfold lateQ at hp
    split at hp
    · rename_i hl3 _
      have := congrArg List.length hl3
      simp at this; omega
    · cases hp
  unfold lateSq at hst
  simp only [Bool.and_eq_true] at hst
  obtain ⟨⟨⟨⟨t1, t2⟩, t3⟩, t4⟩, t5⟩ := hst
  rw [List.all_eq_true] at t1 t2
  have lt : ∀ {j : Nat} {o : Oper}, o1[j]? = some o → j < o1.size := fun h => (Array.getElem?_eq_some_iff.1 h).1
  have hon : ∀ j o e, o1[j]? = some o → e ∈ o.after → Region.binds .any e = true → e.on < j := fun j o e ho he hb => by
    have := t1 j (List.mem_range.2 (lt ho))
    rw [ho] at this
    simp only [Bool.and_eq_true, Array.all_eq_true_iff_forall_mem] at this
    have := this.1 e he
    simpa [hb] using this
  have hG : ∀ j o, j < o1.size - 3 → o1[j]? = some o → o.guard = none := fun j o hj ho => by
    have := t1 j (List.mem_range.2 (lt ho))
    rw [ho] at this
    simp only [Bool.and_eq_true, Bool.or_eq_true, decide_eq_true_eq] at this
    rcases this.2 with h | h
    · omega
    · exact Option.isNone_iff_eq_none.1 h
  have hB : ∀ p j, p < o1.size - 3 → o1.size - 3 ≤ j → j < o1.size → bfr (Region.before o1) p j = true := fun p j h1 h2 h3 => by
    have := t2 j (List.mem_range.2 h3)
    simp only [Bool.or_eq_true, decide_eq_true_eq] at this
    rcases this with h | h
    · omega
    · exact (List.all_eq_true.1 h) p (List.mem_range.2 h1)
  obtain ⟨_, kd, kp⟩ := runDr_keep hrun
  obtain ⟨ld, lp⟩ := lateTail_keep hlt
  obtain ⟨⟨oa, ma, da⟩, ⟨op, mp, dp⟩, ⟨ob, mb, db⟩⟩ := lateQ_dst hp
  have keep : ∀ t, (∀ o ∈ o1.toList ++ o2.toList, o.dst ≠ some t) → φ3.s.get t = φ.s.get t := fun t ht => by
    refine (lp t (fun e => ?_) (fun e => ?_) (fun e => ?_)).trans (kp t (fun o ho => ht o (List.mem_append_left _ (List.mem_of_mem_take (by simpa using ho)))))
    · exact ht oa (List.mem_append_left _ (List.mem_of_mem_drop ma)) (by rw [da, e])
    · exact ht op (List.mem_append_right _ mp) (by rw [dp, e])
    · exact ht ob (List.mem_append_left _ (List.mem_of_mem_drop mb)) (by rw [db, e])
  refine wp_seq ?_
  refine wp_region_any hm ?_
  show wpAny C.P .any o1 _ o1.size (Array.replicate o1.size false) a (k.wd k.w.drew).w
  generalize hQ1 : Exit.then (Code.wp C.P (Code.region i2 o2 false) Q) Q = Q1
  have hlen : (o1.toList.take (o1.size - 3)).toArray.size = o1.size - 3 := by simp
  have hpre := dr_any hc (Q := Qn (fun a' w' => Here w0 k n φ1 σ1 a' w') Q1) hd (runDr_dq hrun) hI hg hr (fun e a' w' he => by
    obtain ⟨rfl, he⟩ := he
    exact he)
  rw [hlen] at hpre
  have hfalse : ∀ (l i : Nat), (Array.replicate l false).getD i false = false := fun l i => by
    rw [Array.getD_eq_getD_getElem?, Array.getElem?_replicate]; split <;> rfl
  have key := split_any (P := C.P) (Q := Q1) (m := o1.size - 3) (by omega) hon hB hG (fun listed a' w' hs h1 h2 hD hH => by
    obtain ⟨k1, rfl, hk1, hI1, hr1⟩ := hH
    rw [show o1.size - (o1.size - 3) = 3 by omega]
    exact late_tail3 hm3 hp hon t3 t4 t5 hlt hI1 hr1 (fun a w hw => by subst hQ1; exact wp_region_list hw)
      (fun k3 a3 g1 g2 g3 => hQ k3 a3 (hk1.trans g1) g2 (junk_rel g3 (ld.trans kd) keep)) hs h1 h2 hD)
    (o1.size - 3) (Array.replicate (o1.size - 3) false) (Array.replicate o1.size false) (List.range (o1.size - 3)) a (k.wd k.w.drew).w (by simp) (by simp) (fun i _ => by rw [hfalse, hfalse]) (fun i _ => hfalse _ _) (by simp) List.nodup_range (fun i => by rw [hfalse]; simp [List.mem_range]) (fun p i _ _ hL => by rw [hfalse] at hL; cases hL) hpre
  rw [show o1.size - 3 + (o1.size - (o1.size - 3)) = o1.size by omega] at key
  exact key
theorem coOk (hm : C.P.follows .mixedOrders = true) : CoOk C w0 := by
  intro callF hc n x y q φ σ k a r Q hq hrun hI hg hr hQ
  unfold coinP at hq
  split at hq
  case h_2 => cases hq
  rename_i i0 ops t i1 o1 i2 o2 iB oB
  split at hq
  case h_2 => cases hq
  rename_i e c t' hcoin
  split at hq
  case isFalse => cases hq
  rename_i ht
  obtain ⟨ht, _, _⟩ := ht
  subst ht
  cases hq
  unfold coinRun at hrun
  split at hrun
  case isFalse => cases hrun
  rename_i hdB
  split at hrun
  case h_2 => cases hrun
  rename_i xB φB σB σA hB hA
  split at hrun
  case isFalse => cases hrun
  rename_i heq
  cases hrun
  subst heq
  dsimp only at hdB hB hA hQ
  refine wp_seq ?_
  refine coin_wp hm hcoin hI hr (fun b k1 a1 hle1 hI1 hr1 hb => ?_)
  refine wp_cond (t := b) hb ?_
  cases b with
  | true =>
    rw [if_pos rfl]
    refine lateA_wp hm hc hA hI1 (hg.mono hle1) hr1 (fun k2 a2 g1 g2 g3 => hQ _ _ _ ⟨rfl, k2, rfl, hle1.trans g1, g2, ?_⟩)
    refine ⟨g3.size, fun u => ?_, by rw [junkF_ds]; have := g3.ds; rwa [junkF_ds] at this⟩
    rcases junkF_at (o1.toList ++ o2.toList ++ oB.toList) (junkF ops.toList φ) u with h1 | ⟨h1, h2⟩
    · rw [at_of h1]; exact .junk
    · rcases junkF_at (o1.toList ++ o2.toList) (junkF ops.toList φ) u with h3 | ⟨h3, h4⟩
      · have : (junkF (o1.toList ++ o2.toList ++ oB.toList) (junkF ops.toList φ)).s.get u = some .junk := by
          have e2 : junkF (o1.toList ++ o2.toList ++ oB.toList) (junkF ops.toList φ) = junkF oB.toList (junkF (o1.toList ++ o2.toList) (junkF ops.toList φ)) := by unfold junkF; rw [List.foldl_append]
          rw [e2]
          exact junkF_keep _ _ _ h3
        rw [at_of this]; exact .junk
      · have e1 : (junkF (o1.toList ++ o2.toList ++ oB.toList) (junkF ops.toList φ)).at u = (junkF (o1.toList ++ o2.toList) (junkF ops.toList φ)).at u := by simp only [Fr.at, h1, h3]
        rw [e1]; exact g3.slot u
  | false =>
    rw [if_neg (by simp)]
    refine wp_region_any hm ?_
    obtain ⟨rfl, kd, kp⟩ := runDr_keep hB
    refine dr_any hc hdB (runDr_dq hB) hI1 (hg.mono hle1) hr1 (fun e a' w' he => ?_)
    obtain ⟨rfl, k', rfl, g1, g2, g3⟩ := he
    exact hQ _ _ _ ⟨rfl, k', rfl, hle1.trans g1, g2, junk_rel g3 kd (fun t ht => kp t (fun o ho => ht o (List.mem_append_right _ ho)))⟩
theorem drOk (hm : C.P.follows .mixedOrders = true) : DrOk C w0 := ⟨drOk1 hm, coOk hm⟩
end
end Go.DM
namespace Go.DM
open Go Go.RowKit Go.WideShapes Go.ChangeShapes

/-- the state at the call's beginning -/
def σ0 : St := ⟨.nil, 0, .nil, 0⟩
def startFrz (w : World) (c : Nat) : Option Nat := match w.heap[c]? with
  | some (.cells cs _ _) => some cs.size
  | _ => none
def start (w : World) : K := { base := w.heap.size, w := w, blk := fun _ => none, frz := startFrz w, own := fun _ => none, live := fun _ => false }
theorem start_inv (w : World) : Inv w σ0 (start w) := by
  refine ⟨rfl, Below.refl _ _, fun b x h => ?_, fun b h => rfl, fun b c h => ?_, fun b b' c x x' h => ?_, fun c n h => ?_, fun id e h => ?_, fun id h => rfl, fun id c h => ?_, fun id id' e e' c h => ?_, fun id c h => ?_⟩
  · simp [σ0] at h
  · simp [start] at h
  · simp [σ0] at h
  · simp only [start, startFrz] at h ⊢
    split at h
    · rename_i cs e fr hh; cases h; exact ⟨cs, e, fr, hh, Nat.le_refl _⟩
    · cases h
  · simp [σ0] at h
  · simp [start] at h
  · simp [σ0] at h
  · simp [start] at h

/-- the machine's run is the call's -/
theorem calls_of_run {C : Cfg} (hm : C.P.follows .mixedOrders = true) (hp : C.prim = fun _ => none) {w : World} (hg : GlobOk C (start w)) {f : FuncId} {args : List A} {us : List Value} (hr : RelL (start w) args us) {fuel : Nat} {x : A} {σ' : St}
    (h : call C fuel f args σ0 = some (.ret x, σ')) : Calls C.P f us.toArray w fun e w' => ∃ v k', e = .returned v ∧ Below w.heap.size w w' ∧ Rel k' x v := by
  have hpr : PrimOk C w := fun f g args σ σ' x k us hf => by rw [hp] at hf; cases hf
  refine (call_good (drOk hm) hpr fuel f args σ0 (.ret x) σ' (start w) us h (start_inv w) hg hr).mono (fun e w' he => ?_)
  obtain ⟨k', v, h1, h2, h3, h4, h5⟩ := he
  subst h2
  exact ⟨v, k', h1, h4.below, h5⟩

def isTrue (r : Option (Out × St)) : Bool := match r with
  | some (.ret (.v (.bool true)), _) => true
  | _ => false
/-- a call that comes to true -/
theorem calls_true {C : Cfg} (hm : C.P.follows .mixedOrders = true) (hp : C.prim = fun _ => none) {w : World} (hg : GlobOk C (start w)) {f : FuncId} {args : List A} {us : List Value} (hr : RelL (start w) args us) {fuel : Nat}
    (h : isTrue (call C fuel f args σ0) = true) : Calls C.P f us.toArray w fun e w' => e = .returned (.bool true) ∧ Below w.heap.size w w' := by
  unfold isTrue at h
  split at h
  · rename_i σ' hc
    refine (calls_of_run hm hp hg hr hc).mono (fun e w' ⟨v, k', h1, h2, h3⟩ => ?_)
    have := rel_v_inv h3
    subst this
    exact ⟨h1, h2⟩
  · cases h
theorem glob_none {P : Program} {prim : FuncId → Option (List A → St → Option (A × St))} {k : K} : GlobOk { P := P, glob := fun _ => none, prim := prim } k := fun g a h => by cases h

mutual
/-- a datum's cells (structs, arrays, scalars) -/
def flatD : DataW Unit → List Value
  | .lit l => [l.value]
  | .agg ds => flatDs ds
  | _ => []
def flatDs : List (DataW Unit) → List Value
  | [] => []
  | d :: r => flatD d ++ flatDs r
end
def withCells (vs : Array Value) : Obj → Obj
  | .cells _ t fr => .cells vs t fr
  | o => o
/-- a world that holds the listed variables (tp, te: the types of an error variable's pointer and of what lies behind it) -/
def layWorld (P : Program) (tp te : TypeId) (w : World) : List (String × DataW Unit) → World
  | [] => w
  | (n, d) :: r => match P.globalNamed n with
    | some g => match d with
      | .iface _ (.ptr x) => layWorld P tp te { w with heap := (w.heap.modify g (withCells #[.iface tp (.pointer (some ⟨w.heap.size, 0, none⟩))])).push (.cells (flatD x).toArray te (0, 0)) } r
      | d => layWorld P tp te { w with heap := w.heap.modify g (withCells (flatD d).toArray) } r
    | none => layWorld P tp te w r
theorem layWorld_os (P : Program) (tp te : TypeId) : ∀ (l : List (String × DataW Unit)) (w : World), (layWorld P tp te w l).os = w.os
  | [], _ => rfl
  | (n, d) :: r, w => by
    unfold layWorld
    split
    · split
      · rw [layWorld_os P tp te r]
      · rw [layWorld_os P tp te r]
    · rw [layWorld_os P tp te r]

section
variable {H : Type} {enc : TypeId × Value → H} {P : Program}
theorem post_of_below {f : Func} {s : ChangeSpec} {apart fresh handsOn again : Bool} {W W' : World} {args : Array Value} {v : Value} {ds gs : List (DataW H)} {before pa pv : List MemPlace}
    (hW : DataW.Whole enc P f.params.toList s.vars apart W args.toList ds gs before)
    (hres : ∀ (b : Nat) (sp : Nat → Bool) (hd : Bool), DataW.TrodAll enc P W' b sp hd f.resultTypes.toList (v.resultList f.resultTypes.size) (s.fn H (ds ++ gs)).results [])
    (hargs : ∀ sp : Nat → Bool, (∀ p ∈ before, sp p.block = true) → DataW.TrodAll enc P W' 0 sp true f.params.toList args.toList (s.fn H (ds ++ gs)).args pa)
    (hvars : ∀ sp : Nat → Bool, (∀ p ∈ before, sp p.block = true) → DataW.TrodVars enc P W' sp s.vars (s.fn H (ds ++ gs)).vars pv)
    (hps : before = pa ++ pv) (hb : Below W.heap.size W W')
    (hok : ∀ (j : Nat) (t : TypeId) (r : Value), f.resultTypes[j]? = some t → (v.resultList f.resultTypes.size)[j]? = some r → Value.okWide P W' .any 0 t r) :
    s.post enc P f apart fresh handsOn again W args v W' := by
  have hlt : ∀ p ∈ before, p.block < W.heap.size := fun p hp => hW.lt p hp
  have hold : ∀ p ∈ before, (fun b => decide (b < W.heap.size)) p.block = true := fun p hp => by simpa using hlt p hp
  refine ⟨ds, gs, before, [], pa, pv, hW, hres _ _ _, hargs _ hold, hvars _ hold, World.keptBut_mono (fun p hp => ⟨hp, ?_⟩) (hb.frame (· ∈ before)), fun _ => ?_⟩
  · rw [hps, List.mem_append] at hp
    exact Or.inr hp
  · obtain ⟨_, _, _, _, _, hz, hn⟩ := hW
    refine ⟨hok, _, _, ([] ++ pa) ++ pv, ⟨[] ++ pa, pv, trodAll_append (hargs _ (fun _ _ => rfl)) (hres _ _ _), hvars _ (fun _ _ => rfl), rfl, ?_, ?_⟩, ?_⟩
    · intro b off hp
      have hin : MemPlace.cell b off ∈ before := by rw [hps]; simpa using hp
      rw [hb.frozen (hlt _ hin)]
      exact hz b off hin
    · intro ha
      have := hn ha
      rw [hps] at this
      simpa using this
    · intro p hp _
      rw [hps]
      simpa using hp
end
end Go.DM
namespace Go.DM
open Go Go.RowKit

def tabA (k : IntKind) (zs : List Int) : List A := zs.map fun z => .v (.int k z)
def globOf : List (Nat × IntKind × List Int) → Nat → Option A
  | [], _ => none
  | (g, k, zs) :: r, x => if x = g then some (.sp (tabA k zs) 0 .no) else globOf r x

theorem tab_rel {P : Program} {W : World} {name : String} {k : IntKind} {zs : List Int} {g : Nat} (h : Lib.TabIs P W name k zs) (hg : P.globalNamed name = some g) :
    Rel (start W) (.sp (tabA k zs) 0 .no) (.pointer (some ⟨g, 0, none⟩)) := by
  have hcell : ∀ i, i < zs.length → W.cell? ⟨g, i, none⟩ = some (.int k (zs.getD i 0)) := fun i hi => h.cell hg i hi
  unfold Lib.TabIs World.var? at h
  rw [hg] at h
  simp only [Option.bind_some] at h
  split at h
  · rename_i cs e fr hh
    have hcs : cs = (zs.map fun z => Value.int k z).toArray := Option.some.inj h
    have hf : (start W).frz g = some cs.size := by simp [start, startFrz, hh]
    have hlen : (tabA k zs).length = zs.length := by simp [tabA]
    have := Rel.sp (k := start W) (cs := tabA k zs) (o := 0) (c := g) (i := 0) (n := cs.size) (ap := .no) (fun j => .int k (zs.getD j 0)) hf (by rw [hcs]; simp [tabA]) (fun j a ha => by
      have hj := lt_of_get ha
      rw [Nat.zero_add]
      exact hcell j (by omega)) (fun j a ha => by
      have hj := lt_of_get ha
      have hj' : j < zs.length := by omega
      simp only [tabA, List.getElem?_map, List.getElem?_eq_getElem hj', Option.map_some, Option.some.injEq] at ha
      subst ha
      simp only [List.getD_eq_getElem?_getD, List.getElem?_eq_getElem hj', Option.getD_some]
      exact .v rfl) trivial
    simpa using this
  · cases h

theorem globOf_ok {C : Cfg} {W : World} : ∀ (l : List (Nat × IntKind × List Int)), (∀ x ∈ l, Rel (start W) (.sp (tabA x.2.1 x.2.2) 0 .no) (.pointer (some ⟨x.1, 0, none⟩))) → ∀ g a, globOf l g = some a → Rel (start W) a (.pointer (some ⟨g, 0, none⟩))
  | [], _, g, a, h => by simp [globOf] at h
  | (g', k, zs) :: r, hl, g, a, h => by
    simp only [globOf] at h
    split at h
    · rename_i hg
      cases h
      subst hg
      exact hl (g, k, zs) (List.mem_cons_self ..)
    · exact globOf_ok (C := C) r (fun x hx => hl x (List.mem_cons_of_mem _ hx)) g a h
end Go.DM
