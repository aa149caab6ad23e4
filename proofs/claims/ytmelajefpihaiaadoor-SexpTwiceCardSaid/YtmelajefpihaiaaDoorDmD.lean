/- This text proves the D-machine's runs sound against the model's calls. Condition: the program follows the open orders. -/
import Derived.Test.YtmelajefpihaiaaDoorDmC
import Derived.Recover
import Derived.Tactics
import Derived.LoopN
import Derived.Orders
import Derived.Below
import Derived.ChangeSame
import Derived.Lib.LaidTab
import Derived.Stop.LaidErr
namespace Go.DM
open Go Go.RowKit

def GlobOk (C : Cfg) (k : K) : Prop := ∀ g a, C.glob g = some a → Rel k a (.pointer (some ⟨g, 0, none⟩))
theorem GlobOk.mono {C : Cfg} {k k' : K} (h : k.le k') (hg : GlobOk C k) : GlobOk C k' := fun g a e => (hg g a e).mono h

/-- the deferred calls -/
def DsRel (k : K) (xs : List (FuncId × List A)) (ds : List Deferred) : Prop := xs.length = ds.length ∧ ∀ (j : Nat) (x : FuncId × List A) (d : Deferred), xs[j]? = some x → ds[j]? = some d → DefRel k x d
theorem DsRel.mono {k k' : K} (h : k.le k') {xs : List (FuncId × List A)} {ds : List Deferred} (hr : DsRel k xs ds) : DsRel k' xs ds := ⟨hr.1, fun j x d a b => (hr.2 j x d a b).mono h⟩
theorem DsRel.cons {k : K} {x : FuncId × List A} {d : Deferred} {xs : List (FuncId × List A)} {ds : List Deferred} (h : DefRel k x d) (hr : DsRel k xs ds) : DsRel k (x :: xs) (d :: ds) :=
  ⟨by simp [hr.1], fun j y e hy he => by
    cases j with
    | zero => simp at hy he; subst hy; subst he; exact h
    | succ j => exact hr.2 j y e (by simpa using hy) (by simpa using he)⟩
theorem DsRel.inv_cons {k : K} {x : FuncId × List A} {xs : List (FuncId × List A)} {ds : List Deferred} (hr : DsRel k (x :: xs) ds) : ∃ d ds', ds = d :: ds' ∧ DefRel k x d ∧ DsRel k xs ds' := by
  match ds, hr with
  | d :: ds', hr => exact ⟨d, ds', rfl, hr.2 0 x d rfl rfl, by simpa using hr.1, fun j y e hy he => hr.2 (j + 1) y e (by simpa using hy) (by simpa using he)⟩
theorem DsRel.inv_nil {k : K} {ds : List Deferred} (hr : DsRel k [] ds) : ds = [] := List.eq_nil_of_length_eq_zero (by simpa using hr.1.symm)

/-- a frame stands for an act -/
structure FrRel (k : K) (n : Nat) (φ : Fr) (a : Act) : Prop where
  size : a.tmps.size = n
  slot : ∀ t, Rel k (φ.at t) (a.tmps.getD t undef)
  ds : DsRel k φ.ds a.defers

theorem FrRel.mono {k k' : K} (h : k.le k') {n : Nat} {φ : Fr} {a : Act} (hr : FrRel k n φ a) : FrRel k' n φ a :=
  ⟨hr.size, fun t => (hr.slot t).mono h, hr.ds.mono h⟩

theorem at_set (φ : Fr) (t u : Nat) (x : A) : (φ.set t x).at u = if u = t then x else φ.at u := by
  simp only [Fr.set, Fr.at, Tr.get_set]
  split <;> rfl
theorem ds_set (φ : Fr) (t : Nat) (x : A) : (φ.set t x).ds = φ.ds := rfl

theorem getD_set (us : Array Value) (t u : Nat) (v : Value) (h : t < us.size) : (us.setIfInBounds t v).getD u undef = if u = t then v else us.getD u undef := by
  simp only [Array.getD_eq_getD_getElem?, Array.getElem?_setIfInBounds]
  by_cases hu : t = u
  · subst hu; simp [h]
  · have : ¬ u = t := fun e => hu e.symm
    simp [hu, this]

theorem FrRel.put {k : K} {n : Nat} {φ φ' : Fr} {a : Act} (hr : FrRel k n φ a) {d : Option Tmp} {x : A} {v : Value} (hx : Rel k x v) (h : putA n φ d x = some φ') : FrRel k n φ' (a.put d v) := by
  unfold putA at h
  split at h
  · cases h; exact hr
  · rename_i t
    split at h
    · rename_i ht
      cases h
      refine ⟨by simp [Act.put, hr.size], fun u => ?_, hr.ds⟩
      rw [at_set]
      simp only [Act.put]
      rw [getD_set _ _ _ _ (by rw [hr.size]; exact ht)]
      split
      · exact hx
      · exact hr.slot u
    · cases h
theorem put_defers (a : Act) (d : Option Tmp) (v : Value) : (a.put d v).defers = a.defers := by
  unfold Act.put; split <;> rfl

theorem at_of {φ : Fr} {t : Nat} {x : A} (h : φ.s.get t = some x) : φ.at t = x := by simp [Fr.at, h]
theorem ev_good {C : Cfg} {k : K} {n : Nat} {φ : Fr} {a : Act} (hg : GlobOk C k) (hr : FrRel k n φ a) : ∀ x y, ev C φ x = some y → Rel k y (a.eval x) := by
  intro x y h
  unfold ev at h
  split at h
  · rename_i t; rw [← at_of h]; exact hr.slot t
  · exact ofVal_rel h
  · exact hg _ _ h
  · cases h
    exact .fn (us := []) (vs := []) rfl rfl (fun j a u h => by simp at h) (fun j a u h => by simp at h)

theorem wanted_good {k : K} {n : Nat} {φ : Fr} {a : Act} (hr : FrRel k n φ a) {ops : Array Oper} {o : Oper} {b : Bool} (h : wantedA ops φ o = some b) : Region.wanted o (yielded ops a.tmps) = b := by
  unfold wantedA at h
  unfold Region.wanted
  split at h
  · rename_i hg; cases h; rw [hg]
  · rename_i j want hg
    rw [hg]
    split at h
    · rename_i y hy
      cases h
      suffices yielded ops a.tmps j = y by simp only [this]
      unfold yieldedA at hy
      unfold yielded
      split at hy
      · rename_i d hd
        rw [hd]
        simp only [Option.bind_some]
        have hs := hr.slot d
        rw [Array.getD_eq_getD_getElem?] at hs
        split at hy
        · rename_i c hc
          cases hy
          rw [at_of hc] at hs
          have := rel_v_inv hs
          cases ht : a.tmps[d]? with
          | none => rw [ht] at this; simp [undef] at this
          | some v => rw [ht] at this; simp at this; subst this; rfl
        · cases hy
        · rename_i q hnb hnj hq
          cases hy
          rw [at_of hq] at hs
          cases ht : a.tmps[d]? with
          | none => rfl
          | some v =>
            rw [ht] at hs
            simp only [Option.getD_some] at hs
            cases v with
            | bool c =>
              exfalso
              cases hs with
              | v _ => exact hnb _ rfl
              | junk => exact hnj rfl
            | _ => rfl
        · cases hy
      · rename_i hd
        cases hy
        rw [hd]; rfl
    · cases h

/-- what a call comes to -/
def OutPost (w0 : World) (k : K) (out : Out) (σ : St) (e : Ending) (w : World) : Prop :=
  match out with
  | .ret x => ∃ k' v, e = .returned v ∧ k'.w = w ∧ k.le k' ∧ Inv w0 σ k' ∧ Rel k' x v
  | .pan x => ∃ k' v, e = .panicked [{ v, recovered := false }] ∧ k'.w = w ∧ k.le k' ∧ Inv w0 σ k' ∧ Rel k' x v
def CallOk (C : Cfg) (w0 : World) (callF : CallF) : Prop := ∀ (f : FuncId) (args : List A) (σ : St) (out : Out) (σ' : St) (k : K) (us : List Value), callF f args σ = some (out, σ') → Inv w0 σ k → GlobOk C k → RelL k args us →
  Calls C.P f us.toArray k.w (OutPost w0 k out σ')

/-- what code comes to -/
def Here (w0 : World) (k : K) (n : Nat) (φ : Fr) (σ : St) (a : Act) (w : World) : Prop := ∃ k', k'.w = w ∧ k.le k' ∧ Inv w0 σ k' ∧ FrRel k' n φ a
def Ends (w0 : World) (k : K) (n : Nat) (r : X × Fr × St) (e : Exit) (a : Act) (w : World) : Prop :=
  match r with
  | (.normal, φ, σ) => e = .normal ∧ Here w0 k n φ σ a w
  | (.exit id, φ, σ) => e = .exit id ∧ Here w0 k n φ σ a w
  | (.ret, φ, σ) => e = .ret ∧ Here w0 k n φ σ a w
  | (.pan x, φ, σ) => ∃ v k', e = .panic [{ v, recovered := false }] ∧ k'.w = w ∧ k.le k' ∧ Inv w0 σ k' ∧ FrRel k' n φ a ∧ Rel k' x v

theorem Ends.mono {w0 : World} {k k' : K} (h : k.le k') {n : Nat} {r : X × Fr × St} {e : Exit} {a : Act} {w : World} (hr : Ends w0 k' n r e a w) : Ends w0 k n r e a w := by
  obtain ⟨x, φ, σ⟩ := r
  cases x with
  | pan x => obtain ⟨v, k2, h1, h2, h3, h4⟩ := hr; exact ⟨v, k2, h1, h2, h.trans h3, h4⟩
  | _ => obtain ⟨h1, k2, h2, h3, h4⟩ := hr; exact ⟨h1, k2, h2, h.trans h3, h4⟩

section
variable {C : Cfg} {w0 : World} {callF : CallF} {n : Nat}

/-- one operation -/
theorem oper_good (hc : CallOk C w0 callF) {σ : St} {k : K} {φ : Fr} {a : Act} (hI : Inv w0 σ k) (hg : GlobOk C k) (hr : FrRel k n φ a) {o : Oper} {r : R} (h : op C (ev C φ) o σ = some r) {K' : Act → World → Prop} {Q : Exit → Act → World → Prop}
    (hK : match r with
      | .val x σ' => ∃ φ', putA n φ o.dst x = some φ' ∧ ∀ k' a', k.le k' → Inv w0 σ' k' → FrRel k' n φ' a' → K' a' k'.w
      | .skip σ' => ∃ φ', putA n φ o.dst und = some φ' ∧ ∀ k' a', k.le k' → Inv w0 σ' k' → FrRel k' n φ' a' → K' a' k'.w
      | .call f args σ' => ∃ out σ'', callF f args σ' = some (out, σ'') ∧ match out with
        | .ret x => ∃ φ', putA n φ o.dst x = some φ' ∧ ∀ k' a', k.le k' → Inv w0 σ'' k' → FrRel k' n φ' a' → K' a' k'.w
        | .pan x => ∀ k' v, k.le k' → Inv w0 σ'' k' → FrRel k' n φ a → Rel k' x v → Q (.panic [{ v, recovered := false }]) a k'.w
      | .dfr f args σ' => ∃ φ', putA n { φ with ds := (f, args) :: φ.ds } o.dst und = some φ' ∧ ∀ k' a', k.le k' → Inv w0 σ' k' → FrRel k' n φ' a' → K' a' k'.w
      | .pan x σ' => ∀ k' v, k.le k' → Inv w0 σ' k' → FrRel k' n φ a → Rel k' x v → Q (.panic [{ v, recovered := false }]) a k'.w
      | .rcv _ => False) : o.wp C.P a k.w K' Q := by
  have hG := op_good (ρ' := a.eval) hI (ev_good hg hr) h
  unfold Oper.wp
  cases r with
  | val x σ' =>
    obtain ⟨k', v, h1, h2, h3, h4⟩ := hG
    obtain ⟨φ', h5, h6⟩ := hK
    rw [h1]
    exact h6 k' _ h4 h3 ((hr.mono h4).put h2 h5)
  | skip σ' =>
    obtain ⟨k', h1, h3, h4⟩ := hG
    obtain ⟨φ', h5, h6⟩ := hK
    rw [h1]
    exact h6 k' _ h4 h3 ((hr.mono h4).put rel_und h5)
  | call f args σ' =>
    obtain ⟨k', us, h1, h2, h3, h4⟩ := hG
    obtain ⟨out, σ'', h5, h6⟩ := hK
    rw [h1]
    have hcall := hc f args σ' out σ'' k' us.toList h5 h3 (hg.mono h4) h2
    show Calls C.P f us k'.w _
    refine Calls.mono (by simpa using hcall) (fun e w' he => ?_)
    cases out with
    | ret x =>
      obtain ⟨k2, v, rfl, rfl, g1, g2, g3⟩ := he
      obtain ⟨φ', q1, q2⟩ := h6
      exact q2 k2 _ (h4.trans g1) g2 ((hr.mono (h4.trans g1)).put g3 q1)
    | pan x =>
      obtain ⟨k2, v, rfl, rfl, g1, g2, g3⟩ := he
      exact h6 k2 v (h4.trans g1) g2 (hr.mono (h4.trans g1)) g3
  | dfr f args σ' =>
    obtain ⟨k', d, h1, h2, h3, h4⟩ := hG
    obtain ⟨φ', h5, h6⟩ := hK
    rw [h1]
    have hr' : FrRel k' n { φ with ds := (f, args) :: φ.ds } { a with defers := d :: a.defers } :=
      ⟨hr.size, (hr.mono h4).slot, DsRel.cons h2 (hr.mono h4).ds⟩
    exact h6 k' _ h4 h3 (hr'.put rel_und h5)
  | pan x σ' =>
    obtain ⟨k', v, h1, h2, h3, h4⟩ := hG
    rw [h1]
    exact hK k' v h4 h3 (hr.mono h4) h2
  | rcv σ' => exact hK.elim

theorem runOps_good (hc : CallOk C w0 callF) (ops : Array Oper) : ∀ (l : List Oper) (φ : Fr) (σ : St) (k : K) (a : Act) (r : X × Fr × St), runOps C callF n ops l φ σ = some r → Inv w0 σ k → GlobOk C k → FrRel k n φ a →
    ∀ (Q : Exit → Act → World → Prop), (∀ e a' w', Ends w0 k n r e a' w' → Q e a' w') → wpList C.P ops Q l a k.w
  | [], φ, σ, k, a, r, h, hI, hg, hr, Q, hQ => by
    simp only [runOps] at h; cases h
    exact hQ _ _ _ ⟨rfl, k, rfl, K.le.refl k, hI, hr⟩
  | o :: l, φ, σ, k, a, r, h, hI, hg, hr, Q, hQ => by
    simp only [runOps] at h
    have next : ∀ (φ' : Fr) (σ' : St), runOps C callF n ops l φ' σ' = some r → ∀ k' a', k.le k' → Inv w0 σ' k' → FrRel k' n φ' a' → wpList C.P ops Q l a' k'.w :=
      fun φ' σ' h' k' a' h1 h2 h3 => runOps_good hc ops l φ' σ' k' a' r h' h2 (hg.mono h1) h3 Q (fun e a' w' he => hQ e a' w' (he.mono h1))
    unfold wpList
    split at h
    · rename_i hw
      rw [wanted_good hr hw]
      refine Or.inl ?_
      split at h
      · rename_i x σ' ho
        split at h
        case h_2 => cases h
        rename_i φ' hp
        exact oper_good hc hI hg hr ho ⟨φ', hp, next φ' σ' h⟩
      · rename_i σ' ho
        split at h
        case h_2 => cases h
        rename_i φ' hp
        exact oper_good hc hI hg hr ho ⟨φ', hp, next φ' σ' h⟩
      · rename_i f args σ' ho
        split at h
        · rename_i x σ'' hcf
          split at h
          case h_2 => cases h
          rename_i φ' hp
          exact oper_good hc hI hg hr ho ⟨.ret x, σ'', hcf, φ', hp, next φ' σ'' h⟩
        · rename_i x σ'' hcf
          cases h
          exact oper_good hc hI hg hr ho ⟨.pan x, σ'', hcf, fun k' v h1 h2 h3 h4 => hQ _ _ _ ⟨v, k', rfl, rfl, h1, h2, h3, h4⟩⟩
        · cases h
      · rename_i f args σ' ho
        split at h
        case h_2 => cases h
        rename_i φ' hp
        exact oper_good hc hI hg hr ho ⟨φ', hp, next φ' σ' h⟩
      · rename_i x σ' ho
        cases h
        exact oper_good hc hI hg hr ho (fun k' v h1 h2 h3 h4 => hQ _ _ _ ⟨v, k', rfl, rfl, h1, h2, h3, h4⟩)
      · cases h
    · rename_i hw
      rw [wanted_good hr hw]
      split at h
      case h_2 => cases h
      rename_i φ' hp
      exact next φ' σ h k _ (K.le.refl k) hI (hr.put rel_und hp)
    · cases h
end
end Go.DM
namespace Go.DM
open Go Go.RowKit

/-- the regions whose order is open -/
def DrOk (C : Cfg) (w0 : World) : Prop := ∀ (callF : CallF), CallOk C w0 callF → ∀ (n : Nat) (ops : Array Oper) (φ : Fr) (σ : St) (k : K) (a : Act) (r : X × Fr × St) (id : Nat) (Q : Exit → Act → World → Prop),
  drawOk ops (Region.before ops) = true → runDr C callF n ops (Region.before ops) ops.toList 0 φ σ [] [] = some r → Inv w0 σ k → GlobOk C k → FrRel k n φ a →
  (∀ e a' w', Ends w0 k n r e a' w' → Q e a' w') → (Code.region id ops true).wp C.P Q a k.w

section
variable {C : Cfg} {w0 : World} {callF : CallF} {n : Nat}

theorem exec_good (hd : DrOk C w0) (hc : CallOk C w0 callF) : ∀ (fuel : Nat),
    (∀ (c : Code) (φ : Fr) (σ : St) (k : K) (a : Act) (r : X × Fr × St), exec C callF n fuel c φ σ = some r → Inv w0 σ k → GlobOk C k → FrRel k n φ a →
      ∀ (Q : Exit → Act → World → Prop), (∀ e a' w', Ends w0 k n r e a' w' → Q e a' w') → c.wp C.P Q a k.w) ∧
    (∀ (c : Code) (φ : Fr) (σ : St) (k : K) (a : Act) (r : X × Fr × St), exec C callF n fuel (.loop c) φ σ = some r → Inv w0 σ k → GlobOk C k → FrRel k n φ a →
      ∀ (Q : Exit → Act → World → Prop), (∀ e a' w', Ends w0 k n r e a' w' → Q e a' w') → Code.rounds C.P c Q fuel a k.w)
  | 0 => ⟨fun c φ σ k a r h => by simp [exec] at h, fun c φ σ k a r h => by simp [exec] at h⟩
  | f + 1 => by
    obtain ⟨ih, ihl⟩ := exec_good hd hc f
    have loop : ∀ (c : Code) (φ : Fr) (σ : St) (k : K) (a : Act) (r : X × Fr × St), exec C callF n (f + 1) (.loop c) φ σ = some r → Inv w0 σ k → GlobOk C k → FrRel k n φ a →
      ∀ (Q : Exit → Act → World → Prop), (∀ e a' w', Ends w0 k n r e a' w' → Q e a' w') → Code.rounds C.P c Q (f + 1) a k.w := by
      intro c φ σ k a r h hI hg hr Q hQ
      simp only [exec] at h
      rw [rounds_succ]
      split at h
      · rename_i φ' σ' h1
        refine ih c φ σ k a _ h1 hI hg hr _ (fun e a' w' he => ?_)
        obtain ⟨rfl, k', rfl, g1, g2, g3⟩ := he
        exact ihl c φ' σ' k' a' r h g2 (hg.mono g1) g3 Q (fun e a' w' he => hQ e a' w' (he.mono g1))
      · rename_i hne
        refine ih c φ σ k a _ h hI hg hr _ (fun e a' w' he => ?_)
        have hq := hQ e a' w' he
        cases e with
        | normal =>
          exfalso
          obtain ⟨x, φ', σ'⟩ := r
          cases x with
          | normal => exact hne _ _ h
          | exit id => exact absurd he.1 (by simp)
          | ret => exact absurd he.1 (by simp)
          | pan x => obtain ⟨v, k', h1, _⟩ := he; exact absurd h1 (by simp)
        | _ => exact hq
    refine ⟨fun c φ σ k a r h hI hg hr Q hQ => ?_, loop⟩
    cases c with
    | skip =>
      simp only [exec] at h; cases h
      exact wp_skip (hQ _ _ _ ⟨rfl, k, rfl, K.le.refl k, hI, hr⟩)
    | region id ops draw =>
      cases draw with
      | false =>
        simp only [exec] at h
        exact wp_region_list (runOps_good hc ops ops.toList φ σ k a r h hI hg hr Q hQ)
      | true =>
        simp only [exec] at h
        split at h
        · rename_i hdr
          exact hd callF hc n ops φ σ k a r id Q hdr h hI hg hr hQ
        · cases h
    | seq x y =>
      simp only [exec] at h
      refine wp_seq ?_
      split at h
      · rename_i φ' σ' h1
        refine ih x φ σ k a _ h1 hI hg hr _ (fun e a' w' he => ?_)
        obtain ⟨rfl, k', rfl, g1, g2, g3⟩ := he
        exact ih y φ' σ' k' a' r h g2 (hg.mono g1) g3 Q (fun e a' w' he => hQ e a' w' (he.mono g1))
      · rename_i hne
        refine ih x φ σ k a _ h hI hg hr _ (fun e a' w' he => ?_)
        have hq := hQ e a' w' he
        cases e with
        | normal =>
          exfalso
          obtain ⟨x, φ', σ'⟩ := r
          cases x with
          | normal => exact hne _ _ h
          | exit id => exact absurd he.1 (by simp)
          | ret => exact absurd he.1 (by simp)
          | pan x => obtain ⟨v, k', h1, _⟩ := he; exact absurd h1 (by simp)
        | _ => exact hq
    | cond x p q =>
      simp only [exec] at h
      split at h
      · rename_i t hx
        have := rel_v_inv (ev_good hg hr x _ hx)
        refine wp_cond (t := t) this ?_
        exact ih _ φ σ k a r h hI hg hr Q hQ
      · cases h
    | block id c =>
      simp only [exec] at h
      refine wp_block ?_
      split at h
      · rename_i j φ' σ' h1
        refine ih c φ σ k a _ h1 hI hg hr _ (fun e a' w' he => ?_)
        obtain ⟨rfl, he⟩ := he
        split at h
        · rename_i hj
          cases h
          simp only [Exit.inBlock, if_pos hj]
          exact hQ _ _ _ ⟨rfl, he⟩
        · rename_i hj
          cases h
          simp only [Exit.inBlock, if_neg hj]
          exact hQ _ _ _ ⟨rfl, he⟩
      · rename_i hne
        refine ih c φ σ k a _ h hI hg hr _ (fun e a' w' he => ?_)
        have hq := hQ e a' w' he
        cases e with
        | exit id =>
          exfalso
          obtain ⟨x, φ', σ'⟩ := r
          cases x with
          | normal => exact absurd he.1 (by simp)
          | exit id => exact hne _ _ _ h
          | ret => exact absurd he.1 (by simp)
          | pan x => obtain ⟨v, k', h1, _⟩ := he; exact absurd h1 (by simp)
        | _ => exact hq
    | loop c => exact wp_loop_rounds (f + 1) (loop c φ σ k a r h hI hg hr Q hQ)
    | exit id =>
      simp only [exec] at h; cases h
      exact wp_exit (hQ _ _ _ ⟨rfl, k, rfl, K.le.refl k, hI, hr⟩)
    | ret =>
      simp only [exec] at h; cases h
      exact wp_ret (hQ _ _ _ ⟨rfl, k, rfl, K.le.refl k, hI, hr⟩)
    | _ => simp only [exec] at h; cases h

/-- the panic that stands -/
def PRel (k : K) (p : Option A) (u : FrameMode) : Prop := match p with
  | some x => ∃ v, u = .panicking [{ v, recovered := false }] ∧ Rel k x v
  | none => u = .returning ∨ ∃ v, u = .panicking [{ v, recovered := true }]
theorem PRel.mono {k k' : K} (h : k.le k') {p : Option A} {u : FrameMode} (hp : PRel k p u) : PRel k' p u := by
  cases p with
  | some x => obtain ⟨v, h1, h2⟩ := hp; exact ⟨v, h1, h2.mono h⟩
  | none => exact hp
/-- settled -/
def PSet (k : K) (p : Option A) (u : FrameMode) : Prop := match p with
  | some x => ∃ v, u = .panicking [{ v, recovered := false }] ∧ Rel k x v
  | none => u = .returning
theorem PSet.rel {k : K} {p : Option A} {u : FrameMode} (hp : PSet k p u) : PRel k p u := by
  cases p with
  | some x => exact hp
  | none => exact .inl hp
theorem PRel.settle {k : K} {p : Option A} {u : FrameMode} (hp : PRel k p u) : PSet k p (settle u) := by
  cases p with
  | some x => obtain ⟨v, rfl, h2⟩ := hp; exact ⟨v, rfl, h2⟩
  | none =>
    rcases hp with rfl | ⟨v, rfl⟩
    · rfl
    · rfl
theorem PSet.ne_run {k : K} {p : Option A} {u : FrameMode} (hp : PSet k p u) : u ≠ .run := by
  cases p with
  | some x => obtain ⟨v, rfl, _⟩ := hp; simp
  | none => have : u = .returning := hp; rw [this]; simp

def EndsS (w0 : World) (k : K) (n : Nat) (c0 : Frame) (cs0 : List Frame) (r : X × Fr × St × Option A) (e : Exit) (a : Act) (cs : List Frame) (w : World) : Prop :=
  match r with
  | (.normal, φ, σ, p) => e = .normal ∧ ∃ k' u, k'.w = w ∧ k.le k' ∧ Inv w0 σ k' ∧ FrRel k' n φ a ∧ PRel k' p u ∧ cs = { c0 with mode := u } :: cs0
  | (.ret, φ, σ, p) => e = .ret ∧ ∃ k' u, k'.w = w ∧ k.le k' ∧ Inv w0 σ k' ∧ FrRel k' n φ a ∧ PRel k' p u ∧ cs = { c0 with mode := u } :: cs0
  | _ => False
theorem EndsS.mono {k k' : K} (h : k.le k') {c0 : Frame} {cs0 : List Frame} {r : X × Fr × St × Option A} {e : Exit} {a : Act} {cs : List Frame} {w : World} (hr : EndsS w0 k' n c0 cs0 r e a cs w) : EndsS w0 k n c0 cs0 r e a cs w := by
  obtain ⟨x, φ, σ, p⟩ := r
  cases x with
  | normal => obtain ⟨h1, k2, u, h2, h3, h4⟩ := hr; exact ⟨h1, k2, u, h2, h.trans h3, h4⟩
  | ret => obtain ⟨h1, k2, u, h2, h3, h4⟩ := hr; exact ⟨h1, k2, u, h2, h.trans h3, h4⟩
  | _ => exact hr.elim

theorem runOpsS_good (hc : CallOk C w0 callF) (ops : Array Oper) (c0 : Frame) (cs0 : List Frame) : ∀ (l : List Oper) (i : Nat) (φ : Fr) (σ : St) (p : Option A) (k : K) (a : Act) (u : FrameMode) (r : X × Fr × St × Option A),
    (∀ j, l[j]? = ops[i + j]?) → runOpsS C callF n ops l φ σ p = some r → Inv w0 σ k → GlobOk C k → FrRel k n φ a → PRel k p u →
    ∀ (Q : Exit → Act → List Frame → World → Prop), (∀ e a' cs w', EndsS w0 k n c0 cs0 r e a' cs w' → Q e a' cs w') → wpOpsS C.P ops Q (List.range' i l.length) a ({ c0 with mode := u } :: cs0) k.w
  | [], i, φ, σ, p, k, a, u, r, hl, h, hI, hg, hr, hp, Q, hQ => by
    simp only [runOpsS] at h; cases h
    exact hQ _ _ _ _ ⟨rfl, k, u, rfl, K.le.refl k, hI, hr, hp, rfl⟩
  | o :: l, i, φ, σ, p, k, a, u, r, hl, h, hI, hg, hr, hp, Q, hQ => by
    have h0 : ops[i]? = some o := by simpa using (hl 0).symm
    have hl' : ∀ j, l[j]? = ops[i + 1 + j]? := fun j => by have := hl (j + 1); simpa [Nat.add_assoc, Nat.add_comm 1 j] using this
    have next : ∀ (φ' : Fr) (σ' : St) (p' : Option A), runOpsS C callF n ops l φ' σ' p' = some r → ∀ k' a' u', k.le k' → Inv w0 σ' k' → FrRel k' n φ' a' → PRel k' p' u' → wpOpsS C.P ops Q (List.range' (i + 1) l.length) a' ({ c0 with mode := u' } :: cs0) k'.w :=
      fun φ' σ' p' h' k' a' u' h1 h2 h3 h4 => runOpsS_good hc ops c0 cs0 l (i + 1) φ' σ' p' k' a' u' r hl' h' h2 (hg.mono h1) h3 h4 Q (fun e a' cs w' he => hQ e a' cs w' (he.mono h1))
    simp only [runOpsS] at h
    simp only [List.length_cons, List.range'_succ, wpOpsS, h0]
    split at h
    · rename_i hw
      rw [wanted_good hr hw]
      simp only [if_true]
      split at h
      · rename_i x σ' ho
        split at h
        case h_2 => cases h
        rename_i φ' hpt
        obtain ⟨k', v, h1, h2, h3, h4⟩ := op_good (ρ' := a.eval) hI (ev_good hg hr) ho
        rw [h1]
        exact next φ' σ' p h k' _ u h4 h3 ((hr.mono h4).put h2 hpt) (hp.mono h4)
      · rename_i σ' ho
        split at h
        case h_2 => cases h
        rename_i φ' hpt
        obtain ⟨k', h1, h3, h4⟩ := op_good (ρ' := a.eval) hI (ev_good hg hr) ho
        rw [h1]
        exact next φ' σ' p h k' _ u h4 h3 ((hr.mono h4).put rel_und hpt) (hp.mono h4)
      · rename_i f args σ' ho
        obtain ⟨k', us, h1, h2, h3, h4⟩ := op_good (ρ' := a.eval) hI (ev_good hg hr) ho
        split at h
        case h_2 => cases h
        rename_i x σ'' hcf
        split at h
        case h_2 => cases h
        rename_i φ' hpt
        rw [h1]
        have hcall := hc f args σ' (.ret x) σ'' k' us.toList hcf h3 (hg.mono h4) h2
        show Calls C.P f us k'.w _
        refine Calls.mono (by simpa using hcall) (fun e w' he => ?_)
        obtain ⟨k2, v, rfl, rfl, g1, g2, g3⟩ := he
        exact next φ' σ'' p h k2 _ u (h4.trans g1) g2 ((hr.mono (h4.trans g1)).put g3 hpt) (hp.mono (h4.trans g1))
      · rename_i σ' ho
        split at h
        case h_2 => cases h
        rename_i φ' hpt
        obtain ⟨k', h1, h3, h4⟩ := op_good (ρ' := a.eval) hI (ev_good hg hr) ho
        rw [h1]
        have hp' := hp.mono h4
        cases p with
        | some x =>
          obtain ⟨v, rfl, hv⟩ := hp'
          exact next φ' σ' none h k' _ (.panicking [{ v, recovered := true }]) h4 h3 ((hr.mono h4).put hv hpt) (.inr ⟨v, rfl⟩)
        | none =>
          have hrc : recoverD ({ c0 with mode := u } :: cs0) = none := by
            rcases hp' with rfl | ⟨v, rfl⟩ <;> rfl
          simp only [hrc]
          exact next φ' σ' none h k' _ u h4 h3 ((hr.mono h4).put (x := .v .nilIface) (.v rfl) hpt) hp'
      · cases h
    · rename_i hw
      rw [wanted_good hr hw]
      split at h
      case h_2 => cases h
      rename_i φ' hpt
      simp only [Bool.false_eq_true, if_false]
      exact next φ' σ p h k _ u (K.le.refl k) hI (hr.put rel_und hpt) hp
    · cases h

theorem execS_other (hd : DrOk C w0) (hc : CallOk C w0 callF) (c0 : Frame) (cs0 : List Frame) (f : Nat) (c : Code) (φ : Fr) (σ : St) (p : Option A) (k : K) (a : Act) (u : FrameMode) (r : X × Fr × St × Option A)
    (h : (match exec C callF n (f + 1) c φ σ with
      | some (.normal, φ', σ') => some (X.normal, φ', σ', p)
      | some (.ret, φ', σ') => some (.ret, φ', σ', p)
      | _ => none) = some r) (hI : Inv w0 σ k) (hg : GlobOk C k) (hr : FrRel k n φ a) (hp : PRel k p u) (Q : Exit → Act → List Frame → World → Prop)
    (hQ : ∀ e a' cs w', EndsS w0 k n c0 cs0 r e a' cs w' → Q e a' cs w') : c.wpS C.P Q a ({ c0 with mode := u } :: cs0) k.w := by
  refine wpS_of_wp ?_
  split at h
  · rename_i φ' σ' h1
    cases h
    refine (exec_good hd hc (f + 1)).1 c φ σ k a _ h1 hI hg hr _ (fun e a' w' he => ?_)
    obtain ⟨rfl, k', rfl, g1, g2, g3⟩ := he
    exact hQ _ _ _ _ ⟨rfl, k', u, rfl, g1, g2, g3, hp.mono g1, rfl⟩
  · rename_i φ' σ' h1
    cases h
    refine (exec_good hd hc (f + 1)).1 c φ σ k a _ h1 hI hg hr _ (fun e a' w' he => ?_)
    obtain ⟨rfl, k', rfl, g1, g2, g3⟩ := he
    exact hQ _ _ _ _ ⟨rfl, k', u, rfl, g1, g2, g3, hp.mono g1, rfl⟩
  · cases h

theorem execS_good (hd : DrOk C w0) (hc : CallOk C w0 callF) (c0 : Frame) (cs0 : List Frame) : ∀ (fuel : Nat) (c : Code) (φ : Fr) (σ : St) (p : Option A) (k : K) (a : Act) (u : FrameMode) (r : X × Fr × St × Option A),
    execS C callF n fuel c φ σ p = some r → Inv w0 σ k → GlobOk C k → FrRel k n φ a → PRel k p u →
    ∀ (Q : Exit → Act → List Frame → World → Prop), (∀ e a' cs w', EndsS w0 k n c0 cs0 r e a' cs w' → Q e a' cs w') → c.wpS C.P Q a ({ c0 with mode := u } :: cs0) k.w
  | 0, c, φ, σ, p, k, a, u, r, h, _, _, _, _, _, _ => by simp [execS] at h
  | f + 1, c, φ, σ, p, k, a, u, r, h, hI, hg, hr, hp, Q, hQ => by
    have ih := execS_good hd hc c0 cs0 f
    cases c with
    | region id ops draw =>
      cases draw with
      | false =>
        simp only [execS] at h
        refine wpS_region ?_
        rw [List.range_eq_range', ← Array.length_toList]
        exact runOpsS_good hc ops c0 cs0 ops.toList 0 φ σ p k a u r (by simp) h hI hg hr hp Q hQ
      | true => exact execS_other hd hc c0 cs0 f _ φ σ p k a u r h hI hg hr hp Q hQ
    | seq x y =>
      simp only [execS] at h
      refine wpS_seq ?_
      split at h
      · rename_i φ' σ' p' h1
        refine ih x φ σ p k a u _ h1 hI hg hr hp _ (fun e a' cs w' he => ?_)
        obtain ⟨rfl, k', u', rfl, g1, g2, g3, g4, rfl⟩ := he
        exact ih y φ' σ' p' k' a' u' r h g2 (hg.mono g1) g3 g4 Q (fun e a' cs w' he => hQ e a' cs w' (he.mono g1))
      · rename_i hne
        refine ih x φ σ p k a u _ h hI hg hr hp _ (fun e a' cs w' he => ?_)
        have hq := hQ e a' cs w' he
        cases e with
        | normal =>
          exfalso
          obtain ⟨x, φ', σ', p'⟩ := r
          cases x with
          | normal => exact hne _ _ _ h
          | ret => exact absurd he.1 (by simp)
          | _ => exact he.elim
        | _ => exact hq
    | cond x s t =>
      simp only [execS] at h
      split at h
      · rename_i b hx
        have := rel_v_inv (ev_good hg hr x _ hx)
        exact wpS_cond (t := b) this (ih _ φ σ p k a u r h hI hg hr hp Q hQ)
      · cases h
    | skip => exact execS_other hd hc c0 cs0 f (.skip) φ σ p k a u r h hI hg hr hp Q hQ
    | block i b => exact execS_other hd hc c0 cs0 f (.block i b) φ σ p k a u r h hI hg hr hp Q hQ
    | loop b => exact execS_other hd hc c0 cs0 f (.loop b) φ σ p k a u r h hI hg hr hp Q hQ
    | rangeFunc g q x y => exact execS_other hd hc c0 cs0 f (.rangeFunc g q x y) φ σ p k a u r h hI hg hr hp Q hQ
    | exit i => exact execS_other hd hc c0 cs0 f (.exit i) φ σ p k a u r h hI hg hr hp Q hQ
    | scope b => exact execS_other hd hc c0 cs0 f (.scope b) φ σ p k a u r h hI hg hr hp Q hQ
    | label l => exact execS_other hd hc c0 cs0 f (.label l) φ σ p k a u r h hI hg hr hp Q hQ
    | goto l => exact execS_other hd hc c0 cs0 f (.goto l) φ σ p k a u r h hI hg hr hp Q hQ
    | ret => exact execS_other hd hc c0 cs0 f (.ret) φ σ p k a u r h hI hg hr hp Q hQ
    | refuse y => exact execS_other hd hc c0 cs0 f (.refuse y) φ σ p k a u r h hI hg hr hp Q hQ

/-- the results -/
theorem loadRes_good {σ : St} {k : K} (hI : Inv w0 σ k) {t : TypeId} {x a : A} {u : Value} (hx : Rel k x u) (h : loadOp C.P t x σ = some a) : ∃ v, ((do loadVar t (← asAddr u)) : Sem Value).run C.P k.w = .ok v k.w ∧ Rel k a v := by
  obtain ⟨v, h1, h2⟩ := loadOp_good hI hx h
  refine ⟨v, ?_, h2⟩
  rw [← h1]
  unfold loadOp at h
  split at h
  · cases hx with
    | ptr hb => rfl
  · obtain ⟨c, y, rfl⟩ := hx.spInv; rfl
  · cases h
def resVal (tmps : Array Value) : ResultVar → Sem Value
  | .tmp t => pure (tmps.getD t undef)
  | .cell a t => do loadVar t (← asAddr (tmps.getD a undef))
theorem resA_good {σ : St} {k : K} (hI : Inv w0 σ k) {φ : Fr} {tmps : Array Value} (hs : ∀ t, Rel k (φ.at t) (tmps.getD t undef)) : ∀ {l : List ResultVar} {xs : List A}, resA C φ σ l = some xs →
    ∃ vs : List Value, (l.mapM (resVal tmps)).run C.P k.w = .ok vs k.w ∧ RelL k xs vs
  | [], xs, h => by simp only [resA] at h; cases h; exact ⟨[], by simp, RelL.nil k⟩
  | .tmp t :: l, xs, h => by
    simp only [resA] at h
    split at h
    case h_2 => cases h
    rename_i x ys hx hy
    cases h
    obtain ⟨vs, h1, h2⟩ := resA_good hI hs hy
    exact ⟨tmps.getD t undef :: vs, by simp only [List.mapM_cons, resVal, Sem.run_bind, Sem.run_pure, Result.andThen_ok, h1], RelL.cons (by rw [← at_of hx]; exact hs t) h2⟩
  | .cell a t :: l, xs, h => by
    simp only [resA] at h
    split at h
    case h_2 => cases h
    rename_i p hp
    split at h
    case h_2 => cases h
    rename_i y ys hx hy
    cases h
    obtain ⟨vs, h1, h2⟩ := resA_good hI hs hy
    obtain ⟨v, h3, h4⟩ := loadRes_good (C := C) hI (hs a) (by rw [at_of hp]; exact hx)
    refine ⟨v :: vs, ?_, RelL.cons h4 h2⟩
    simp only [List.mapM_cons]
    rw [Sem.run_bind]
    have h3' : (resVal tmps (.cell a t)).run C.P k.w = .ok v k.w := h3
    rw [h3']
    simp only [Result.andThen_ok, Sem.run_bind, h1, Sem.run_pure]
theorem results_eq (fn : Func) (tmps : Array Value) : results fn tmps = (do
    let vs ← fn.results.toList.mapM (resVal tmps)
    pure (if h : vs.toArray.size = 1 then vs.toArray[0] else .tuple vs.toArray)) := by
  unfold results
  rw [Array.mapM_eq_mapM_toList]
  simp only [bind_map_left]
  exact congrArg (fun (g : ResultVar → Sem Value) => ((do
    let vs ← fn.results.toList.mapM g
    pure (if h : vs.toArray.size = 1 then vs.toArray[0] else .tuple vs.toArray)) : Sem Value)) (funext fun x => by cases x <;> rfl)
theorem results_good {σ : St} {k : K} (hI : Inv w0 σ k) {φ : Fr} {tmps : Array Value} (hs : ∀ t, Rel k (φ.at t) (tmps.getD t undef)) {fn : Func} {xs : List A} (h : resA C φ σ fn.results.toList = some xs) :
    ∃ v, (results fn tmps).run C.P k.w = .ok v k.w ∧ Rel k (oneOrTup xs) v := by
  obtain ⟨vs, h1, h2⟩ := resA_good hI hs h
  refine ⟨if h : vs.toArray.size = 1 then vs.toArray[0] else .tuple vs.toArray, ?_, ?_⟩
  · rw [results_eq, Sem.run_bind, h1]
    rfl
  · match xs, vs, h2 with
    | [], [], h2 => exact .tup h2.1 h2.2
    | [x], [v], h2 => exact h2.2 0 x v rfl rfl
    | x :: y :: xs, v :: u :: vs, h2 =>
      have : ¬ (v :: u :: vs).toArray.size = 1 := by simp
      rw [dif_neg this]
      exact .tup h2.1 h2.2
    | [], _ :: _, h2 => exact absurd h2.1 (by simp)
    | [_], [], h2 => exact absurd h2.1 (by simp)
    | [_], _ :: _ :: _, h2 => exact absurd h2.1 (by simp)
    | _ :: _ :: _, [], h2 => exact absurd h2.1 (by simp)
    | _ :: _ :: _, [_], h2 => exact absurd h2.1 (by simp)

theorem argFr_get : ∀ (l : List A) (i t : Nat), (argFr i l).get t = if i ≤ t then l[t - i]? else none
  | [], i, t => by simp [argFr]
  | a :: l, i, t => by
    simp only [argFr, Tr.get_set, argFr_get l (i + 1) t]
    by_cases h : t = i
    · subst h; simp
    · rw [if_neg h]
      by_cases h1 : i ≤ t
      · have h2 : i + 1 ≤ t := by omega
        rw [if_pos h1, if_pos h2]
        have : t - i = (t - (i + 1)) + 1 := by omega
        rw [this]; simp
      · rw [if_neg h1, if_neg (by omega)]
theorem enter_good {k : K} {args : List A} {us : List Value} (hr : RelL k args us) {n : Nat} (hn : args.length ≤ n) : FrRel k n ⟨argFr 0 args, []⟩ { tmps := us.toArray ++ Array.replicate (n - us.toArray.size) undef, defers := [] } := by
  refine ⟨?_, fun t => ?_, rfl, fun j x d h => by simp at h⟩
  · have := hr.1
    simp; omega
  · simp only [Fr.at, argFr_get, Nat.zero_le, if_true, Nat.sub_zero, Array.getD_eq_getD_getElem?, Array.getElem?_append]
    by_cases ht : t < us.length
    · have hta : t < args.length := by rw [hr.1]; exact ht
      simp only [List.size_toArray, ht, if_true, List.getElem?_toArray, List.getElem?_eq_getElem hta, List.getElem?_eq_getElem ht, Option.getD_some]
      exact hr.2 t _ _ (List.getElem?_eq_getElem hta) (List.getElem?_eq_getElem ht)
    · have hta : args[t]? = none := List.getElem?_eq_none (by rw [hr.1]; omega)
      simp only [List.size_toArray, ht, if_false, hta, Option.getD_none]
      have : (Array.replicate (n - us.length) undef)[t - us.length]?.getD undef = undef := by
        rw [Array.getElem?_replicate]; split <;> rfl
      rw [this]
      exact rel_und

theorem callD_good (hd : DrOk C w0) (hc : CallOk C w0 callF) {fuel : Nat} {f : FuncId} {args : List A} {σ σ' : St} {p p' : Option A} (h : callD C callF fuel f args σ p = some (σ', p')) {k : K} {us : List Value} (hI : Inv w0 σ k) (hg : GlobOk C k) (hr : RelL k args us) {u : FrameMode} (hp : PRel k p u)
    {R : Ending → FrameMode → World → Prop} (hR : ∀ k' u' v, k.le k' → Inv w0 σ' k' → PRel k' p' u' → R (.returned v) u' k'.w) : (∃ fn, C.P.funcs[f]? = some fn ∧ fn.name ≠ "runtime.NumGoroutine" ∧ fn.body.isSome = true) ∧ CallsD C.P f us.toArray u k.w R := by
  unfold callD at h
  split at h
  case h_2 => cases h
  rename_i fn hf
  split at h
  case h_2 => cases h
  rename_i c hb
  split at h
  case isFalse => cases h
  rename_i hl
  refine ⟨⟨fn, hf, hl.2, by simp [hb]⟩, ?_⟩
  refine callsD_of_wpS hf hb (fun c0 cs hu => ?_)
  have hcs : c0 :: cs = { c0 with mode := u } :: cs := by rw [← hu]
  rw [hcs]
  have fin : ∀ φ, (match φ.ds, resA C φ σ' fn.results.toList with
          | [], some _ => some (σ', p')
          | _, _ => none) = some (σ', p') → ∀ k' u' a', k.le k' → Inv w0 σ' k' → FrRel k' fn.ntmps φ a' → PRel k' p' u' → a'.defers = [] ∧ ∃ v, (results fn a'.tmps).run C.P k'.w = .ok v k'.w ∧ R (.returned v) u' k'.w := by
    intro φ h k' u' a' g1 g2 g3 g4
    split at h
    · rename_i xs hds hx
      have hds' := g3.ds
      rw [hds] at hds'
      obtain ⟨v, q1, q2⟩ := results_good (C := C) g2 g3.slot hx
      exact ⟨hds'.inv_nil, v, q1, hR k' u' v g1 g2 g4⟩
    · cases h
  split at h
  · rename_i φ σ2 p2 h1
    have hh : σ2 = σ' ∧ p2 = p' := by
      split at h
      · cases h; exact ⟨rfl, rfl⟩
      · cases h
    obtain ⟨rfl, rfl⟩ := hh
    refine execS_good hd hc c0 cs fuel c _ σ p k _ u _ h1 hI hg (enter_good hr hl.1) hp _ (fun e a' cs' w' he => ?_)
    obtain ⟨rfl, k', u', rfl, g1, g2, g3, g4, rfl⟩ := he
    obtain ⟨q1, v, q2, q3⟩ := fin φ h k' u' a' g1 g2 g3 g4
    exact ⟨q1, u', rfl, v, q2, q3⟩
  · rename_i φ σ2 p2 h1
    have hh : σ2 = σ' ∧ p2 = p' := by
      split at h
      · cases h; exact ⟨rfl, rfl⟩
      · cases h
    obtain ⟨rfl, rfl⟩ := hh
    refine execS_good hd hc c0 cs fuel c _ σ p k _ u _ h1 hI hg (enter_good hr hl.1) hp _ (fun e a' cs' w' he => ?_)
    obtain ⟨rfl, k', u', rfl, g1, g2, g3, g4, rfl⟩ := he
    obtain ⟨q1, v, q2, q3⟩ := fin φ h k' u' a' g1 g2 g3 g4
    exact ⟨q1, u', rfl, v, q2, q3⟩
  · cases h

theorem leave_good (hd : DrOk C w0) (hc : CallOk C w0 callF) {fuel : Nat} {fn : Func} {tmps : Array Value} {R : Ending → World → Prop} : ∀ (ds : List (FuncId × List A)) (ds' : List Deferred) (σ σ'' : St) (p p'' : Option A) (k : K) (u : FrameMode),
    leave C callF fuel ds σ p = some (σ'', p'') → Inv w0 σ k → GlobOk C k → DsRel k ds ds' → PSet k p u → (∀ k' u', k.le k' → Inv w0 σ'' k' → PSet k' p'' u' → Leaves C.P fn tmps R [] u' k'.w) → Leaves C.P fn tmps R ds' u k.w
  | [], ds', σ, σ'', p, p'', k, u, h, hI, hg, hr, hp, hR => by
    simp only [leave] at h; cases h
    rw [hr.inv_nil]
    exact hR k u (K.le.refl k) hI hp
  | (f, args) :: ds, ds', σ, σ'', p, p'', k, u, h, hI, hg, hr, hp, hR => by
    simp only [leave] at h
    split at h
    case h_2 => cases h
    rename_i σ' p' h1
    obtain ⟨d, ds2, rfl, ⟨us, vs, g1, g2, g3⟩, hr'⟩ := hr.inv_cons
    obtain ⟨⟨fn', hf, hn, hb⟩, hcd⟩ := callD_good hd hc h1 hI hg g3 hp.rel (R := fun
        | .returned _, u', w' => Leaves C.P fn tmps R ds2 (settle u') w'
        | .panicked chain, u', w' => Leaves C.P fn tmps R ds2 (raised u' chain) w'
        | .outgrown, _, w' => R .outgrown w') (fun k' u' v q1 q2 q3 =>
          leave_good hd hc ds ds2 σ' σ'' p' p'' k' (settle u') h q2 (hg.mono q1) (hr'.mono q1) q3.settle (fun k2 u2 e1 e2 e3 => hR k2 u2 (q1.trans e1) e2 e3))
    refine ⟨hp.ne_run, .func f, vs.toArray, f, (us ++ vs).toArray, g1, ?_, hcd⟩
    rw [g1, g2]
    have := run_enter hf hn hb (us ++ vs).toArray k.w
    simpa [invoke] using this

/-- the functions that are given by hand -/
def PrimOk (C : Cfg) (w0 : World) : Prop := ∀ (f : FuncId) (g : List A → St → Option (A × St)) (args : List A) (σ σ' : St) (x : A) (k : K) (us : List Value), C.prim f = some g → g args σ = some (x, σ') → Inv w0 σ k → GlobOk C k → RelL k args us →
  Calls C.P f us.toArray k.w (OutPost w0 k (.ret x) σ')

theorem call_good (hd : DrOk C w0) (hpr : PrimOk C w0) : ∀ (fuel : Nat), CallOk C w0 (call C fuel)
  | 0 => fun f args σ out σ' k us h => by simp [call] at h
  | fuel + 1 => by
    have hc := call_good hd hpr fuel
    intro f args σ out σ' k us h hI hg hr
    simp only [call] at h
    split at h
    · rename_i g hgp
      split at h
      · rename_i x σ2 h1
        cases h
        exact hpr f g args σ _ x k us hgp h1 hI hg hr
      · cases h
    split at h
    case h_2 => cases h
    rename_i fn hf
    split at h
    case h_2 => cases h
    rename_i c hb
    split at h
    case isFalse => cases h
    rename_i hl
    have fin : ∀ (φ : Fr) (σ2 : St) (p : Option A), (match leave C (call C fuel) (fuel + 1) φ.ds σ2 p with
        | some (σ'', none) => match resA C φ σ'' fn.results.toList with
          | some l => some (Out.ret (oneOrTup l), σ'')
          | none => none
        | some (σ'', some y) => some (.pan y, σ'')
        | none => none) = some (out, σ') → ∀ (k' : K) (a : Act) (u : FrameMode), k.le k' → Inv w0 σ2 k' → FrRel k' fn.ntmps φ a → PSet k' p u → Leaves C.P fn a.tmps (OutPost w0 k out σ') a.defers u k'.w := by
      intro φ σ2 p h k' a u g1 g2 g3 g4
      split at h
      · rename_i σ3 hlv
        refine leave_good hd hc φ.ds a.defers σ2 σ3 p none k' u hlv g2 (hg.mono g1) g3.ds g4 (fun k2 u2 e1 e2 e3 => ?_)
        have : u2 = .returning := e3
        subst this
        split at h
        · rename_i l hres
          cases h
          obtain ⟨v, q1, q2⟩ := results_good (C := C) e2 (fun t => (g3.slot t).mono e1) hres
          exact ⟨v, q1, k2, v, rfl, rfl, g1.trans e1, e2, q2⟩
        · cases h
      · rename_i σ3 y hlv
        cases h
        refine leave_good hd hc φ.ds a.defers σ2 σ' p (some y) k' u hlv g2 (hg.mono g1) g3.ds g4 (fun k2 u2 e1 e2 e3 => ?_)
        obtain ⟨v, rfl, hv⟩ := e3
        exact ⟨k2, v, rfl, rfl, g1.trans e1, e2, hv⟩
      · cases h
    have weak : ∀ (φ : Fr) (σ2 : St), (match leave C (call C fuel) (fuel + 1) φ.ds σ2 none with
        | some (σ'', none) => match resA C φ σ'' fn.results.toList with
          | some l => some (Out.ret (oneOrTup l), σ'')
          | none => none
        | _ => none) = some (out, σ') → (match leave C (call C fuel) (fuel + 1) φ.ds σ2 none with
        | some (σ'', none) => match resA C φ σ'' fn.results.toList with
          | some l => some (Out.ret (oneOrTup l), σ'')
          | none => none
        | some (σ'', some y) => some (.pan y, σ'')
        | none => none) = some (out, σ') := by
      intro φ σ2 h
      split at h
      · rename_i σ3 hlv; rw [hlv]; exact h
      · cases h
    refine calls_of_wp_defers hf hb ?_
    split at h
    · rename_i φ σ2 h1
      refine (exec_good hd hc (fuel + 1)).1 c _ σ k _ _ h1 hI hg (enter_good hr hl) _ (fun e a' w' he => ?_)
      obtain ⟨rfl, k', rfl, g1, g2, g3⟩ := he
      exact fin φ σ2 none (weak φ σ2 h) k' a' .returning g1 g2 g3 rfl
    · rename_i φ σ2 h1
      refine (exec_good hd hc (fuel + 1)).1 c _ σ k _ _ h1 hI hg (enter_good hr hl) _ (fun e a' w' he => ?_)
      obtain ⟨rfl, k', rfl, g1, g2, g3⟩ := he
      exact fin φ σ2 none (weak φ σ2 h) k' a' .returning g1 g2 g3 rfl
    · rename_i x φ σ2 h1
      refine (exec_good hd hc (fuel + 1)).1 c _ σ k _ _ h1 hI hg (enter_good hr hl) _ (fun e a' w' he => ?_)
      obtain ⟨v, k', rfl, rfl, g1, g2, g3, g4⟩ := he
      exact fin φ σ2 (some x) h k' a' _ g1 g2 g3 ⟨v, rfl, g4⟩
    · cases h
end
end Go.DM
namespace Go.DM
open Go Go.RowKit

section
variable {C : Cfg} {ρ₁ ρ₂ : Operand → Option A} {o : Oper} {σ : St}

theorem plainOps_congr : ∀ {l : List Operand}, (∀ x ∈ l, ρ₁ x = ρ₂ x) → plainOps ρ₁ l = plainOps ρ₂ l
  | [], _ => rfl
  | x :: l, h => by
    have ih := plainOps_congr (l := l) (fun y hy => h y (by simp [hy]))
    unfold plainOps at ih ⊢
    simp only [List.all_cons, ih, h x (by simp)]
theorem opsOf_congr : ∀ {l : List Operand}, (∀ x ∈ l, ρ₁ x = ρ₂ x) → opsOf ρ₁ l = opsOf ρ₂ l
  | [], _ => rfl
  | x :: l, h => by
    have ih := opsOf_congr (l := l) (fun y hy => h y (by simp [hy]))
    simp only [opsOf, ih, h x (by simp)]
theorem partsOf_congr : ∀ {l : List (Nat × Operand)}, (∀ x ∈ l, ρ₁ x.2 = ρ₂ x.2) → partsOf ρ₁ l = partsOf ρ₂ l
  | [], _ => rfl
  | (i, x) :: l, h => by
    have ih := partsOf_congr (l := l) (fun y hy => h y (by simp [hy]))
    simp only [partsOf, ih, h (i, x) (by simp)]
theorem optOf_congr {x : Option Operand} (h : ∀ y, x = some y → ρ₁ y = ρ₂ y) : optOf ρ₁ x = optOf ρ₂ x := by
  cases x with
  | none => rfl
  | some y => simp only [optOf, h y rfl]
theorem detIf_congr (hs : ∀ cs b, o.op ≠ .select cs b) (h : ∀ x ∈ o.op.operands, ρ₁ x = ρ₂ x) : detIf C ρ₁ o σ = detIf C ρ₂ o σ := by
  have h1 : plainOps ρ₁ o.op.operands.toList = plainOps ρ₂ o.op.operands.toList := plainOps_congr (fun x hx => h x (by simpa using hx))
  have h2 : execOp (valOf ρ₁) o = execOp (valOf ρ₂) o := execOp_congr o hs (fun x hx => by unfold valOf; rw [h x hx])
  unfold detIf detOp
  rw [h1, h2]

theorem op_congr (h : ∀ x ∈ o.op.operands, ρ₁ x = ρ₂ x) : op C ρ₁ o σ = op C ρ₂ o σ := by
  have hdet : (∀ cs b, o.op ≠ .select cs b) → detIf C ρ₁ o σ = detIf C ρ₂ o σ := fun hs => detIf_congr hs h
  cases hop : o.op <;> simp only [hop, Op.operands] at h
  case call c =>
    have hd := hdet (by simp [hop])
    have ha : ∀ x ∈ c.args, ρ₁ x = ρ₂ x := fun x hx => h x (by simp [Call.operands, hx])
    have hl : opsOf ρ₁ c.args.toList = opsOf ρ₂ c.args.toList := opsOf_congr (fun x hx => ha x (by simpa using hx))
    cases hc : c.callee with
    | value f =>
      have hf := h f (by simp [Call.operands, hc])
      simp only [op, hop, hc, hd, hf, hl]
    | invoke x name =>
      have hf := h x (by simp [Call.operands, hc])
      simp only [op, hop, hc, hf, hl]
    | builtin b =>
      simp only [op, hop, hc]
      have ha' : ∀ x ∈ c.args.toList, ρ₁ x = ρ₂ x := fun x hx => ha x (by simpa using hx)
      unfold builtinOp
      generalize c.args.toList = l at ha'
      rw [hd]
      match l, ha' with
      | [], _ => cases b <;> rfl
      | [x], ha' => have h1 := ha' x (by simp); cases b <;> first | rfl | simp only [h1]
      | [x, y], ha' => have h1 := ha' x (by simp); have h2 := ha' y (by simp); cases b <;> first | rfl | simp only [h1, h2]
      | x :: y :: z :: l, _ => cases b <;> rfl
  case defer c =>
    have ha : ∀ x ∈ c.args, ρ₁ x = ρ₂ x := fun x hx => h x (by simp [Call.operands, hx])
    have hl : opsOf ρ₁ c.args.toList = opsOf ρ₂ c.args.toList := opsOf_congr (fun x hx => ha x (by simpa using hx))
    cases hc : c.callee with
    | value f =>
      have hf := h f (by simp [Call.operands, hc])
      simp only [op, hop, hc, hf, hl]
    | _ => simp only [op, hop, hc]
  case build t ps =>
    simp only [op, hop]
    rw [partsOf_congr (l := ps.toList) (fun x hx => h x.2 (by simp; exact ⟨x.1, by simpa using hx⟩))]
  case buildSlice t n ps =>
    simp only [op, hop]
    rw [partsOf_congr (l := ps.toList) (fun x hx => h x.2 (by simp; exact ⟨x.1, by simpa using hx⟩))]
  case makeFunc f first cap =>
    simp only [op, hop]
    rw [opsOf_congr (l := first.toList) (fun x hx => h x (by simp; exact .inl (by simpa using hx))), opsOf_congr (l := cap.toList) (fun x hx => h x (by simp; exact .inr (by simpa using hx)))]
  case makeMap t r => cases r <;> simp only [op, hop]
  case slice t x lo hi mx =>
    cases mx with
    | some m => simp only [op, hop]
    | none =>
      simp only [op, hop]
      rw [h x (by simp), optOf_congr (x := lo) (fun y hy => h y (by simp [hy])), optOf_congr (x := hi) (fun y hy => h y (by simp [hy])), hdet (by simp [hop])]
  case select cs b => simp only [op, hop]
  case go c => simp only [op, hop]
  all_goals
    have hd := hdet (by simp [hop])
    simp at h
    first
      | simp only [op, hop, h]; done
      | simp only [op, hop, h, hd]; done
      | (simp only [op, hop, h])

theorem quiet_st {x : A} {σ' : St} (h : op C ρ₁ o σ = some (.val x σ')) (hq : isQuiet o = true) (hs : ∀ t y lo hi mx b p l c, o.op = .slice t y lo hi mx → ρ₁ y ≠ some (.ms b p l c)) : σ' = σ := by
  have hdet : ∀ {r}, detIf C ρ₁ o σ = some r → ∃ a, r = .val a σ := by
    intro r h
    unfold detIf detOp at h
    split at h
    · split at h
      · split at h
        · cases h; exact ⟨_, rfl⟩
        · cases h
      · cases h
    · cases h
  have hdet' : detIf C ρ₁ o σ = some (.val x σ') → σ' = σ := fun h => by obtain ⟨a, ha⟩ := hdet h; cases ha; rfl
  have hw : ∀ {y : Option A}, wrapV y σ = some (.val x σ') → σ' = σ := fun h => by obtain ⟨a, _, ha⟩ := wrapV_good h; cases ha; rfl
  cases hop : o.op <;> simp only [hop, isQuiet, Bool.false_eq_true] at hq <;> simp only [op, hop] at h
  case convert s d y =>
    split at h
    case h_2 => cases h
    split at h
    · rename_i a s2 hc
      cases h
      unfold convertOp at hc
      repeat' split at hc
      all_goals first | (cases hc; rfl) | cases hc
    · exact hdet' h
  case slice t y lo hi mx =>
    cases mx with
    | some m => simp only at h; cases h
    | none =>
      simp only at h
      split at h
      case h_2 => cases h
      rename_i y' l h' hy hl hh
      split at h
      · rename_i a s2 hc
        cases h
        unfold sliceOp at hc
        split at hc
        · repeat' split at hc
          all_goals first | (cases hc; rfl) | cases hc
        · exact absurd hy (hs _ _ _ _ _ _ _ _ _ hop)
        · repeat' split at hc
          all_goals first | (cases hc; rfl) | cases hc
        · repeat' split at hc
          all_goals first | (cases hc; rfl) | cases hc
        · cases hc
      · exact hdet' h
  case call c =>
    cases hc : c.callee <;> simp only [hc, Bool.false_eq_true] at hq <;> simp only [hc] at h
    rename_i b
    unfold builtinOp at h
    cases b <;> simp only [Bool.false_eq_true] at hq
    all_goals
      repeat' split at h
    all_goals first | exact hdet' h | contradiction | (cases h; done) | (cases h; rfl)
  all_goals
    repeat' split at h
  all_goals first | exact hdet' h | exact hw h | (cases h; rfl) | (cases h; done)

theorem opQ_op {x : A} (h : opQ C ρ₁ o σ = some x) (hq : isQuiet o = true) : op C ρ₁ o σ = some (.val x σ) := by
  have key : ∀ {y : A}, (∀ t z lo hi mx b p l c, o.op = .slice t z lo hi mx → ρ₁ z ≠ some (.ms b p l c)) → (match op C ρ₁ o σ with | some (.val x _) => some x | _ => none) = some y → op C ρ₁ o σ = some (.val y σ) := by
    intro y hs h
    split at h
    · rename_i z s2 ho
      cases h
      rw [ho, quiet_st ho hq hs]
    · cases h
  have hq' := hq
  unfold opQ at h
  cases hop : o.op <;> simp only [hop, isQuiet, Bool.false_eq_true] at hq' <;> simp only [hop] at h
  case slice t z lo hi mx =>
    split at h
    · cases h
    · rename_i hne
      refine key (fun t' z' lo' hi' mx' b p l c e => ?_) h
      rw [hop] at e; cases e
      exact fun e => hne _ _ _ _ e
  case call c =>
    cases hc : c.callee <;> simp only [hc, Bool.false_eq_true] at hq' <;> simp only [hc] at h
    rename_i b
    cases b <;> simp only [Bool.false_eq_true] at hq' <;> exact key (fun t' z' lo' hi' mx' b p l c e => by rw [hop] at e; cases e) h
  all_goals exact key (fun t' z' lo' hi' mx' b p l c e => by rw [hop] at e; cases e) h
end

theorem scalEq_eq {x y : Value} (h : scalEq x y = true) : x = y := by
  unfold scalEq at h
  split at h <;> simp at h
  all_goals first
    | rfl
    | (subst h; rfl)
    | (obtain ⟨h1, h2⟩ := h; subst h1; subst h2; rfl)
    | (obtain ⟨h1, h2, h3⟩ := h; subst h1; subst h2; subst h3; rfl)
    | (obtain ⟨⟨h1, h2⟩, h3⟩ := h; subst h1; subst h2; subst h3; rfl)
    | (rename_i a b; obtain ⟨⟨a⟩⟩ := a; obtain ⟨⟨b⟩⟩ := b; simp at h; subst h; rfl)

mutual
theorem beq_eq : ∀ (x y : A), A.beq x y = true → x = y
  | .v x, y, h => by
    cases y <;> simp only [A.beq, Bool.false_eq_true] at h
    rw [scalEq_eq h]
  | .ptr b o, y, h => by
    cases y <;> simp [A.beq] at h
    obtain ⟨h1, h2⟩ := h; subst h1; subst h2; rfl
  | .sp cs o ap, y, h => by
    cases y <;> simp [A.beq] at h
    obtain ⟨⟨h1, h2⟩, h3⟩ := h
    rw [h1, h2, beqs_eq cs _ h3]
  | .sl z cs ap, y, h => by
    cases y <;> simp [A.beq] at h
    obtain ⟨⟨h1, h2⟩, h3⟩ := h
    rw [h1, h2, beqs_eq cs _ h3]
  | .ms b o l c, y, h => by
    cases y <;> simp [A.beq] at h
    obtain ⟨⟨⟨h1, h2⟩, h3⟩, h4⟩ := h
    rw [h1, h2, h3, h4]
  | .mp b, y, h => by
    cases y <;> simp [A.beq] at h
    rw [h]
  | .fn f u c, y, h => by cases y <;> simp [A.beq] at h
  | .ifc t x, y, h => by
    cases y <;> simp [A.beq] at h
    rw [h.1, beq_eq x _ h.2]
  | .agg cs, y, h => by
    cases y <;> simp [A.beq] at h
    rw [beqs_eq cs _ h]
  | .tup cs, y, h => by
    cases y <;> simp [A.beq] at h
    rw [beqs_eq cs _ h]
  | .raw i l, y, h => by cases y <;> simp [A.beq] at h
  | .junk, y, h => by cases y <;> simp [A.beq] at h
theorem beqs_eq : ∀ (x y : List A), beqs x y = true → x = y
  | [], y, h => by
    cases y with
    | nil => rfl
    | cons a r => simp [beqs] at h
  | x :: r, y, h => by
    cases y with
    | nil => simp [beqs] at h
    | cons a s =>
      simp [beqs] at h
      rw [beq_eq x a h.1, beqs_eq r s h.2]
end
theorem same_eq {x y : A} (h : A.same x y = true) : x = y := by
  unfold A.same at h
  rw [Bool.or_eq_true] at h
  rcases h with h | h
  · exact beq_eq _ _ h
  · simpa using h
theorem A.same_self (x : A) : A.same x x = true := by
  unfold A.same
  simp
end Go.DM
namespace Go.DM
open Go Go.RowKit

section
variable {C : Cfg} {ρ : Operand → Option A} {o : Oper} {σ σ' : St} {x : A}
def valR : Option R → Option A
  | some (.val x _) => some x
  | _ => none
theorem detIf_pure : ∃ v : Option A, ∀ σ, detIf C ρ o σ = v.map fun a => R.val a σ := by
  unfold detIf
  by_cases hp : plainOps ρ o.op.operands.toList = true
  · simp only [if_pos hp]
    unfold detOp
    cases det C.P (execOp (valOf ρ) o) with
    | none => exact ⟨none, fun _ => rfl⟩
    | some r =>
      cases r with
      | value u =>
        simp only
        cases ofVal u with
        | none => exact ⟨none, fun _ => rfl⟩
        | some a => exact ⟨some a, fun _ => rfl⟩
      | _ => exact ⟨none, fun _ => rfl⟩
  · simp only [if_neg hp]; exact ⟨none, fun _ => rfl⟩
theorem valR_map (v : Option A) (σ : St) : valR (v.map fun a => R.val a σ) = v := by cases v <;> rfl
theorem valR_wrap (v : Option A) (σ : St) : valR (wrapV v σ) = v := by cases v <;> rfl
theorem len_pure {c : Call} (hop : o.op = .call c) (hq : pureQ ρ o = true) : c.callee = .builtin .len ∧ ∃ y a, c.args.toList = [y] ∧ ρ y = some a ∧ ((∃ z cs ap, a = .sl z cs ap) ∨ (∃ u, a = .v u) ∨ ∃ b o l k, a = .ms b o l k) := by
  unfold pureQ at hq
  simp only [hop] at hq
  split at hq
  · rename_i y h1 h2
    refine ⟨h1, y, ?_⟩
    split at hq
    · rename_i hx; exact ⟨_, h2, hx, .inl ⟨_, _, _, rfl⟩⟩
    · rename_i hx; exact ⟨_, h2, hx, .inr (.inl ⟨_, rfl⟩)⟩
    · rename_i hx; exact ⟨_, h2, hx, .inr (.inr ⟨_, _, _, _, rfl⟩)⟩
    · cases hq
  · cases hq
theorem op_pureV (hq : pureQ ρ o = true) : valR (op C ρ o σ) = valR (op C ρ o σ') := by
  obtain ⟨v, hv⟩ := detIf_pure (C := C) (ρ := ρ) (o := o)
  have hq0 := hq
  unfold pureQ at hq
  cases hop : o.op <;> simp only [hop] at hq <;> first | cases hq | skip
  case call c =>
    obtain ⟨h1, y, a, h2, h3, h4⟩ := len_pure hop hq0
    simp only [op, hop, h1, builtinOp, h2, h3, hv]
    rcases h4 with ⟨z, cs, ap, rfl⟩ | ⟨u, rfl⟩ | ⟨b, o, l, k, rfl⟩
    · cases c.argTypes[0]? with
      | none => rfl
      | some t =>
        simp only [lenA]
        cases C.P.underlying t with
        | none => simp only [valR_map]
        | some d => cases d <;> first | rfl | (cases v <;> rfl)
    · cases c.argTypes[0]? with
      | none => rfl
      | some t =>
        simp only [lenA]
        cases C.P.underlying t with
        | none => simp only [valR_map]
        | some d => cases d <;> first | rfl | (cases v <;> rfl)
    · cases c.argTypes[0]? with
      | none => rfl
      | some t =>
        simp only [lenA]
        cases C.P.underlying t with
        | none => simp only [valR_map]
        | some d => cases d <;> first | rfl | (cases v <;> rfl)
  all_goals simp only [op, hop, hv]
  all_goals first
    | (split at hq
       · rename_i hx
         simp only [hx, loadOp]
         simp only [valR_wrap]
       · cases hq)
    | (repeat' split) <;> first | rfl | simp only [valR_map, valR_wrap] | skip
theorem opQ_pure (hq : pureQ ρ o = true) (h : opQ C ρ o σ = some x) : opQ C ρ o σ' = some x := by
  have hv := op_pureV (C := C) (σ := σ) (σ' := σ') hq
  have hq0 := hq
  unfold pureQ at hq
  unfold opQ at h ⊢
  have fin : valR (op C ρ o σ) = some x → ∃ s, op C ρ o σ' = some (.val x s) := by
    intro e
    rw [hv] at e
    cases ho : op C ρ o σ' with
    | none => rw [ho] at e; cases e
    | some r => rw [ho] at e; cases r <;> first | (cases e; exact ⟨_, rfl⟩) | cases e
  have back : (∃ s, op C ρ o σ = some (.val x s)) → valR (op C ρ o σ) = some x := by rintro ⟨s, hs⟩; rw [hs]; rfl
  cases hop : o.op <;> simp only [hop] at hq h ⊢ <;> first | cases hq | skip
  case call c =>
    obtain ⟨h1, _⟩ := len_pure hop hq0
    simp only [h1] at h ⊢
    split at h
    · rename_i y s hs; cases h
      obtain ⟨s', hs'⟩ := fin (back ⟨_, hs⟩)
      simp only [hs']
    · cases h
  all_goals
    split at h
    · rename_i y s hs; cases h
      obtain ⟨s', hs'⟩ := fin (back ⟨_, hs⟩)
      simp only [hs']
    · cases h
end

/-- the edges -/
def befVal (acc : Array Nat) (o : Oper) : Nat := o.after.foldl (fun s e => if Region.binds .any e then s ||| 2 ^ e.on ||| acc.getD e.on 0 else s) 0
def befF (acc : Array Nat) (o : Oper) : Array Nat := acc.push (befVal acc o)
theorem before_eq (ops : Array Oper) : Region.before ops = ops.toList.foldl befF #[] := by
  unfold Region.before
  rw [← Array.foldl_toList]
  rfl
theorem befF_size : ∀ (l : List Oper) (acc : Array Nat), (l.foldl befF acc).size = acc.size + l.length
  | [], acc => rfl
  | o :: l, acc => by simp only [List.foldl_cons, befF_size l, befF, Array.size_push, List.length_cons]; omega
theorem befF_keep : ∀ (l : List Oper) (acc : Array Nat) (i : Nat), i < acc.size → (l.foldl befF acc).getD i 0 = acc.getD i 0
  | [], acc, i, _ => rfl
  | o :: l, acc, i, h => by
    simp only [List.foldl_cons]
    rw [befF_keep l (befF acc o) i (by simp [befF]; omega)]
    simp [befF, Array.getD_eq_getD_getElem?, Array.getElem?_push, Nat.ne_of_lt h]
theorem befF_at : ∀ (l : List Oper) (acc : Array Nat) (i : Nat) (o : Oper), l[i]? = some o → (l.foldl befF acc).getD (acc.size + i) 0 = befVal ((l.take i).foldl befF acc) o
  | [], acc, i, o, h => by simp at h
  | p :: l, acc, 0, o, h => by
    simp at h; subst h
    simp only [List.foldl_cons, Nat.add_zero, List.take_zero, List.foldl_nil]
    rw [befF_keep l (befF acc p) acc.size (by simp [befF])]
    simp [befF, Array.getD_eq_getD_getElem?]
  | p :: l, acc, i + 1, o, h => by
    simp only [List.foldl_cons, List.take_succ_cons]
    have := befF_at l (befF acc p) i o (by simpa using h)
    rw [← this]
    congr 1
    simp [befF]; omega
theorem befVal_bit (acc : Array Nat) (o : Oper) (p : Nat) (h : (befVal acc o).testBit p = true) : ∃ e ∈ o.after, Region.binds .any e = true ∧ (p = e.on ∨ (acc.getD e.on 0).testBit p = true) := by
  unfold befVal at h
  rw [← Array.foldl_toList] at h
  have key : ∀ (l : List Edge) (s : Nat), (l.foldl (fun s e => if Region.binds .any e then s ||| 2 ^ e.on ||| acc.getD e.on 0 else s) s).testBit p = true → s.testBit p = true ∨ ∃ e ∈ l, Region.binds .any e = true ∧ (p = e.on ∨ (acc.getD e.on 0).testBit p = true) := by
    intro l
    induction l with
    | nil => intro s h; exact .inl h
    | cons e l ih =>
      intro s h
      simp only [List.foldl_cons] at h
      rcases ih _ h with h | ⟨e', h1, h2⟩
      · split at h
        · rename_i hb
          simp only [Nat.testBit_or, Bool.or_eq_true, Nat.testBit_two_pow, decide_eq_true_eq] at h
          rcases h with (h | h) | h
          · exact .inl h
          · exact .inr ⟨e, by simp, hb, .inl h.symm⟩
          · exact .inr ⟨e, by simp, hb, .inr h⟩
        · exact .inl h
      · exact .inr ⟨e', by simp [h1], h2⟩
  rcases key _ _ h with h | ⟨e, h1, h2⟩
  · simp at h
  · exact ⟨e, by simpa using h1, h2⟩

/-- what the text tells of a region -/
structure TextOk (ops : Array Oper) : Prop where
  on : ∀ j o e, ops[j]? = some o → e ∈ o.after → Region.binds .any e = true → e.on < j
  loud : ∀ i j p o, i ≠ j → ops[i]? = some p → ops[j]? = some o → isQuiet p = false → isQuiet o = false → bfr (Region.before ops) i j = true ∨ bfr (Region.before ops) j i = true
  slot : ∀ i j p o d, i ≠ j → ops[i]? = some p → ops[j]? = some o → p.dst = some d → d ∈ slotsOf ops o → bfr (Region.before ops) i j = true ∨ bfr (Region.before ops) j i = true

theorem textOk {ops : Array Oper} (h : drawOk ops (Region.before ops) = true) : TextOk ops := by
  unfold drawOk at h
  rw [List.all_eq_true] at h
  have lt : ∀ {j : Nat} {o : Oper}, ops[j]? = some o → j ∈ List.range ops.size := fun h => List.mem_range.2 (Array.getElem?_eq_some_iff.1 h).1
  have pair : ∀ {i j : Nat} {p o : Oper}, i ≠ j → ops[i]? = some p → ops[j]? = some o → ((isQuiet p || isQuiet o || bfr (Region.before ops) i j || bfr (Region.before ops) j i) &&
            (match p.dst with
              | some d => !(slotsOf ops o).contains d || bfr (Region.before ops) i j || bfr (Region.before ops) j i
              | none => true)) = true := by
    intro i j p o hne hi hj
    have h1 := h j (lt hj)
    rw [hj] at h1
    simp only [Bool.and_eq_true] at h1
    have h2 := (List.all_eq_true.1 h1.2) i (lt hi)
    rw [hi] at h2
    simp only at h2
    rw [beq_false_of_ne hne, Bool.false_or] at h2
    exact h2
  refine ⟨fun j o e hj he hb => ?_, fun i j p o hne hi hj hp ho => ?_, fun i j p o d hne hi hj hd hs => ?_⟩
  · have h1 := h j (lt hj)
    rw [hj] at h1
    simp only [Bool.and_eq_true, Array.all_eq_true_iff_forall_mem] at h1
    have := h1.1 e he
    simpa [hb] using this
  · have := pair hne hi hj
    simp only [Bool.and_eq_true, hp, ho, Bool.false_or, Bool.or_eq_true] at this
    exact this.1
  · have := pair hne hi hj
    simp only [Bool.and_eq_true, hd] at this
    have h2 := this.2
    simp only [Bool.or_eq_true, Bool.not_eq_true', List.contains_eq_mem, decide_eq_false_iff_not] at h2
    rcases h2 with (h2 | h2) | h2
    · exact absurd hs h2
    · exact .inl h2
    · exact .inr h2

theorem bfr_spec {ops : Array Oper} (hT : TextOk ops) {p i : Nat} (h : bfr (Region.before ops) p i = true) : ∃ o, ops[i]? = some o ∧ ∃ e ∈ o.after, Region.binds .any e = true ∧ (p = e.on ∨ bfr (Region.before ops) p e.on = true) := by
  unfold bfr at h ⊢
  rw [before_eq] at h ⊢
  cases ho : ops.toList[i]? with
  | none =>
    have hlen : ops.toList.length ≤ i := List.getElem?_eq_none_iff.1 ho
    have : (ops.toList.foldl befF #[]).getD i 0 = 0 := by
      rw [Array.getD_eq_getD_getElem?, Array.getElem?_eq_none (by rw [befF_size]; simpa using hlen)]; rfl
    rw [this] at h; simp at h
  | some o =>
    have ho' : ops[i]? = some o := by simpa using ho
    refine ⟨o, ho', ?_⟩
    have h1 := befF_at ops.toList #[] i o ho
    simp only [List.size_toArray, List.length_nil, Nat.zero_add] at h1
    rw [h1] at h
    obtain ⟨e, h2, h3, h4⟩ := befVal_bit _ _ _ h
    refine ⟨e, h2, h3, h4.imp id (fun h4 => ?_)⟩
    have hon := hT.on i o e ho' h2 h3
    have hi : i < ops.size := (Array.getElem?_eq_some_iff.1 ho').1
    have hk := befF_keep (ops.toList.drop i) ((ops.toList.take i).foldl befF #[]) e.on (by rw [befF_size]; simp; omega)
    rw [← List.foldl_append, List.take_append_drop] at hk
    rw [hk]; exact h4
theorem bfr_lt {ops : Array Oper} (hT : TextOk ops) : ∀ (i p : Nat), bfr (Region.before ops) p i = true → p < i := by
  intro i
  induction i using Nat.strongRecOn with
  | _ i ih =>
    intro p h
    obtain ⟨o, h1, e, h2, h3, h4⟩ := bfr_spec hT h
    have hon := hT.on i o e h1 h2 h3
    rcases h4 with rfl | h4
    · exact hon
    · exact Nat.lt_trans (ih e.on hon p h4) hon

/-- the run in the text's order -/
structure Ent where
  φ : Fr
  σ : St
  x : A

section
variable {C : Cfg} {w0 : World} {callF : CallF} {n : Nat} {ops : Array Oper}

def Fact (C : Cfg) (callF : CallF) (n : Nat) (ops : Array Oper) (e : Nat → Ent) (i : Nat) (o : Oper) : Prop :=
  putA n (e i).φ o.dst (e i).x = some (e (i + 1)).φ ∧
  ((wantedA ops (e i).φ o = some false ∧ (e i).x = und ∧ (e (i + 1)).σ = (e i).σ) ∨
   (wantedA ops (e i).φ o = some true ∧ isQuiet o = true ∧ opQ C (ev C (e i).φ) o (e i).σ = some (e i).x ∧ (e (i + 1)).σ = (e i).σ) ∨
   (wantedA ops (e i).φ o = some true ∧ isQuiet o = false ∧ loudStep C callF (e i).φ o (e i).σ = some ((e i).x, (e (i + 1)).σ)))
def Qu (ops : Array Oper) (e : Nat → Ent) (i : Nat) (o : Oper) : Prop := wantedA ops (e i).φ o = some true ∧ isQuiet o = true
def Lo (ops : Array Oper) (e : Nat → Ent) (i : Nat) : Prop := ∃ o, ops[i]? = some o ∧ wantedA ops (e i).φ o = some true ∧ isQuiet o = false

structure Trace (C : Cfg) (callF : CallF) (n : Nat) (ops : Array Oper) (bef : Array Nat) (j : Nat) (past : List (Nat × St)) (pend : List (Nat × Fr × Oper × A)) (e : Nat → Ent) : Prop where
  fact : ∀ i o, j ≤ i → ops[i]? = some o → Fact C callF n ops e i o
  past : ∀ i o, j ≤ i → ops[i]? = some o → Qu ops e i o → ∀ x ∈ past, bfr bef x.1 i = true ∨ sameA C (e i).φ o x.2 (e i).x = true
  pastI : ∀ i o, j ≤ i → ops[i]? = some o → Qu ops e i o → ∀ p, j ≤ p → p < i → Lo ops e p → bfr bef p i = true ∨ sameA C (e i).φ o (e p).σ (e i).x = true
  pend : ∀ i, j ≤ i → Lo ops e i → ∀ y ∈ pend, bfr bef y.1 i = true ∨ sameA C y.2.1 y.2.2.1 (e (i + 1)).σ y.2.2.2 = true
  pendI : ∀ i, j ≤ i → Lo ops e i → ∀ q o, j ≤ q → q < i → ops[q]? = some o → Qu ops e q o → bfr bef q i = true ∨ sameA C (e q).φ o (e (i + 1)).σ (e q).x = true

def consE (j : Nat) (a : Ent) (e : Nat → Ent) : Nat → Ent := fun i => if i = j then a else e i
theorem consE_at (j : Nat) (a : Ent) (e : Nat → Ent) : consE j a e j = a := by simp [consE]
theorem consE_ne {j i : Nat} (a : Ent) (e : Nat → Ent) (h : j + 1 ≤ i) : consE j a e i = e i := by
  have : ¬ i = j := by omega
  simp [consE, this]

theorem trace_cons {bef : Array Nat} {j : Nat} {past past' : List (Nat × St)} {pend pend' : List (Nat × Fr × Oper × A)} {e : Nat → Ent} {a : Ent} {o : Oper} (ho : ops[j]? = some o)
    (h : Trace C callF n ops bef (j + 1) past' pend' e) (hf : Fact C callF n ops (consE j a e) j o) (hp : ∀ x ∈ past, x ∈ past') (hq : ∀ x ∈ pend, x ∈ pend')
    (h1 : wantedA ops a.φ o = some true → isQuiet o = true → (∀ x ∈ past, bfr bef x.1 j = true ∨ sameA C a.φ o x.2 a.x = true) ∧ (j, a.φ, o, a.x) ∈ pend')
    (h2 : wantedA ops a.φ o = some true → isQuiet o = false → (∀ y ∈ pend, bfr bef y.1 j = true ∨ sameA C y.2.1 y.2.2.1 (e (j + 1)).σ y.2.2.2 = true) ∧ (j, a.σ) ∈ past') :
    Trace C callF n ops bef j past pend (consE j a e) := by
  have hn : ∀ {i}, j ≤ i → i ≠ j → j + 1 ≤ i := fun h h' => by omega
  have lo : ∀ {i}, j + 1 ≤ i → Lo ops (consE j a e) i → Lo ops e i := fun hi ⟨p, q1, q2⟩ => ⟨p, q1, by rw [consE_ne a e hi] at q2; exact q2⟩
  have qu : ∀ {i p}, j + 1 ≤ i → Qu ops (consE j a e) i p → Qu ops e i p := fun hi q => by unfold Qu at q ⊢; rw [consE_ne a e hi] at q; exact q
  have loj : Lo ops (consE j a e) j → wantedA ops a.φ o = some true ∧ isQuiet o = false := by
    rintro ⟨p, q1, q2⟩
    rw [ho] at q1; cases q1
    rw [consE_at] at q2; exact q2
  have quj : ∀ {p}, ops[j]? = some p → Qu ops (consE j a e) j p → p = o ∧ wantedA ops a.φ o = some true ∧ isQuiet o = true := by
    intro p q1 q2
    rw [ho] at q1; cases q1
    unfold Qu at q2
    rw [consE_at] at q2; exact ⟨rfl, q2⟩
  refine ⟨fun i p hi hip => ?_, fun i p hi hip hqu x hx => ?_, fun i p hi hip hqu q hq1 hq2 hlo => ?_, fun i hi hlo y hy => ?_, fun i hi hlo q p hq1 hq2 hqp hqu => ?_⟩
  · by_cases hij : i = j
    · subst hij; rw [ho] at hip; cases hip; exact hf
    · have hi' := hn hi hij
      have := h.fact i p hi' hip
      unfold Fact at this ⊢
      rw [consE_ne a e hi', consE_ne a e (Nat.le_succ_of_le hi')]; exact this
  · by_cases hij : i = j
    · subst hij
      obtain ⟨rfl, q1, q2⟩ := quj hip hqu
      rw [consE_at]
      exact (h1 q1 q2).1 x hx
    · have hi' := hn hi hij
      have := h.past i p hi' hip (qu hi' hqu) x (hp x hx)
      rw [consE_ne a e hi']; exact this
  · have hij : i ≠ j := by omega
    have hi' := hn hi hij
    rw [consE_ne a e hi']
    by_cases hqj : q = j
    · subst hqj
      obtain ⟨q1, q2⟩ := loj hlo
      rw [consE_at]
      exact h.past i p hi' hip (qu hi' hqu) _ (h2 q1 q2).2
    · have hq' := hn hq1 hqj
      rw [consE_ne a e hq']
      exact h.pastI i p hi' hip (qu hi' hqu) q hq' hq2 (lo hq' hlo)
  · by_cases hij : i = j
    · subst hij
      obtain ⟨q1, q2⟩ := loj hlo
      rw [consE_ne a e (Nat.le_refl _)]
      exact (h2 q1 q2).1 y hy
    · have hi' := hn hi hij
      rw [consE_ne a e (Nat.le_succ_of_le hi')]
      exact h.pend i hi' (lo hi' hlo) y (hq y hy)
  · have hij : i ≠ j := by omega
    have hi' := hn hi hij
    rw [consE_ne a e (Nat.le_succ_of_le hi')]
    by_cases hqj : q = j
    · subst hqj
      obtain ⟨rfl, q1, q2⟩ := quj hqp hqu
      rw [consE_at]
      exact h.pend i hi' (lo hi' hlo) _ (h1 q1 q2).2
    · have hq' := hn hq1 hqj
      rw [consE_ne a e hq']
      exact h.pendI i hi' (lo hi' hlo) q p hq' hq2 hqp (qu hq' hqu)

theorem runDr_trace (bef : Array Nat) : ∀ (l : List Oper) (j : Nat) (φ : Fr) (σ : St) (past : List (Nat × St)) (pend : List (Nat × Fr × Oper × A)) (r : X × Fr × St), (∀ i, l[i]? = ops[j + i]?) →
    runDr C callF n ops bef l j φ σ past pend = some r → ∃ e : Nat → Ent, (e j).φ = φ ∧ (e j).σ = σ ∧ Trace C callF n ops bef j past pend e ∧ r = (.normal, (e (j + l.length)).φ, (e (j + l.length)).σ)
  | [], j, φ, σ, past, pend, r, hl, h => by
    simp only [runDr] at h; cases h
    have none : ∀ i, j ≤ i → ops[i]? = none := fun i hi => by
      have := hl (i - j)
      rw [show j + (i - j) = i by omega] at this
      rw [← this]; simp
    refine ⟨fun _ => ⟨φ, σ, und⟩, rfl, rfl, ⟨fun i o hi ho => ?_, fun i o hi ho => ?_, fun i o hi ho => ?_, fun i hi ⟨o, ho, _⟩ => ?_, fun i hi ⟨o, ho, _⟩ => ?_⟩, rfl⟩
    all_goals rw [none i hi] at ho; cases ho
  | o :: l, j, φ, σ, past, pend, r, hl, h => by
    have h0 : ops[j]? = some o := by simpa using (hl 0).symm
    have hl' : ∀ i, l[i]? = ops[j + 1 + i]? := fun i => by have := hl (i + 1); simpa [Nat.add_assoc, Nat.add_comm 1 i] using this
    have hlen : j + (o :: l).length = j + 1 + l.length := by simp; omega
    have hat : ∀ (a : Ent) (e : Nat → Ent), consE j a e (j + 1 + l.length) = e (j + 1 + l.length) := fun a e => consE_ne a e (by omega)
    simp only [runDr] at h
    split at h
    · rename_i hw
      split at h
      · rename_i hq
        split at h
        case h_2 => cases h
        rename_i x hx
        split at h
        case isFalse => cases h
        rename_i hst
        split at h
        case h_2 => cases h
        rename_i φ' hp
        obtain ⟨e, g1, g2, g3, g4⟩ := runDr_trace bef l (j + 1) φ' σ past ((j, φ, o, x) :: pend) r hl' h
        refine ⟨consE j ⟨φ, σ, x⟩ e, by rw [consE_at], by rw [consE_at], ?_, by rw [hlen, hat]; exact g4⟩
        refine trace_cons h0 g3 ?_ (fun _ h => h) (fun _ h => by simp [h]) (fun _ _ => ⟨fun y hy => ?_, by simp⟩) (fun _ h => by rw [hq] at h; cases h)
        · unfold Fact
          rw [consE_at, consE_ne _ _ (Nat.le_refl _), g1, g2]
          exact ⟨hp, .inr (.inl ⟨hw, hq, hx, rfl⟩)⟩
        · have := (List.all_eq_true.1 hst) y hy
          simpa using this
      · rename_i hq
        have hq : isQuiet o = false := by simpa using hq
        split at h
        case h_2 => cases h
        rename_i x σ' hx
        split at h
        case isFalse => cases h
        rename_i hst
        split at h
        case h_2 => cases h
        rename_i φ' hp
        obtain ⟨e, g1, g2, g3, g4⟩ := runDr_trace bef l (j + 1) φ' σ' ((j, σ) :: past) pend r hl' h
        refine ⟨consE j ⟨φ, σ, x⟩ e, by rw [consE_at], by rw [consE_at], ?_, by rw [hlen, hat]; exact g4⟩
        refine trace_cons h0 g3 ?_ (fun _ h => by simp [h]) (fun _ h => h) (fun _ h => by rw [hq] at h; cases h) (fun _ _ => ⟨fun y hy => ?_, by simp⟩)
        · unfold Fact
          rw [consE_at, consE_ne _ _ (Nat.le_refl _), g1, g2]
          exact ⟨hp, .inr (.inr ⟨hw, hq, hx⟩)⟩
        · rw [g2]
          have := (List.all_eq_true.1 hst) y hy
          simpa using this
    · rename_i hw
      split at h
      case h_2 => cases h
      rename_i φ' hp
      obtain ⟨e, g1, g2, g3, g4⟩ := runDr_trace bef l (j + 1) φ' σ past pend r hl' h
      refine ⟨consE j ⟨φ, σ, und⟩ e, by rw [consE_at], by rw [consE_at], ?_, by rw [hlen, hat]; exact g4⟩
      refine trace_cons h0 g3 ?_ (fun _ h => h) (fun _ h => h) (fun h _ => by simp only at h; rw [hw] at h; cases h) (fun h _ => by simp only at h; rw [hw] at h; cases h)
      unfold Fact
      rw [consE_at, consE_ne _ _ (Nat.le_refl _), g1, g2]
      exact ⟨hp, .inl ⟨hw, rfl, rfl⟩⟩
    · cases h
end
end Go.DM
namespace Go.DM
open Go Go.RowKit

def setO (φ : Fr) (d : Option Tmp) (x : A) : Fr := match d with
  | none => φ
  | some t => φ.set t x
theorem at_setO (φ : Fr) (d : Option Tmp) (x : A) (t : Nat) : (setO φ d x).s.get t = if d = some t then some x else φ.s.get t := by
  unfold setO
  split
  · simp
  · rename_i u
    simp only [Fr.set, Tr.get_set]
    by_cases h : t = u
    · subst h; simp
    · have : ¬ u = t := fun e => h e.symm
      simp [h, this]
theorem ds_setO (φ : Fr) (d : Option Tmp) (x : A) : (setO φ d x).ds = φ.ds := by unfold setO; split <;> rfl
theorem putA_eq {n : Nat} {φ φ' : Fr} {d : Option Tmp} {x : A} (h : putA n φ d x = some φ') : φ' = setO φ d x ∧ ∀ ψ : Fr, ∀ y : A, putA n ψ d y = some (setO ψ d y) := by
  unfold putA at h
  split at h
  · cases h; exact ⟨rfl, fun _ _ => rfl⟩
  · split at h
    · rename_i ht; cases h; exact ⟨rfl, fun ψ y => by simp [putA, ht, setO]⟩
    · cases h
theorem FrRel.congr {k : K} {n : Nat} {φ ψ : Fr} {a : Act} (h : FrRel k n φ a) (h1 : ∀ t, ψ.s.get t = φ.s.get t) (h2 : ψ.ds = φ.ds) : FrRel k n ψ a :=
  ⟨h.size, fun t => by have : ψ.at t = φ.at t := by simp only [Fr.at, h1]
                       rw [this]; exact h.slot t, by rw [h2]; exact h.ds⟩

def dstAt (ops : Array Oper) (i : Nat) : Option Tmp := (ops[i]?).bind (·.dst)

section
variable {C : Cfg} {w0 : World} {callF : CallF} {n : Nat} {ops : Array Oper} {e : Nat → Ent}

def loB (ops : Array Oper) (e : Nat → Ent) (i : Nat) : Bool := match ops[i]? with
  | some o => wantedA ops (e i).φ o == some true && !isQuiet o
  | none => false
theorem loB_iff {i : Nat} : loB ops e i = true ↔ Lo ops e i := by
  unfold loB Lo
  cases h : ops[i]? with
  | none => simp
  | some o => simp

def FL (ops : Array Oper) (e : Nat → Ent) (φ : Fr) (L : Nat → Bool) : Nat → Fr
  | 0 => φ
  | m + 1 => if L m then setO (FL ops e φ L m) (dstAt ops m) (e m).x else FL ops e φ L m
def TL (ops : Array Oper) (e : Nat → Ent) (σ : St) (L : Nat → Bool) : Nat → St
  | 0 => σ
  | m + 1 => if L m && loB ops e m then (e (m + 1)).σ else TL ops e σ L m

theorem FL_ds (φ : Fr) (L : Nat → Bool) : ∀ m, (FL ops e φ L m).ds = φ.ds
  | 0 => rfl
  | m + 1 => by
    unfold FL
    split
    · rw [ds_setO, FL_ds φ L m]
    · exact FL_ds φ L m

theorem FL_at {N : Nat} (hφ : ∀ i, i < N → (e (i + 1)).φ = setO (e i).φ (dstAt ops i) (e i).x) (L : Nat → Bool) (j t : Nat) (h : ∀ i, i < N → dstAt ops i = some t → (L i = true ↔ i < j)) :
    ∀ m, m ≤ N → (FL ops e (e 0).φ L m).s.get t = (e (min m j)).φ.s.get t
  | 0, _ => by simp [FL]
  | m + 1, hm => by
    have ih := FL_at hφ L j t h m (by omega)
    unfold FL
    by_cases hd : dstAt ops m = some t
    · have hL := h m (by omega) hd
      by_cases hj : m < j
      · rw [if_pos (hL.2 hj), at_setO, if_pos hd, Nat.min_eq_left (by omega : m + 1 ≤ j), hφ m (by omega), at_setO, if_pos hd]
      · have : ¬ (L m = true) := fun c => hj (hL.1 c)
        rw [if_neg this, ih, Nat.min_eq_right (by omega), Nat.min_eq_right (by omega)]
    · have h1 : (if L m = true then setO (FL ops e (e 0).φ L m) (dstAt ops m) (e m).x else FL ops e (e 0).φ L m).s.get t = (FL ops e (e 0).φ L m).s.get t := by
        split
        · rw [at_setO, if_neg hd]
        · rfl
      rw [h1, ih]
      by_cases hj : m < j
      · rw [Nat.min_eq_left (by omega : m ≤ j), Nat.min_eq_left (by omega : m + 1 ≤ j), hφ m (by omega), at_setO, if_neg hd]
      · rw [Nat.min_eq_right (by omega), Nat.min_eq_right (by omega)]

theorem FL_set (φ : Fr) (L : Nat → Bool) (j t : Nat) (hj : L j = false) (h : ∀ i, j < i → L i = true → dstAt ops i = some t → dstAt ops j ≠ some t) :
    ∀ m, (FL ops e φ (fun i => if i = j then true else L i) m).s.get t = if j < m ∧ dstAt ops j = some t then some (e j).x else (FL ops e φ L m).s.get t
  | 0 => by simp [FL]
  | m + 1 => by
    have ih := FL_set φ L j t hj h m
    unfold FL
    by_cases hm : m = j
    · subst hm
      simp only [if_true, hj, Bool.false_eq_true, if_false, at_setO]
      rw [ih]
      simp
    · simp only [if_neg hm]
      by_cases hL : L m = true
      · simp only [hL, if_true, at_setO]
        by_cases hd : dstAt ops m = some t
        · rw [if_pos hd]
          by_cases hjm : j < m
          · rw [if_neg (fun c => h m hjm hL hd c.2)]
            rw [if_pos hd]
          · rw [if_neg (fun c => by omega)]
            rw [if_pos hd]
        · rw [if_neg hd, if_neg hd, ih]
          by_cases hjm : j < m
          · simp [hjm, Nat.lt_succ_of_lt hjm]
          · have : ¬ j < m + 1 := by omega
            simp [hjm, this]
      · have hL : L m = false := by simpa using hL
        simp only [hL, Bool.false_eq_true, if_false]
        rw [ih]
        by_cases hjm : j < m
        · simp [hjm, Nat.lt_succ_of_lt hjm]
        · have : ¬ j < m + 1 := by omega
          simp [hjm, this]

theorem TL_eq {N : Nat} (hσ : ∀ i, i < N → loB ops e i = false → (e (i + 1)).σ = (e i).σ) (L : Nat → Bool) (q : Nat) (h : ∀ i, i < N → loB ops e i = true → (L i = true ↔ i < q)) :
    ∀ m, m ≤ N → TL ops e (e 0).σ L m = (e (min m q)).σ
  | 0, _ => by simp [TL]
  | m + 1, hm => by
    have ih := TL_eq hσ L q h m (by omega)
    unfold TL
    by_cases hl : loB ops e m = true
    · have hL := h m (by omega) hl
      by_cases hj : m < q
      · rw [if_pos (by simp [hL.2 hj, hl]), Nat.min_eq_left (by omega)]
      · have : ¬ (L m = true) := fun c => hj (hL.1 c)
        rw [if_neg (by simp [this]), ih, Nat.min_eq_right (by omega), Nat.min_eq_right (by omega)]
    · have hl : loB ops e m = false := by simpa using hl
      rw [if_neg (by simp [hl]), ih]
      by_cases hj : m < q
      · rw [Nat.min_eq_left (by omega : m ≤ q), Nat.min_eq_left (by omega : m + 1 ≤ q), hσ m (by omega) hl]
      · rw [Nat.min_eq_right (by omega), Nat.min_eq_right (by omega)]
theorem TL_quiet (σ : St) (L : Nat → Bool) (j : Nat) (hj : loB ops e j = false) : ∀ m, TL ops e σ (fun i => if i = j then true else L i) m = TL ops e σ L m
  | 0 => rfl
  | m + 1 => by
    unfold TL
    rw [TL_quiet σ L j hj m]
    by_cases hm : m = j
    · subst hm; simp [hj]
    · simp [hm]

theorem chain_cut (L : Nat → Bool) (N : Nat) (h : ∀ i i', i < i' → i' < N → loB ops e i = true → loB ops e i' = true → L i' = true → L i = true) : ∀ m, m ≤ N → ∃ q, q ≤ m ∧ ∀ i, i < m → loB ops e i = true → (L i = true ↔ i < q)
  | 0, _ => ⟨0, Nat.le_refl _, fun i hi => by omega⟩
  | m + 1, hm => by
    obtain ⟨q, h1, h2⟩ := chain_cut L N h m (by omega)
    by_cases hl : loB ops e m = true
    · by_cases hL : L m = true
      · refine ⟨m + 1, Nat.le_refl _, fun i hi hli => ⟨fun _ => hi, fun _ => ?_⟩⟩
        by_cases him : i = m
        · subst him; exact hL
        · exact h i m (by omega) (by omega) hli hl hL
      · refine ⟨q, by omega, fun i hi hli => ?_⟩
        by_cases him : i = m
        · subst him; exact ⟨fun c => absurd c hL, fun c => by omega⟩
        · exact h2 i (by omega) hli
    · refine ⟨q, by omega, fun i hi hli => ?_⟩
      by_cases him : i = m
      · subst him; exact absurd hli hl
      · exact h2 i (by omega) hli

theorem walk_up {N : Nat} (hσ : ∀ i, i < N → loB ops e i = false → (e (i + 1)).σ = (e i).σ) (q : Nat) : ∀ d, q + d ≤ N → (e q).σ = (e (q + d)).σ ∨ ∃ p, q ≤ p ∧ p < q + d ∧ loB ops e p = true ∧ (e q).σ = (e p).σ
  | 0, _ => .inl rfl
  | d + 1, h => by
    rcases walk_up hσ q d (by omega) with ih | ⟨p, h1, h2, h3, h4⟩
    · by_cases hl : loB ops e (q + d) = true
      · exact .inr ⟨q + d, by omega, by omega, hl, ih⟩
      · refine .inl (ih.trans ?_)
        exact (hσ (q + d) (by omega) (by simpa using hl)).symm
    · exact .inr ⟨p, h1, by omega, h3, h4⟩
theorem walk_down {N : Nat} (hσ : ∀ i, i < N → loB ops e i = false → (e (i + 1)).σ = (e i).σ) (j : Nat) : ∀ d, j + d ≤ N → (e (j + d)).σ = (e j).σ ∨ ∃ p, j ≤ p ∧ p < j + d ∧ loB ops e p = true ∧ (e (j + d)).σ = (e (p + 1)).σ
  | 0, _ => .inl rfl
  | d + 1, h => by
    by_cases hl : loB ops e (j + d) = true
    · exact .inr ⟨j + d, by omega, by omega, hl, rfl⟩
    · have h0 : (e (j + (d + 1))).σ = (e (j + d)).σ := hσ (j + d) (by omega) (by simpa using hl)
      rcases walk_down hσ j d (by omega) with ih | ⟨p, h1, h2, h3, h4⟩
      · exact .inl (h0.trans ih)
      · exact .inr ⟨p, h1, by omega, h3, h0.trans h4⟩

theorem wantedA_congr {φ ψ : Fr} {o : Oper} (h : ∀ t, t ∈ slotsOf ops o → φ.s.get t = ψ.s.get t) : wantedA ops φ o = wantedA ops ψ o := by
  unfold wantedA
  cases hg : o.guard with
  | none => rfl
  | some jw =>
    obtain ⟨j, want⟩ := jw
    simp only
    have : yieldedA ops φ j = yieldedA ops ψ j := by
      unfold yieldedA
      cases hd : (ops[j]?).bind (·.dst) with
      | none => rfl
      | some d =>
        simp only
        rw [h d (by simp [slotsOf, hg, hd])]
    rw [this]
theorem ev_congr {φ ψ : Fr} {o : Oper} (h : ∀ t, t ∈ slotsOf ops o → φ.s.get t = ψ.s.get t) : ∀ x ∈ o.op.operands, ev C φ x = ev C ψ x := by
  intro x hx
  cases x with
  | tmp t =>
    simp only [ev]
    rw [h t (by
      unfold slotsOf
      refine List.mem_append_left _ (List.mem_append_left _ (List.mem_filterMap.2 ⟨.tmp t, by simpa using hx, rfl⟩)))]
  | _ => rfl

/-- the run in any order -/
theorem any_good (hc : CallOk C w0 callF) (hT : TextOk ops) (hTr : Trace C callF n ops (Region.before ops) 0 [] [] e) {Q : Exit → Act → World → Prop} {k0 : K} (hg0 : GlobOk C k0)
    (hQ : ∀ (k : K) (a : Act), k0.le k → Inv w0 (e ops.size).σ k → FrRel k n (e ops.size).φ a → Q .normal a k.w) :
    ∀ (fuel : Nat) (listed : Array Bool) (rem : List Nat) (k : K) (a : Act), rem.length = fuel → rem.Nodup → listed.size = ops.size → (∀ i, i ∈ rem ↔ i < ops.size ∧ listed.getD i false = false) →
      (∀ p i, i < ops.size → bfr (Region.before ops) p i = true → listed.getD i false = true → listed.getD p false = true) → k0.le k →
      Inv w0 (TL ops e (e 0).σ (listed.getD · false) ops.size) k → FrRel k n (FL ops e (e 0).φ (listed.getD · false) ops.size) a → wpAny C.P .any ops Q fuel listed a k.w := by
  have fact : ∀ i, i < ops.size → ∃ o, ops[i]? = some o ∧ Fact C callF n ops e i o := fun i hi => ⟨ops[i], by simp [hi], hTr.fact i _ (Nat.zero_le _) (by simp [hi])⟩
  have hφ : ∀ i, i < ops.size → (e (i + 1)).φ = setO (e i).φ (dstAt ops i) (e i).x := fun i hi => by
    obtain ⟨o, ho, hf, _⟩ := fact i hi
    rw [(putA_eq hf).1]; simp [dstAt, ho]
  have hσ : ∀ i, i < ops.size → loB ops e i = false → (e (i + 1)).σ = (e i).σ := fun i hi hl => by
    obtain ⟨o, ho, _, hf⟩ := fact i hi
    rcases hf with ⟨_, _, h⟩ | ⟨_, _, _, h⟩ | ⟨h1, h2, _⟩
    · exact h
    · exact h
    · exfalso
      have : loB ops e i = true := loB_iff.2 ⟨o, ho, h1, h2⟩
      rw [hl] at this; cases this
  have lt : ∀ {i : Nat} {o : Oper}, ops[i]? = some o → i < ops.size := fun h => (Array.getElem?_eq_some_iff.1 h).1
  -- the end
  have fin : ∀ (listed : Array Bool) (k : K) (a : Act), listed.size = ops.size → k0.le k → Inv w0 (TL ops e (e 0).σ (listed.getD · false) ops.size) k → FrRel k n (FL ops e (e 0).φ (listed.getD · false) ops.size) a →
      Region.ready .any ops listed = [] → Q .normal a k.w := by
    intro listed k a hsz hk hI hr hrd
    have all : ∀ i, i < ops.size → listed.getD i false = true := by
      intro i
      induction i using Nat.strongRecOn with
      | _ i ih =>
        intro hi
        cases hL : listed.getD i false with
        | true => rfl
        | false =>
          exfalso
          have : i ∈ Region.ready .any ops listed := by
            refine mem_ready.2 ⟨?_, ops[i], by simp [hi], fun ed he hb => ?_⟩
            · have hi' : i < listed.size := by omega
              simp [Array.getD_eq_getD_getElem?, hi'] at hL ⊢; exact hL
            · have hon := hT.on i ops[i] ed (by simp [hi]) he hb
              exact ih _ hon (by omega)
          rw [hrd] at this; cases this
    have hT' := TL_eq (e := e) hσ (listed.getD · false) ops.size (fun i hi _ => ⟨fun _ => hi, fun _ => all i hi⟩) ops.size (Nat.le_refl _)
    rw [Nat.min_self] at hT'
    rw [hT'] at hI
    refine hQ k a hk hI (hr.congr (fun t => ?_) ?_)
    · have := FL_at hφ (listed.getD · false) ops.size t (fun i hi _ => ⟨fun _ => hi, fun _ => all i hi⟩) ops.size (Nat.le_refl _)
      rw [Nat.min_self] at this
      exact this.symm
    · rw [FL_ds]
      have : ∀ m, m ≤ ops.size → (e m).φ.ds = (e 0).φ.ds := by
        intro m
        induction m with
        | zero => intro _; rfl
        | succ m ih => intro hm; rw [hφ m (by omega), ds_setO, ih (by omega)]
      exact this _ (Nat.le_refl _)
  intro fuel
  induction fuel with
  | zero =>
    intro listed rem k a hlen hnd hsz hrem hDC hk hI hr
    have hrd : Region.ready .any ops listed = [] := by
      refine List.eq_nil_iff_forall_not_mem.2 (fun i hi => ?_)
      obtain ⟨h1, o, ho, _⟩ := mem_ready.1 hi
      have hi' := lt ho
      have : i ∈ rem := (hrem i).2 ⟨hi', by
        have hi2 : i < listed.size := by omega
        simp [Array.getD_eq_getD_getElem?, hi2] at h1 ⊢; exact h1⟩
      rw [List.eq_nil_of_length_eq_zero hlen] at this; cases this
    exact ⟨hrd, fin listed k a hsz hk hI hr hrd⟩
  | succ fuel ih =>
    intro listed rem k a hlen hnd hsz hrem hDC hk hI hr
    refine ⟨fin listed k a hsz hk hI hr, fun j hj => ?_⟩
    obtain ⟨hj1, o, ho, hedge⟩ := mem_ready.1 hj
    have hjN := lt ho
    have hjl : j < listed.size := by omega
    have hLj : listed.getD j false = false := by
      simp [Array.getD_eq_getD_getElem?, hjl] at hj1 ⊢; exact hj1
    -- what is ahead of j is done; what is behind j is not
    have ahead : ∀ p, bfr (Region.before ops) p j = true → listed.getD p false = true := by
      intro p hp
      obtain ⟨o', ho', ed, h1, h2, h3⟩ := bfr_spec hT hp
      rw [ho] at ho'; cases ho'
      have h4 := hedge ed h1 h2
      rcases h3 with rfl | h3
      · exact h4
      · exact hDC p ed.on (Nat.lt_trans (hT.on j o ed ho h1 h2) hjN) h3 h4
    have behind : ∀ p, p < ops.size → bfr (Region.before ops) j p = true → listed.getD p false = false := by
      intro p hp hb
      cases h : listed.getD p false with
      | false => rfl
      | true => rw [hDC j p hp hb h] at hLj; cases hLj
    have order : ∀ i, i < ops.size → i ≠ j → (bfr (Region.before ops) i j = true ∨ bfr (Region.before ops) j i = true) → (listed.getD i false = true ↔ i < j) := by
      intro i hi hne hb
      rcases hb with hb | hb
      · exact ⟨fun _ => bfr_lt hT j i hb, fun _ => ahead i hb⟩
      · have := bfr_lt hT i j hb
        exact ⟨fun c => (by rw [behind i hi hb] at c; cases c), fun c => by omega⟩
    have self : (listed.getD j false = true ↔ j < j) := ⟨fun c => (by rw [hLj] at c; cases c), fun c => by omega⟩
    have slots : ∀ t, t ∈ slotsOf ops o → ∀ i, i < ops.size → dstAt ops i = some t → (listed.getD i false = true ↔ i < j) := by
      intro t ht i hi hd
      by_cases hij : i = j
      · subst hij; exact self
      · have hoi : ops[i]? = some ops[i] := by simp [hi]
        refine order i hi hij (hT.slot i j ops[i] o t hij hoi ho ?_ ht)
        simpa [dstAt, hi] using hd
    have hat : ∀ t, t ∈ slotsOf ops o → (FL ops e (e 0).φ (listed.getD · false) ops.size).s.get t = (e j).φ.s.get t := fun t ht => by
      have := FL_at hφ (listed.getD · false) j t (slots t ht) ops.size (Nat.le_refl _)
      rwa [Nat.min_eq_right (Nat.le_of_lt hjN)] at this
    have hwc : wantedA ops (FL ops e (e 0).φ (listed.getD · false) ops.size) o = wantedA ops (e j).φ o := wantedA_congr hat
    have hev := ev_congr (C := C) hat
    -- the list with j
    have hL' : (fun i => (listed.setIfInBounds j true).getD i false) = (fun i => if i = j then true else listed.getD i false) := by
      funext i
      by_cases hij : i = j
      · subst hij; simp [Array.getD_eq_getD_getElem?, hjl]
      · rw [if_neg hij]
        have : j ≠ i := fun e => hij e.symm
        simp [Array.getD_eq_getD_getElem?, this]
    have hL'' : ∀ i, (listed.setIfInBounds j true).getD i false = if i = j then true else listed.getD i false := fun i => congrFun hL' i
    have hfr : ∀ t, (FL ops e (e 0).φ (fun i => (listed.setIfInBounds j true).getD i false) ops.size).s.get t = (setO (FL ops e (e 0).φ (listed.getD · false) ops.size) o.dst (e j).x).s.get t := by
      intro t
      rw [hL', FL_set (e 0).φ (listed.getD · false) j t hLj (fun i hi hL hd hdj => ?_), at_setO]
      · have hdd : dstAt ops j = o.dst := by simp [dstAt, ho]
        rw [hdd]
        simp [hjN]
      · have hdd : o.dst = some t := by simpa [dstAt, ho] using hdj
        have hiN : i < ops.size := by
          rcases Nat.lt_or_ge i ops.size with h | h
          · exact h
          · simp [dstAt, Array.getElem?_eq_none h] at hd
        have := (slots t (by
          unfold slotsOf
          refine List.mem_append_left _ (List.mem_append_right _ ?_)
          rw [hdd]; simp) i hiN hd).1 hL
        omega
    have next : ∀ (k2 : K) (a2 : Act), k.le k2 → Inv w0 (TL ops e (e 0).σ (fun i => (listed.setIfInBounds j true).getD i false) ops.size) k2 → FrRel k2 n (setO (FL ops e (e 0).φ (listed.getD · false) ops.size) o.dst (e j).x) a2 →
        wpAny C.P .any ops Q fuel (listed.setIfInBounds j true) a2 k2.w := by
      intro k2 a2 h1 h2 h3
      have hjm : j ∈ rem := (hrem j).2 ⟨hjN, hLj⟩
      refine ih (listed.setIfInBounds j true) (rem.erase j) k2 a2 (by rw [List.length_erase_of_mem hjm]; omega) (hnd.erase _) (by simp [hsz]) (fun i => ?_) (fun p i hi hb hL => ?_) (hk.trans h1) h2 (h3.congr hfr (by rw [FL_ds, ds_setO, FL_ds]))
      · rw [hnd.mem_erase_iff, hrem i, hL'' i]
        by_cases hij : i = j
        · subst hij; simp
        · simp [hij]
      · rw [hL'' p]
        rw [hL'' i] at hL
        by_cases hpj : p = j
        · simp [hpj]
        · rw [if_neg hpj]
          by_cases hij : i = j
          · subst hij; exact ahead p hb
          · rw [if_neg hij] at hL
            exact hDC p i hi hb hL
    obtain ⟨hput, hf⟩ := hTr.fact j o (Nat.zero_le _) ho
    have hput' : ∀ ψ : Fr, ∀ y : A, putA n ψ o.dst y = some (setO ψ o.dst y) := (putA_eq hput).2
    unfold wpOp
    rw [ho]
    simp only
    rcases hf with ⟨h1, h2, _⟩ | ⟨h1, h2, h3, _⟩ | ⟨h1, h2, h3⟩
    · rw [wanted_good hr (hwc.trans h1)]
      simp only [Bool.false_eq_true, if_false]
      have hl : loB ops e j = false := by simp [loB, ho, h1]
      refine next k _ (K.le.refl k) ?_ (hr.put rel_und (by rw [h2]; exact hput' _ _))
      rw [hL', TL_quiet (e 0).σ (listed.getD · false) j hl]
      exact hI
    · rw [wanted_good hr (hwc.trans h1)]
      simp only [if_true]
      refine Or.inl ?_
      have hl : loB ops e j = false := by simp [loB, ho, h2]
      -- the blocks
      have hcut : ∃ q, q ≤ ops.size ∧ ∀ i, i < ops.size → loB ops e i = true → (listed.getD i false = true ↔ i < q) := by
        refine chain_cut (listed.getD · false) ops.size (fun i i' hii hi' hl1 hl2 hL => ?_) ops.size (Nat.le_refl _)
        obtain ⟨oi, q1, q2, q3⟩ := loB_iff.1 hl1
        obtain ⟨oi', q4, q5, q6⟩ := loB_iff.1 hl2
        rcases hT.loud i i' oi oi' (by omega) q1 q4 q3 q6 with hb | hb
        · exact hDC i i' hi' hb hL
        · have := bfr_lt hT i i' hb; omega
      obtain ⟨q, hq1, hq2⟩ := hcut
      have hTq := TL_eq (e := e) hσ (listed.getD · false) q hq2 ops.size (Nat.le_refl _)
      rw [Nat.min_eq_right hq1] at hTq
      have hsame : ∀ σ', (σ' = (e j).σ ∨ sameA C (e j).φ o σ' (e j).x = true) → opQ C (ev C (e j).φ) o σ' = some (e j).x := by
        intro σ' h
        rcases h with rfl | h
        · exact h3
        · unfold sameA at h
          rw [Bool.or_eq_true] at h
          rcases h with h | h
          · exact opQ_pure h h3
          · split at h
            · rename_i y hy; rw [hy, same_eq h]
            · cases h
      have hst : (e q).σ = (e j).σ ∨ sameA C (e j).φ o (e q).σ (e j).x = true := by
        rcases Nat.le_total q j with hqj | hqj
        · rcases walk_up hσ q (j - q) (by omega) with h | ⟨p, g1, g2, g3, g4⟩
          · rw [show q + (j - q) = j by omega] at h
            exact .inl h
          · right
            rw [g4]
            rcases hTr.pastI j o (Nat.zero_le _) ho ⟨h1, h2⟩ p (Nat.zero_le _) (by omega) (loB_iff.1 g3) with h | h
            · have c := (hq2 p (by omega) g3).1 (ahead p h)
              omega
            · exact h
        · rcases walk_down hσ j (q - j) (by omega) with h | ⟨p, g1, g2, g3, g4⟩
          · rw [show j + (q - j) = q by omega] at h
            exact .inl h
          · right
            rw [show j + (q - j) = q by omega] at g4
            rw [g4]
            have hpj : j < p := by
              rcases Nat.lt_or_ge j p with h | h
              · exact h
              · have : p = j := by omega
                subst this; rw [hl] at g3; cases g3
            rcases hTr.pendI p (Nat.zero_le _) (loB_iff.1 g3) j o (Nat.zero_le _) hpj ho ⟨h1, h2⟩ with h | h
            · have c := (hq2 p (by omega) g3).2 (by omega)
              rw [behind p (by omega) h] at c; cases c
            · exact h
      have hop : op C (ev C (FL ops e (e 0).φ (listed.getD · false) ops.size)) o (TL ops e (e 0).σ (listed.getD · false) ops.size) = some (.val (e j).x (TL ops e (e 0).σ (listed.getD · false) ops.size)) := by
        rw [op_congr hev]
        refine opQ_op (hsame _ ?_) h2
        rw [hTq]; exact hst
      refine oper_good hc hI (hg0.mono hk) hr hop ⟨_, hput' _ _, fun k2 a2 g1 g2 g3 => next k2 a2 g1 ?_ g3⟩
      rw [hL', TL_quiet (e 0).σ (listed.getD · false) j hl]
      exact g2
    · rw [wanted_good hr (hwc.trans h1)]
      simp only [if_true]
      refine Or.inl ?_
      have hl : loB ops e j = true := loB_iff.2 ⟨o, ho, h1, h2⟩
      have hlo : ∀ i, i < ops.size → i ≠ j → loB ops e i = true → (listed.getD i false = true ↔ i < j) := by
        intro i hi hij hli
        obtain ⟨oi, q1, q2, q3⟩ := loB_iff.1 hli
        exact order i hi hij (hT.loud i j oi o hij q1 ho q3 h2)
      have hTj := TL_eq (e := e) hσ (listed.getD · false) j (fun i hi hli => by
        by_cases hij : i = j
        · subst hij; exact self
        · exact hlo i hi hij hli) ops.size (Nat.le_refl _)
      rw [Nat.min_eq_right (Nat.le_of_lt hjN)] at hTj
      have hTj' : TL ops e (e 0).σ (fun i => (listed.setIfInBounds j true).getD i false) ops.size = (e (j + 1)).σ := by
        rw [hL']
        have := TL_eq (e := e) hσ (fun i => if i = j then true else listed.getD i false) (j + 1) (fun i hi hli => by
          by_cases hij : i = j
          · subst hij; simp
          · simp only [if_neg hij]
            have := hlo i hi hij hli
            exact ⟨fun c => by have := this.1 c; omega, fun c => this.2 (by omega)⟩) ops.size (Nat.le_refl _)
        rwa [Nat.min_eq_right (by omega)] at this
      rw [hTj] at hI
      rw [hTj'] at next
      unfold loudStep at h3
      split at h3
      · rename_i x σ' hop
        cases h3
        rw [← op_congr hev] at hop
        exact oper_good hc hI (hg0.mono hk) hr hop ⟨_, hput' _ _, fun k2 a2 g1 g2 g3 => next k2 a2 g1 g2 g3⟩
      · rename_i σ' hop
        rw [← op_congr hev] at hop
        have hx : (e j).x = und := (Prod.mk.inj (Option.some.inj h3)).1.symm
        have hs' : (e (j + 1)).σ = σ' := (Prod.mk.inj (Option.some.inj h3)).2.symm
        rw [hs'] at next
        rw [hx] at next
        exact oper_good hc hI (hg0.mono hk) hr hop ⟨_, hput' _ _, fun k2 a2 g1 g2 g3 => next k2 a2 g1 g2 g3⟩
      · rename_i f args σ' hop
        rw [← op_congr hev] at hop
        split at h3
        · rename_i x σ'' hcf
          have hx : x = (e j).x := (Prod.mk.inj (Option.some.inj h3)).1
          have hs' : σ'' = (e (j + 1)).σ := (Prod.mk.inj (Option.some.inj h3)).2
          subst hx; subst hs'
          exact oper_good hc hI (hg0.mono hk) hr hop ⟨.ret (e j).x, _, hcf, _, hput' _ _, fun k2 a2 g1 g2 g3 => next k2 a2 g1 g2 g3⟩
        · cases h3
      · cases h3

theorem drOk (hm : C.P.follows .mixedOrders = true) : DrOk C w0 := by
  intro callF hc n ops φ σ k a r id Q hd h hI hg hr hQ
  have hT := textOk hd
  obtain ⟨e, g1, g2, g3, g4⟩ := runDr_trace (Region.before ops) ops.toList 0 φ σ [] [] r (by simp) h
  refine wp_region_any hm ?_
  obtain ⟨hI', hk⟩ := hI.drew
  have hfalse : ∀ i, (Array.replicate ops.size false).getD i false = false := fun i => by
    rw [Array.getD_eq_getD_getElem?, Array.getElem?_replicate]; split <;> rfl
  have hF : ∀ m, FL ops e (e 0).φ ((Array.replicate ops.size false).getD · false) m = (e 0).φ := by
    intro m
    induction m with
    | zero => rfl
    | succ m ih => unfold FL; rw [if_neg (by simp [hfalse])]; exact ih
  have hTl : ∀ m, TL ops e (e 0).σ ((Array.replicate ops.size false).getD · false) m = (e 0).σ := by
    intro m
    induction m with
    | zero => rfl
    | succ m ih => unfold TL; rw [if_neg (by simp [hfalse])]; exact ih
  refine any_good (k0 := k.wd k.w.drew) hc hT g3 (hg.mono hk) (fun k' a' h1 h2 h3 => hQ _ _ _ ?_) ops.size _ (List.range ops.size) (k.wd k.w.drew) a (by simp) List.nodup_range (by simp) (fun i => by simp [hfalse, List.mem_range]) (fun p i hi hb hL => by rw [hfalse] at hL; cases hL) (K.le.refl _) (by rw [hTl, g2]; exact hI') (by rw [hF, g1]; exact hr.mono hk)
  rw [g4]
  simp only [Nat.zero_add, Array.length_toList]
  exact ⟨rfl, k', rfl, hk.trans h1, h2, h3⟩
end
end Go.DM
namespace Go.DM
open Go Go.RowKit Go.WideShapes Go.ChangeShapes

/-- the state at the call's beginning -/
def σ0 : St := ⟨.nil, 0, .nil, 0⟩
def startFrz (w : World) (c : Nat) : Option Nat := match w.heap[c]? with
  | some (.cells cs _ _) => some cs.size
  | _ => none
def start (w : World) : K := { base := w.heap.size, w := w, blk := fun _ => none, frz := startFrz w, own := fun _ => none, live := fun _ => false }
theorem start_inv (w : World) : Inv w σ0 (start w) := by
  refine ⟨rfl, Below.refl _ _, fun b x h => ?_, fun b h => rfl, fun b c h => ?_, fun b b' c h => ?_, fun c n h => ?_, fun id e h => ?_, fun id h => rfl, fun id c h => ?_, fun id id' e e' c h => ?_, fun id c h => ?_⟩
  · simp [σ0] at h
  · simp [start] at h
  · simp [start] at h
  · simp only [start, startFrz] at h ⊢
    split at h
    · rename_i cs e fr hh; cases h; exact ⟨cs, e, fr, hh, Nat.le_refl _⟩
    · cases h
  · simp [σ0] at h
  · simp [start] at h
  · simp [σ0] at h
  · simp [start] at h

/-- the machine's run is the call's -/
theorem calls_of_run {C : Cfg} (hm : C.P.follows .mixedOrders = true) (hp : C.prim = fun _ => none) {w : World} (hg : GlobOk C (start w)) {f : FuncId} {args : List A} {us : List Value} (hr : RelL (start w) args us) {fuel : Nat} {x : A} {σ' : St}
    (h : call C fuel f args σ0 = some (.ret x, σ')) : Calls C.P f us.toArray w fun e w' => ∃ v k', e = .returned v ∧ Below w.heap.size w w' ∧ Rel k' x v := by
  have hpr : PrimOk C w := fun f g args σ σ' x k us hf => by rw [hp] at hf; cases hf
  refine (call_good (drOk hm) hpr fuel f args σ0 (.ret x) σ' (start w) us h (start_inv w) hg hr).mono (fun e w' he => ?_)
  obtain ⟨k', v, h1, h2, h3, h4, h5⟩ := he
  subst h2
  exact ⟨v, k', h1, h4.below, h5⟩

def isTrue (r : Option (Out × St)) : Bool := match r with
  | some (.ret (.v (.bool true)), _) => true
  | _ => false
/-- a call that comes to true -/
theorem calls_true {C : Cfg} (hm : C.P.follows .mixedOrders = true) (hp : C.prim = fun _ => none) {w : World} (hg : GlobOk C (start w)) {f : FuncId} {args : List A} {us : List Value} (hr : RelL (start w) args us) {fuel : Nat}
    (h : isTrue (call C fuel f args σ0) = true) : Calls C.P f us.toArray w fun e w' => e = .returned (.bool true) ∧ Below w.heap.size w w' := by
  unfold isTrue at h
  split at h
  · rename_i σ' hc
    refine (calls_of_run hm hp hg hr hc).mono (fun e w' ⟨v, k', h1, h2, h3⟩ => ?_)
    have := rel_v_inv h3
    subst this
    exact ⟨h1, h2⟩
  · cases h
theorem glob_none {P : Program} {prim : FuncId → Option (List A → St → Option (A × St))} {k : K} : GlobOk { P := P, glob := fun _ => none, prim := prim } k := fun g a h => by cases h

mutual
/-- a datum's cells (structs, arrays, scalars) -/
def flatD : DataW Unit → List Value
  | .lit l => [l.value]
  | .agg ds => flatDs ds
  | _ => []
def flatDs : List (DataW Unit) → List Value
  | [] => []
  | d :: r => flatD d ++ flatDs r
end
def withCells (vs : Array Value) : Obj → Obj
  | .cells _ t fr => .cells vs t fr
  | o => o
/-- a world that holds the listed variables (tp, te: the types of an error variable's pointer and of what lies behind it) -/
def layWorld (P : Program) (tp te : TypeId) (w : World) : List (String × DataW Unit) → World
  | [] => w
  | (n, d) :: r => match P.globalNamed n with
    | some g => match d with
      | .iface _ (.ptr x) => layWorld P tp te { w with heap := (w.heap.modify g (withCells #[.iface tp (.pointer (some ⟨w.heap.size, 0, none⟩))])).push (.cells (flatD x).toArray te (0, 0)) } r
      | d => layWorld P tp te { w with heap := w.heap.modify g (withCells (flatD d).toArray) } r
    | none => layWorld P tp te w r
theorem layWorld_os (P : Program) (tp te : TypeId) : ∀ (l : List (String × DataW Unit)) (w : World), (layWorld P tp te w l).os = w.os
  | [], _ => rfl
  | (n, d) :: r, w => by
    unfold layWorld
    split
    · split
      · rw [layWorld_os P tp te r]
      · rw [layWorld_os P tp te r]
    · rw [layWorld_os P tp te r]

section
variable {H : Type} {enc : TypeId × Value → H} {P : Program}
theorem post_of_below {f : Func} {s : ChangeSpec} {apart fresh handsOn again : Bool} {W W' : World} {args : Array Value} {v : Value} {ds gs : List (DataW H)} {before pa pv : List MemPlace}
    (hW : DataW.Whole enc P f.params.toList s.vars apart W args.toList ds gs before)
    (hres : ∀ (b : Nat) (sp : Nat → Bool) (hd : Bool), DataW.TrodAll enc P W' b sp hd f.resultTypes.toList (v.resultList f.resultTypes.size) (s.fn H (ds ++ gs)).results [])
    (hargs : ∀ sp : Nat → Bool, (∀ p ∈ before, sp p.block = true) → DataW.TrodAll enc P W' 0 sp true f.params.toList args.toList (s.fn H (ds ++ gs)).args pa)
    (hvars : ∀ sp : Nat → Bool, (∀ p ∈ before, sp p.block = true) → DataW.TrodVars enc P W' sp s.vars (s.fn H (ds ++ gs)).vars pv)
    (hps : before = pa ++ pv) (hb : Below W.heap.size W W')
    (hok : ∀ (j : Nat) (t : TypeId) (r : Value), f.resultTypes[j]? = some t → (v.resultList f.resultTypes.size)[j]? = some r → Value.okWide P W' .any 0 t r) :
    s.post enc P f apart fresh handsOn again W args v W' := by
  have hlt : ∀ p ∈ before, p.block < W.heap.size := fun p hp => hW.lt p hp
  have hold : ∀ p ∈ before, (fun b => decide (b < W.heap.size)) p.block = true := fun p hp => by simpa using hlt p hp
  refine ⟨ds, gs, before, [], pa, pv, hW, hres _ _ _, hargs _ hold, hvars _ hold, World.keptBut_mono (fun p hp => ⟨hp, ?_⟩) (hb.frame (· ∈ before)), fun _ => ?_⟩
  · rw [hps, List.mem_append] at hp
    exact Or.inr hp
  · obtain ⟨_, _, _, _, _, hz, hn⟩ := hW
    refine ⟨hok, _, _, ([] ++ pa) ++ pv, ⟨[] ++ pa, pv, trodAll_append (hargs _ (fun _ _ => rfl)) (hres _ _ _), hvars _ (fun _ _ => rfl), rfl, ?_, ?_⟩, ?_⟩
    · intro b off hp
      have hin : MemPlace.cell b off ∈ before := by rw [hps]; simpa using hp
      rw [hb.frozen (hlt _ hin)]
      exact hz b off hin
    · intro ha
      have := hn ha
      rw [hps] at this
      simpa using this
    · intro p hp _
      rw [hps]
      simpa using hp
end
end Go.DM
namespace Go.DM
open Go Go.RowKit

def tabA (k : IntKind) (zs : List Int) : List A := zs.map fun z => .v (.int k z)
def globOf : List (Nat × IntKind × List Int) → Nat → Option A
  | [], _ => none
  | (g, k, zs) :: r, x => if x = g then some (.sp (tabA k zs) 0 .no) else globOf r x

theorem tab_rel {P : Program} {W : World} {name : String} {k : IntKind} {zs : List Int} {g : Nat} (h : Lib.TabIs P W name k zs) (hg : P.globalNamed name = some g) :
    Rel (start W) (.sp (tabA k zs) 0 .no) (.pointer (some ⟨g, 0, none⟩)) := by
  have hcell : ∀ i, i < zs.length → W.cell? ⟨g, i, none⟩ = some (.int k (zs.getD i 0)) := fun i hi => h.cell hg i hi
  unfold Lib.TabIs World.var? at h
  rw [hg] at h
  simp only [Option.bind_some] at h
  split at h
  · rename_i cs e fr hh
    have hcs : cs = (zs.map fun z => Value.int k z).toArray := Option.some.inj h
    have hf : (start W).frz g = some cs.size := by simp [start, startFrz, hh]
    have hlen : (tabA k zs).length = zs.length := by simp [tabA]
    have := Rel.sp (k := start W) (cs := tabA k zs) (o := 0) (c := g) (i := 0) (n := cs.size) (ap := .no) (fun j => .int k (zs.getD j 0)) hf (by rw [hcs]; simp [tabA]) (fun j a ha => by
      have hj := lt_of_get ha
      rw [Nat.zero_add]
      exact hcell j (by omega)) (fun j a ha => by
      have hj := lt_of_get ha
      have hj' : j < zs.length := by omega
      simp only [tabA, List.getElem?_map, List.getElem?_eq_getElem hj', Option.map_some, Option.some.injEq] at ha
      subst ha
      simp only [List.getD_eq_getElem?_getD, List.getElem?_eq_getElem hj', Option.getD_some]
      exact .v rfl) trivial
    simpa using this
  · cases h

theorem globOf_ok {C : Cfg} {W : World} : ∀ (l : List (Nat × IntKind × List Int)), (∀ x ∈ l, Rel (start W) (.sp (tabA x.2.1 x.2.2) 0 .no) (.pointer (some ⟨x.1, 0, none⟩))) → ∀ g a, globOf l g = some a → Rel (start W) a (.pointer (some ⟨g, 0, none⟩))
  | [], _, g, a, h => by simp [globOf] at h
  | (g', k, zs) :: r, hl, g, a, h => by
    simp only [globOf] at h
    split at h
    · rename_i hg
      cases h
      subst hg
      exact hl (g, k, zs) (List.mem_cons_self ..)
    · exact globOf_ok (C := C) r (fun x hx => hl x (List.mem_cons_of_mem _ hx)) g a h
end Go.DM
