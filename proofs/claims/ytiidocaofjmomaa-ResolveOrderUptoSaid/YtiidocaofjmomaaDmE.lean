/- This text proves rules for the D-machine's runs with open data, and makes calls at closed data functions by hand. No condition. -/
import Derived.Test.YtiidocaofjmomaaDmD
import Derived.Lib.SplitLaws
import Derived.Lib.SlTrimSet
import Derived.Lib.Bytealg
import Derived.Lib.AtoiAll
import Derived.Lib.ItoaNum
import Derived.Lib.IndexMore
import Derived.Lib.Fields
import Derived.LoopN
namespace Go.DM
open Go Go.RowKit

def Fr.le (φ ψ : Fr) : Prop := (∀ t x, φ.s.get t = some x → ψ.s.get t = some x) ∧ ψ.ds = φ.ds
theorem Fr.le.refl (φ : Fr) : φ.le φ := ⟨fun _ _ h => h, rfl⟩
theorem Fr.le.trans {a b c : Fr} (h : a.le b) (g : b.le c) : a.le c := ⟨fun t x e => g.1 t x (h.1 t x e), g.2.trans h.2⟩
def CallF.le (f g : CallF) : Prop := ∀ a b c r, f a b c = some r → g a b c = some r

section
variable {C : Cfg} {ρ₁ ρ₂ : Operand → Option A} {o : Oper} {σ : St} {r : R}

theorem opsOf_some : ∀ {l : List Operand} {as : List A}, opsOf ρ₁ l = some as → ∀ x ∈ l, (ρ₁ x).isSome = true
  | [], _, _, x, hx => by simp at hx
  | y :: l, as, h, x, hx => by
    simp only [opsOf] at h
    split at h
    case h_2 => cases h
    rename_i a ha
    split at h
    case h_2 => cases h
    rename_i l' hl
    rcases List.mem_cons.1 hx with rfl | hx
    · simp [ha]
    · exact opsOf_some hl x hx
theorem partsOf_some : ∀ {l : List (Nat × Operand)} {as : List (Nat × A)}, partsOf ρ₁ l = some as → ∀ x ∈ l, (ρ₁ x.2).isSome = true
  | [], _, _, x, hx => by simp at hx
  | (i, y) :: l, as, h, x, hx => by
    simp only [partsOf] at h
    split at h
    case h_2 => cases h
    rename_i a ha
    split at h
    · cases h
    split at h
    case h_2 => cases h
    rename_i l' hl
    rcases List.mem_cons.1 hx with rfl | hx
    · simp [ha]
    · exact partsOf_some hl x hx
theorem detIf_some (h : detIf C ρ₁ o σ = some r) : ∀ x ∈ o.op.operands, (ρ₁ x).isSome = true := by
  unfold detIf at h
  split at h
  · rename_i hp
    intro x hx
    have := (List.all_eq_true.1 hp) x (Array.mem_toList_iff.2 hx)
    cases hh : ρ₁ x with
    | none => simp [hh] at this
    | some a => rfl
  · cases h

theorem op_some (h : op C ρ₁ o σ = some r) (hp : ∀ c a b, o.op ≠ .pick c a b) : ∀ x ∈ o.op.operands, (ρ₁ x).isSome = true := by
  have hdet : detIf C ρ₁ o σ = some r → ∀ x ∈ o.op.operands, (ρ₁ x).isSome = true := detIf_some
  cases hop : o.op <;> simp only [hop] at hdet hp
  case pick c a b => exact absurd rfl (hp c a b)
  case call c =>
    simp only [op, hop] at h
    intro x hx
    simp only [Op.operands, Call.operands, Array.mem_append] at hx hdet
    split at h
    · rename_i f hc
      simp only [hc] at hx hdet
      split at h
      case h_2 => cases h
      rename_i g first cap as hf has
      rcases hx with hx | hx
      · simp at hx; subst hx; simp [hf]
      · exact opsOf_some has x (by simpa using hx)
    · rename_i b hc
      simp only [hc] at hx hdet
      have hx' : x ∈ c.args.toList := by simpa using hx
      unfold builtinOp at h
      have hdet' : detIf C ρ₁ o σ = some r → (ρ₁ x).isSome = true := fun h => hdet h x hx
      generalize c.args.toList = l at hx' h
      split at h
      · split at h
        case h_2 => cases h
        rename_i h1 h2 _ _
        simp at hx'; rcases hx' with rfl | rfl
        · simp [h1]
        · simp [h2]
      · split at h
        case h_2 => cases h
        rename_i h1 h2 _
        simp at hx'; rcases hx' with rfl | rfl
        · simp [h1]
        · simp [h2]
      · split at h
        case h_2 => cases h
        rename_i h1 _
        simp at hx'; subst hx'; simp [h1]
      · simp at hx'
      · split at h
        case h_2 => cases h
        rename_i h1 h2 _
        simp at hx'; rcases hx' with rfl | rfl
        · simp [h1]
        · simp [h2]
      · split at h
        case h_2 => cases h
        rename_i h1
        simp at hx'; subst hx'; simp [h1]
      · split at h
        case h_2 => cases h
        rename_i h1 h2 _
        simp at hx'; rcases hx' with rfl | rfl
        · simp [h1]
        · simp [h2]
      all_goals first | cases h | exact hdet' h
    · rename_i y name hc
      simp only [hc] at hx
      split at h
      case h_2 => cases h
      rename_i t z as hf has
      rcases hx with hx | hx
      · simp at hx; subst hx; simp [hf]
      · exact opsOf_some has x (by simpa using hx)
  case defer c =>
    simp only [op, hop] at h
    intro x hx
    simp only [Op.operands, Call.operands, Array.mem_append] at hx
    split at h
    · rename_i f hc
      simp only [hc] at hx
      split at h
      case h_2 => cases h
      rename_i g first cap as hf has
      rcases hx with hx | hx
      · simp at hx; subst hx; simp [hf]
      · exact opsOf_some has x (by simpa using hx)
    · cases h
  case build t ps =>
    simp only [op, hop] at h
    split at h
    case h_2 => cases h
    rename_i l hl
    intro x hx
    simp [Op.operands] at hx
    obtain ⟨i, hi⟩ := hx
    exact partsOf_some hl (i, x) (by simpa using hi)
  case buildSlice t n ps =>
    simp only [op, hop] at h
    split at h
    case h_2 => cases h
    rename_i l hl
    intro x hx
    simp [Op.operands] at hx
    obtain ⟨i, hi⟩ := hx
    exact partsOf_some hl (i, x) (by simpa using hi)
  case makeFunc f first cap =>
    simp only [op, hop] at h
    split at h
    case h_2 => cases h
    rename_i l c hl hc
    intro x hx
    simp [Op.operands] at hx
    rcases hx with hx | hx
    · exact opsOf_some hl x (by simpa using hx)
    · exact opsOf_some hc x (by simpa using hx)
  case makeMap t r' => cases r' with
    | none => intro x hx; simp [Op.operands] at hx
    | some y => simp only [op, hop] at h; cases h
  case slice t y lo hi mx =>
    cases mx with
    | some m => simp only [op, hop] at h; cases h
    | none =>
      simp only [op, hop] at h
      split at h
      case h_2 => cases h
      rename_i x' l h' hx hl hh
      intro x hmem
      simp [Op.operands] at hmem
      rcases hmem with rfl | hmem | hmem
      · simp [hx]
      · subst hmem
        simp only [optOf] at hl
        split at hl
        · rename_i a ha; simp [ha]
        · cases hl
      · subst hmem
        simp only [optOf] at hh
        split at hh
        · rename_i a ha; simp [ha]
        · cases hh
  case select cs b => simp only [op, hop] at h; cases h
  case go c => simp only [op, hop] at h; cases h
  case binOp b t x y z =>
    simp only [op, hop] at h
    intro w hw
    simp [Op.operands] at hw
    split at h
    · rename_i hx hy
      rcases hw with rfl | rfl
      · simp [hx]
      · simp [hy]
    · rename_i hx hy
      rcases hw with rfl | rfl
      · simp [hx]
      · simp [hy]
    · exact hdet h w (by simp [Op.operands, hw])
  all_goals
    simp only [op, hop] at h
    intro w hw
    simp [Op.operands] at hw
    try (first
      | (cases h; done)
      | exact hdet h w (by simp [Op.operands, hw])
      | (subst hw; generalize hq : ρ₁ _ = q at h ⊢; cases q <;> first | rfl | (simp at h; done))
      | (obtain ⟨a, ha, _⟩ := wrapV_good h; subst hw; simp [ha]; done)
      | (split at h
         case h_2 => cases h
         first
         | (rename_i h1; subst hw; simp [h1]; done)
         | (rename_i h1 h2; rcases hw with rfl | rfl <;> simp [h1, h2]; done)
         | (rename_i h1 h2 h3; rcases hw with rfl | rfl | rfl <;> simp [h1, h2, h3]; done)))

theorem op_mono (hρ : ∀ x a, ρ₁ x = some a → ρ₂ x = some a) (h : op C ρ₁ o σ = some r) : op C ρ₂ o σ = some r := by
  by_cases hp : ∀ c a b, o.op ≠ .pick c a b
  · have hs := op_some h hp
    rw [← op_congr (ρ₁ := ρ₁) (ρ₂ := ρ₂) (fun x hx => ?_)]
    · exact h
    · obtain ⟨a, ha⟩ := Option.isSome_iff_exists.1 (hs x hx)
      rw [ha, hρ x a ha]
  · have : ∃ c a b, o.op = .pick c a b := by
      cases hop : o.op with
      | pick c a b => exact ⟨c, a, b, rfl⟩
      | _ => exact absurd (fun c a b h => by rw [hop] at h; cases h) hp
    obtain ⟨c, a, b, hop⟩ := this
    simp only [op, hop] at h ⊢
    split at h
    case h_2 => cases h
    rename_i t hc
    rw [hρ _ _ hc]
    simp only
    obtain ⟨x, h1, rfl⟩ := wrapV_good h
    cases t
    · simp only [Bool.false_eq_true, if_false] at h1 ⊢
      rw [hρ _ _ h1]; rfl
    · simp only [if_true] at h1 ⊢
      rw [hρ _ _ h1]; rfl
theorem opQ_mono (hρ : ∀ x a, ρ₁ x = some a → ρ₂ x = some a) {x : A} (h : opQ C ρ₁ o σ = some x) : opQ C ρ₂ o σ = some x := by
  have key : ∀ {y : A}, (match op C ρ₁ o σ with | some (.val x _) => some x | _ => none) = some y → (match op C ρ₂ o σ with | some (.val x _) => some x | _ => none) = some y := by
    intro y h
    split at h
    · rename_i z s hz
      rw [op_mono hρ hz]; exact h
    · cases h
  unfold opQ at h ⊢
  cases hop : o.op <;> simp only [hop] at h ⊢
  case slice t z lo hi mx =>
    have hsome := fun r => op_some (C := C) (ρ₁ := ρ₁) (o := o) (σ := σ) (r := r)
    split at h
    · cases h
    · rename_i hne
      have hz : ∃ a, ρ₁ z = some a := by
        split at h
        · rename_i x' s hx
          exact Option.isSome_iff_exists.1 (hsome _ hx (fun c a b e => by rw [hop] at e; cases e) z (by simp [hop, Op.operands]))
        · cases h
      obtain ⟨a, ha⟩ := hz
      have ha2 := hρ _ _ ha
      split
      · rename_i b p l c hms
        rw [ha2] at hms; cases hms
        exact absurd ha (hne _ _ _ _)
      · exact key h
  case call c =>
    cases hc : c.callee <;> simp only [hc] at h ⊢
    all_goals try (cases h; done)
    rename_i b
    cases b <;> first | (cases h; done) | exact key h
  case buildSlice t len parts =>
    split at h
    · cases h
    · rename_i hm; rw [if_neg hm]; exact key h
  all_goals first | (cases h; done) | exact key h

variable {φ ψ : Fr} {ops : Array Oper} {n : Nat} {callF callG : CallF}
theorem ev_mono (h : φ.le ψ) : ∀ x a, ev C φ x = some a → ev C ψ x = some a := by
  intro x a hx
  cases x with
  | tmp t => exact h.1 t a hx
  | _ => exact hx
theorem wanted_mono (h : φ.le ψ) {b : Bool} (hw : wantedA ops φ o = some b) : wantedA ops ψ o = some b := by
  unfold wantedA at hw ⊢
  split at hw
  · exact hw
  · rename_i j want hg
    split at hw
    · rename_i y hy
      suffices yieldedA ops ψ j = some y by rw [this]; exact hw
      unfold yieldedA at hy ⊢
      split at hy
      · rename_i d hd
        cases hq : φ.s.get d with
        | none => rw [hq] at hy; cases hy
        | some q => rw [h.1 d q hq]; rw [hq] at hy; exact hy
      · exact hy
    · cases hw
theorem set_le (h : φ.le ψ) (t : Nat) (x : A) : (φ.set t x).le (ψ.set t x) := by
  refine ⟨fun u y hu => ?_, h.2⟩
  simp only [Fr.set, Tr.get_set] at hu ⊢
  split at hu
  · rename_i hh; rw [if_pos hh]; exact hu
  · rename_i hh; rw [if_neg hh]; exact h.1 u y hu
theorem put_mono (h : φ.le ψ) {d : Option Tmp} {x : A} {φ' : Fr} (hp : putA n φ d x = some φ') : ∃ ψ', putA n ψ d x = some ψ' ∧ φ'.le ψ' := by
  unfold putA at hp ⊢
  split at hp
  · cases hp; exact ⟨ψ, rfl, h⟩
  · split at hp
    · rename_i t ht
      cases hp
      rw [if_pos ht]
      exact ⟨_, rfl, set_le h t x⟩
    · cases hp

theorem runOps_mono (hc : callF.le callG) : ∀ {l : List Oper} {φ ψ : Fr} {σ : St} {x : X} {φ' : Fr} {σ' : St}, φ.le ψ → runOps C callF n ops l φ σ = some (x, φ', σ') → ∃ ψ', runOps C callG n ops l ψ σ = some (x, ψ', σ') ∧ φ'.le ψ'
  | [], φ, ψ, σ, x, φ', σ', h, hr => by
    simp only [runOps] at hr ⊢; cases hr; exact ⟨ψ, rfl, h⟩
  | o :: l, φ, ψ, σ, x, φ', σ', h, hr => by
    simp only [runOps] at hr ⊢
    split at hr
    · rename_i hw
      rw [wanted_mono h hw]
      simp only
      split at hr
      · rename_i y s ho
        rw [op_mono (ev_mono h) ho]
        simp only
        split at hr
        case h_2 => cases hr
        rename_i φ2 hp
        obtain ⟨ψ2, h1, h2⟩ := put_mono h hp
        rw [h1]
        exact runOps_mono hc h2 hr
      · rename_i s ho
        rw [op_mono (ev_mono h) ho]
        simp only
        split at hr
        case h_2 => cases hr
        rename_i φ2 hp
        obtain ⟨ψ2, h1, h2⟩ := put_mono h hp
        rw [h1]
        exact runOps_mono hc h2 hr
      · rename_i f args s ho
        rw [op_mono (ev_mono h) ho]
        simp only
        split at hr
        · rename_i y s2 hf
          rw [hc _ _ _ _ hf]
          simp only
          split at hr
          case h_2 => cases hr
          rename_i φ2 hp
          obtain ⟨ψ2, h1, h2⟩ := put_mono h hp
          rw [h1]
          exact runOps_mono hc h2 hr
        · rename_i y s2 hf
          rw [hc _ _ _ _ hf]
          cases hr
          exact ⟨ψ, rfl, h⟩
        · cases hr
      · rename_i f args s ho
        rw [op_mono (ev_mono h) ho]
        simp only
        split at hr
        case h_2 => cases hr
        rename_i φ2 hp
        have h' : Fr.le { φ with ds := (f, args) :: φ.ds } { ψ with ds := (f, args) :: ψ.ds } := ⟨h.1, by simp [h.2]⟩
        obtain ⟨ψ2, h1, h2⟩ := put_mono h' hp
        rw [h1]
        exact runOps_mono hc h2 hr
      · rename_i y s ho
        rw [op_mono (ev_mono h) ho]
        cases hr
        exact ⟨ψ, rfl, h⟩
      · cases hr
    · rename_i hw
      rw [wanted_mono h hw]
      simp only
      split at hr
      case h_2 => cases hr
      rename_i φ2 hp
      obtain ⟨ψ2, h1, h2⟩ := put_mono h hp
      rw [h1]
      exact runOps_mono hc h2 hr
    · cases hr

/-- the pending ones, each from a greater frame -/
inductive PendLe : List (Nat × Fr × Oper × A) → List (Nat × Fr × Oper × A) → Prop
  | nil : PendLe [] []
  | cons {j : Nat} {φ ψ : Fr} {o : Oper} {x : A} {l m : List (Nat × Fr × Oper × A)} : φ.le ψ → PendLe l m → PendLe ((j, φ, o, x) :: l) ((j, ψ, o, x) :: m)
theorem pureQ_mono {ρ ρ' : Operand → Option A} (h : ∀ x a, ρ x = some a → ρ' x = some a) (hs : pureQ C ρ o = true) : pureQ C ρ' o = true := by
  unfold pureQ at hs ⊢
  split at hs <;> first | rfl | skip
  · exact hs
  · rename_i t a hop
    split at hs
    · rename_i hx; rw [h _ _ hx]
    · cases hs
  · split at hs
    · split at hs
      · rename_i hx; rw [h _ _ hx]
      · rename_i hx; rw [h _ _ hx]
      · rename_i hx; rw [h _ _ hx]
      · cases hs
    · cases hs
  · cases hs
theorem same_mono (h : φ.le ψ) {x : A} (hs : sameA C φ o σ x = true) : sameA C ψ o σ x = true := by
  unfold sameA at hs ⊢
  rw [Bool.or_eq_true] at hs ⊢
  rcases hs with hs | hs
  · exact .inl (pureQ_mono (ev_mono h) hs)
  · refine .inr ?_
    split at hs
    · rename_i y hy
      rw [opQ_mono (ev_mono h) hy]; exact hs
    · cases hs
theorem stableP_mono (h : φ.le ψ) {bef : Array Nat} {j : Nat} {x : A} {l : List (Nat × St)} (hs : stableP C bef φ o j x l = true) : stableP C bef ψ o j x l = true := by
  unfold stableP at hs ⊢
  rw [List.all_eq_true] at hs ⊢
  intro y hy
  have := hs y hy
  simp only [Bool.or_eq_true] at this ⊢
  exact this.imp id (same_mono h)
theorem stableF_mono {bef : Array Nat} {i : Nat} {σ : St} {l m : List (Nat × Fr × Oper × A)} (h : PendLe l m) (hs : stableF C bef i σ l = true) : stableF C bef i σ m = true := by
  unfold stableF at hs ⊢
  induction h with
  | nil => rfl
  | cons hf _ ih =>
    simp only [List.all_cons, Bool.and_eq_true, Bool.or_eq_true] at hs ⊢
    exact ⟨hs.1.imp id (same_mono hf), ih hs.2⟩
theorem loud_mono (hc : callF.le callG) (h : φ.le ψ) {p : A × St} (hs : loudStep C callF φ o σ = some p) : loudStep C callG ψ o σ = some p := by
  unfold loudStep at hs ⊢
  split at hs
  · rename_i y s ho; rw [op_mono (ev_mono h) ho]; exact hs
  · rename_i s ho; rw [op_mono (ev_mono h) ho]; exact hs
  · rename_i f args s ho
    rw [op_mono (ev_mono h) ho]
    simp only
    split at hs
    · rename_i y s2 hf; rw [hc _ _ _ _ hf]; exact hs
    · cases hs
  · cases hs
theorem runDr_mono (hc : callF.le callG) {bef : Array Nat} : ∀ {l : List Oper} {j : Nat} {φ ψ : Fr} {σ : St} {past : List (Nat × St)} {pend pend' : List (Nat × Fr × Oper × A)} {x : X} {φ' : Fr} {σ' : St}, φ.le ψ → PendLe pend pend' →
    runDr C callF n ops bef l j φ σ past pend = some (x, φ', σ') → ∃ ψ', runDr C callG n ops bef l j ψ σ past pend' = some (x, ψ', σ') ∧ φ'.le ψ'
  | [], j, φ, ψ, σ, past, pend, pend', x, φ', σ', h, hq, hr => by
    simp only [runDr] at hr ⊢; cases hr; exact ⟨ψ, rfl, h⟩
  | o :: l, j, φ, ψ, σ, past, pend, pend', x, φ', σ', h, hq, hr => by
    simp only [runDr] at hr ⊢
    split at hr
    · rename_i hw
      rw [wanted_mono h hw]
      simp only
      split at hr
      · rename_i hqt
        rw [if_pos hqt]
        split at hr
        case h_2 => cases hr
        rename_i y hy
        rw [opQ_mono (ev_mono h) hy]
        simp only
        split at hr
        case isFalse => cases hr
        rename_i hst
        rw [if_pos (stableP_mono h hst)]
        split at hr
        case h_2 => cases hr
        rename_i φ2 hp
        obtain ⟨ψ2, h1, h2⟩ := put_mono h hp
        rw [h1]
        exact runDr_mono hc h2 (.cons h hq) hr
      · rename_i hqt
        rw [if_neg hqt]
        split at hr
        case h_2 => cases hr
        rename_i y s hy
        rw [loud_mono hc h hy]
        simp only
        split at hr
        case isFalse => cases hr
        rename_i hst
        rw [if_pos (stableF_mono hq hst)]
        split at hr
        case h_2 => cases hr
        rename_i φ2 hp
        obtain ⟨ψ2, h1, h2⟩ := put_mono h hp
        rw [h1]
        exact runDr_mono hc h2 hq hr
    · rename_i hw
      rw [wanted_mono h hw]
      simp only
      split at hr
      case h_2 => cases hr
      rename_i φ2 hp
      obtain ⟨ψ2, h1, h2⟩ := put_mono h hp
      rw [h1]
      exact runDr_mono hc h2 hq hr
    · cases hr

theorem pan_mono (hc : callF.le callG) (h : φ.le ψ) {p : A × St} (hs : panStep C callF φ o σ = some p) : loudStep C callG ψ o σ = none ∧ panStep C callG ψ o σ = some p := by
  unfold panStep at hs
  split at hs
  · rename_i f args s ho
    split at hs
    · rename_i v s2 hf
      unfold loudStep panStep
      rw [op_mono (ev_mono h) ho]
      simp only [hc _ _ _ _ hf]
      exact ⟨trivial, hs⟩
    · cases hs
  · cases hs
theorem junkF_le : ∀ {l : List Oper} {φ ψ : Fr}, φ.le ψ → (junkF l φ).le (junkF l ψ)
  | [], _, _, h => h
  | o :: l, φ, ψ, h => junkF_le (l := l) (by
      unfold junkO
      split
      · exact set_le h _ _
      · exact h)
theorem runDv_mono {bef : Array Nat} {p : Nat} : ∀ {l : List Oper} {j : Nat} {φ ψ : Fr} {σ : St} {past : List (Nat × St)}, φ.le ψ → runDv C n ops bef p l j φ σ past = true → runDv C n ops bef p l j ψ σ past = true
  | [], j, φ, ψ, σ, past, h, hr => by simp only [runDv]
  | o :: l, j, φ, ψ, σ, past, h, hr => by
    simp only [runDv] at hr ⊢
    split at hr
    · rename_i hb
      rw [if_pos hb]
      split at hr
      case h_2 => cases hr
      rename_i φ2 hp
      obtain ⟨ψ2, h1, h2⟩ := put_mono h hp
      rw [h1]
      exact runDv_mono h2 hr
    · rename_i hb
      rw [if_neg hb]
      split at hr
      · rename_i hw
        rw [wanted_mono h hw]
        simp only
        split at hr
        case isFalse =>
          rename_i hqt
          rw [if_neg hqt]
          split at hr
          case isFalse => cases hr
          rename_i haz
          rw [if_pos haz]
          split at hr
          case h_2 => cases hr
          rename_i φ2 hp
          obtain ⟨ψ2, h1, h2⟩ := put_mono h hp
          rw [h1]
          exact runDv_mono h2 hr
        rename_i hqt
        rw [if_pos hqt]
        split at hr
        case h_2 => cases hr
        rename_i y hy
        rw [opQ_mono (ev_mono h) hy]
        simp only
        split at hr
        case isFalse => cases hr
        rename_i hst
        rw [if_pos (stableP_mono h hst)]
        split at hr
        case h_2 => cases hr
        rename_i φ2 hp
        obtain ⟨ψ2, h1, h2⟩ := put_mono h hp
        rw [h1]
        exact runDv_mono h2 hr
      · rename_i hw
        rw [wanted_mono h hw]
        simp only
        split at hr
        case h_2 => cases hr
        rename_i φ2 hp
        obtain ⟨ψ2, h1, h2⟩ := put_mono h hp
        rw [h1]
        exact runDv_mono h2 hr
      · cases hr
theorem runDq_mono (hc : callF.le callG) {bef : Array Nat} : ∀ {l : List Oper} {j : Nat} {φ ψ : Fr} {σ : St} {past : List (Nat × St)} {pend pend' : List (Nat × Fr × Oper × A)} {x : X} {φ' : Fr} {σ' : St}, φ.le ψ → PendLe pend pend' →
    runDq C callF n ops bef l j φ σ past pend = some (x, φ', σ') → ∃ ψ', runDq C callG n ops bef l j ψ σ past pend' = some (x, ψ', σ') ∧ φ'.le ψ'
  | [], j, φ, ψ, σ, past, pend, pend', x, φ', σ', h, hq, hr => by
    simp only [runDq] at hr ⊢; cases hr; exact ⟨ψ, rfl, h⟩
  | o :: l, j, φ, ψ, σ, past, pend, pend', x, φ', σ', h, hq, hr => by
    simp only [runDq] at hr ⊢
    split at hr
    · rename_i hw
      rw [wanted_mono h hw]
      simp only
      split at hr
      · rename_i hqt
        rw [if_pos hqt]
        split at hr
        case h_2 => cases hr
        rename_i y hy
        rw [opQ_mono (ev_mono h) hy]
        simp only
        split at hr
        case isFalse => cases hr
        rename_i hst
        rw [if_pos (stableP_mono h hst)]
        split at hr
        case h_2 => cases hr
        rename_i φ2 hp
        obtain ⟨ψ2, h1, h2⟩ := put_mono h hp
        rw [h1]
        exact runDq_mono hc h2 (.cons h hq) hr
      · rename_i hqt
        rw [if_neg hqt]
        split at hr
        · rename_i y s hy
          rw [loud_mono hc h hy]
          simp only
          split at hr
          case isFalse => cases hr
          rename_i hst
          rw [if_pos (stableF_mono hq hst)]
          split at hr
          case h_2 => cases hr
          rename_i φ2 hp
          obtain ⟨ψ2, h1, h2⟩ := put_mono h hp
          rw [h1]
          exact runDq_mono hc h2 hq hr
        · split at hr
          case h_2 => cases hr
          rename_i v s hy
          obtain ⟨e1, e2⟩ := pan_mono hc h hy
          rw [e1, e2]
          simp only
          split at hr
          case h_2 => cases hr
          rename_i φ2 hp
          obtain ⟨ψ2, h1, h2⟩ := put_mono h hp
          rw [h1]
          simp only
          split at hr
          case isFalse => cases hr
          rename_i hdv
          rw [if_pos (runDv_mono h2 hdv)]
          cases hr
          exact ⟨_, rfl, junkF_le h⟩
    · rename_i hw
      rw [wanted_mono h hw]
      simp only
      split at hr
      case h_2 => cases hr
      rename_i φ2 hp
      obtain ⟨ψ2, h1, h2⟩ := put_mono h hp
      rw [h1]
      exact runDq_mono hc h2 hq hr
    · cases hr

theorem adrVal_mono (h : φ.le ψ) {ad : LateAdr} {y : A} (hr : ad.val C φ = some y) : ad.val C ψ = some y := by
  cases ad with
  | fld t x f =>
    unfold LateAdr.val at hr ⊢
    dsimp only at hr ⊢
    split at hr
    case h_2 => cases hr
    rename_i b o h1
    rw [h.1 _ _ h1]; exact hr
  | idx t x i =>
    unfold LateAdr.val at hr ⊢
    dsimp only at hr ⊢
    split at hr
    case h_2 => cases hr
    rename_i h1 h2
    rw [h.1 _ _ h1, h.1 _ _ h2]; exact hr
theorem lateVal_adr {p : LateP} {s z ti v : A} {ad ad' : Option A} {σ : St} {r : A × A × St} (ha : ∀ y, ad = some y → ad' = some y) (hr : lateVal C n p s z ti v ad σ = some r) : lateVal C n p s z ti v ad' σ = some r := by
  cases ad with
  | none =>
    exfalso
    unfold lateVal at hr
    repeat' (split at hr)
    all_goals first | contradiction | cases hr
  | some y => rw [ha y rfl]; exact hr
theorem lateTail_mono (h : φ.le ψ) {p : LateP} {x : X} {φ' : Fr} {σ' : St} (hr : lateTail C n p φ σ = some (x, φ', σ')) : ∃ ψ', lateTail C n p ψ σ = some (x, ψ', σ') ∧ φ'.le ψ' := by
  unfold lateTail at hr ⊢
  split at hr
  case h_2 => cases hr
  rename_i s z ti v h1 h2 h3 h4
  rw [h.1 _ _ h1, h.1 _ _ h2, h.1 _ _ h3, h.1 _ _ h4]
  simp only
  split at hr
  case h_2 => cases hr
  rename_i a y σ3 hv
  cases hr
  rw [lateVal_adr (fun y => adrVal_mono h) hv]
  exact ⟨_, rfl, set_le (set_le (set_le h _ _) _ _) _ _⟩
theorem runOpen_mono (hc : callF.le callG) (h : φ.le ψ) {x : X} {φ' : Fr} {σ' : St} (hr : runOpen C callF n ops φ σ = some (x, φ', σ')) : ∃ ψ', runOpen C callG n ops ψ σ = some (x, ψ', σ') ∧ φ'.le ψ' := by
  unfold runOpen at hr ⊢
  split at hr
  · rename_i hd; rw [if_pos hd]; exact runDq_mono hc h .nil hr
  · rename_i hd
    rw [if_neg hd]
    unfold runLate at hr ⊢
    split at hr
    case h_2 => cases hr
    rename_i p hp
    split at hr
    case isFalse => cases hr
    rename_i hst
    rw [if_pos hst]
    split at hr
    case h_2 => cases hr
    rename_i φ1 σ1 h1
    obtain ⟨ψ1, g1, g2⟩ := runDr_mono hc h .nil h1
    rw [g1]
    exact lateTail_mono g2 hr
theorem lateA_mono (hc : callF.le callG) (h : φ.le ψ) {o1 o2 : Array Oper} {σ' : St} (hr : lateA C callF n o1 o2 φ σ = some σ') : lateA C callG n o1 o2 ψ σ = some σ' := by
  unfold lateA at hr ⊢
  split at hr
  case h_2 => cases hr
  rename_i p hp
  split at hr
  case isFalse => cases hr
  rename_i hst
  rw [if_pos hst]
  split at hr
  case h_2 => cases hr
  rename_i φ1 σ1 h1
  obtain ⟨ψ1, g1, g2⟩ := runDr_mono hc h .nil h1
  rw [g1]
  split at hr
  case h_2 => cases hr
  rename_i h2
  cases hr
  obtain ⟨ψ2, g3, _⟩ := lateTail_mono g2 h2
  simp only [g3]
theorem coinRun_mono (hc : callF.le callG) (h : φ.le ψ) {q : CoinP} {φ' : Fr} {σ' : St} (hr : coinRun C callF n q φ σ = some (φ', σ')) : ∃ ψ', coinRun C callG n q ψ σ = some (ψ', σ') ∧ φ'.le ψ' := by
  unfold coinRun at hr ⊢
  split at hr
  case isFalse => cases hr
  rename_i hd
  rw [if_pos hd]
  split at hr
  case h_2 => cases hr
  rename_i hB hA
  split at hr
  case isFalse => cases hr
  rename_i he
  cases hr
  have hj : (junkF q.ops.toList φ).le (junkF q.ops.toList ψ) := junkF_le h
  obtain ⟨ψ1, g1, _⟩ := runDr_mono hc hj .nil hB
  rw [g1, lateA_mono hc hj hA]
  simp only [if_pos he]
  exact ⟨_, rfl, junkF_le hj⟩
theorem coin_none {a b : Code} {q : CoinP} (h : coinP C n a b = some q) (k : Nat) (φ : Fr) (σ : St) : exec C callF n k a φ σ = none := by
  unfold coinP at h
  split at h
  case h_2 => cases h
  split at h
  case h_2 => cases h
  split at h
  case isFalse => cases h
  rename_i ht
  obtain ⟨_, h1, h2⟩ := ht
  cases k with
  | zero => simp only [exec]
  | succ k =>
    simp only [exec, runOpen, h1, Bool.false_eq_true, if_false]
    unfold runLate
    rw [Option.isNone_iff_eq_none.1 h2]
theorem exec_mono (hc : callF.le callG) : ∀ {k m : Nat} {c : Code} {φ ψ : Fr} {σ : St} {x : X} {φ' : Fr} {σ' : St}, k ≤ m → φ.le ψ → exec C callF n k c φ σ = some (x, φ', σ') → ∃ ψ', exec C callG n m c ψ σ = some (x, ψ', σ') ∧ φ'.le ψ'
  | 0, m, c, φ, ψ, σ, x, φ', σ', hk, h, hr => by simp [exec] at hr
  | k + 1, 0, c, φ, ψ, σ, x, φ', σ', hk, h, hr => by omega
  | k + 1, m + 1, c, φ, ψ, σ, x, φ', σ', hk, h, hr => by
    have ih := @exec_mono hc k m
    have hk' : k ≤ m := by omega
    cases c with
    | skip => simp only [exec] at hr ⊢; cases hr; exact ⟨ψ, rfl, h⟩
    | exit id => simp only [exec] at hr ⊢; cases hr; exact ⟨ψ, rfl, h⟩
    | ret => simp only [exec] at hr ⊢; cases hr; exact ⟨ψ, rfl, h⟩
    | region id ops draw =>
      cases draw with
      | false => simp only [exec] at hr ⊢; exact runOps_mono hc h hr
      | true =>
        simp only [exec] at hr ⊢
        exact runOpen_mono hc h hr
    | seq a b =>
      simp only [exec] at hr ⊢
      split at hr
      · rename_i φ1 σ1 h1
        obtain ⟨ψ1, g1, g2⟩ := ih hk' h h1
        rw [g1]
        exact ih hk' g2 hr
      case h_3 =>
        split at hr
        case h_2 => cases hr
        rename_i q hq
        split at hr
        case h_2 => cases hr
        rename_i hrun
        cases hr
        obtain ⟨ψ1, g1, g2⟩ := coinRun_mono hc h hrun
        rw [coin_none hq]
        simp only [g1]
        exact ⟨ψ1, rfl, g2⟩
      · rename_i r1 hne h1
        cases hr
        obtain ⟨ψ1, g1, g2⟩ := ih hk' h h1
        rw [g1]
        cases x with
        | normal => exact (hne _ _ rfl).elim
        | _ => exact ⟨ψ1, rfl, g2⟩
    | cond y a b =>
      simp only [exec] at hr ⊢
      split at hr
      · rename_i t ht
        rw [ev_mono h _ _ ht]
        exact ih hk' h hr
      · cases hr
    | block id a =>
      simp only [exec] at hr ⊢
      split at hr
      · rename_i j φ1 σ1 h1
        obtain ⟨ψ1, g1, g2⟩ := ih hk' h h1
        rw [g1]
        simp only
        split at hr
        · rename_i hj; rw [if_pos hj]; cases hr; exact ⟨ψ1, rfl, g2⟩
        · rename_i hj; rw [if_neg hj]; cases hr; exact ⟨ψ1, rfl, g2⟩
      · rename_i hne
        obtain ⟨ψ1, g1, g2⟩ := ih hk' h hr
        rw [g1]
        cases x with
        | exit j => exact absurd hr (hne _ _ _)
        | _ => exact ⟨ψ1, rfl, g2⟩
    | loop a =>
      simp only [exec] at hr ⊢
      split at hr
      · rename_i φ1 σ1 h1
        obtain ⟨ψ1, g1, g2⟩ := ih hk' h h1
        rw [g1]
        exact ih hk' g2 hr
      · rename_i hne
        obtain ⟨ψ1, g1, g2⟩ := ih hk' h hr
        rw [g1]
        cases x with
        | normal => exact absurd hr (hne _ _)
        | _ => exact ⟨ψ1, rfl, g2⟩
    | _ => simp only [exec] at hr; cases hr
end
end Go.DM
namespace Go.DM
open Go Go.RowKit

section
variable {C : Cfg} {o : Oper} {φ ψ : Fr} {ops : Array Oper} {n : Nat} {callF callG : CallF}

theorem runOpsS_mono (hc : callF.le callG) : ∀ {l : List Oper} {φ ψ : Fr} {σ : St} {p : Option A} {x : X} {φ' : Fr} {σ' : St} {p' : Option A}, φ.le ψ → runOpsS C callF n ops l φ σ p = some (x, φ', σ', p') → ∃ ψ', runOpsS C callG n ops l ψ σ p = some (x, ψ', σ', p') ∧ φ'.le ψ'
  | [], φ, ψ, σ, p, x, φ', σ', p', h, hr => by
    simp only [runOpsS] at hr ⊢; cases hr; exact ⟨ψ, rfl, h⟩
  | o :: l, φ, ψ, σ, p, x, φ', σ', p', h, hr => by
    simp only [runOpsS] at hr ⊢
    split at hr
    · rename_i hw
      rw [wanted_mono h hw]
      simp only
      split at hr
      · rename_i y s ho
        rw [op_mono (ev_mono h) ho]
        simp only
        split at hr
        case h_2 => cases hr
        rename_i φ2 hp
        obtain ⟨ψ2, h1, h2⟩ := put_mono h hp
        rw [h1]
        exact runOpsS_mono hc h2 hr
      · rename_i s ho
        rw [op_mono (ev_mono h) ho]
        simp only
        split at hr
        case h_2 => cases hr
        rename_i φ2 hp
        obtain ⟨ψ2, h1, h2⟩ := put_mono h hp
        rw [h1]
        exact runOpsS_mono hc h2 hr
      · rename_i f args s ho
        rw [op_mono (ev_mono h) ho]
        simp only
        split at hr
        case h_2 => cases hr
        rename_i y s2 hf
        rw [hc _ _ _ _ hf]
        simp only
        split at hr
        case h_2 => cases hr
        rename_i φ2 hp
        obtain ⟨ψ2, h1, h2⟩ := put_mono h hp
        rw [h1]
        exact runOpsS_mono hc h2 hr
      · rename_i s ho
        rw [op_mono (ev_mono h) ho]
        simp only
        split at hr
        case h_2 => cases hr
        rename_i φ2 hp
        obtain ⟨ψ2, h1, h2⟩ := put_mono h hp
        rw [h1]
        exact runOpsS_mono hc h2 hr
      · cases hr
    · rename_i hw
      rw [wanted_mono h hw]
      simp only
      split at hr
      case h_2 => cases hr
      rename_i φ2 hp
      obtain ⟨ψ2, h1, h2⟩ := put_mono h hp
      rw [h1]
      exact runOpsS_mono hc h2 hr
    · cases hr

theorem execS_eq {k : Nat} {c : Code} {σ : St} {p : Option A} (h1 : ∀ i ops, c ≠ .region i ops false) (h2 : ∀ a b, c ≠ .seq a b) (h3 : ∀ x a b, c ≠ .cond x a b) :
    execS C callF n (k + 1) c φ σ p = match exec C callF n (k + 1) c φ σ with
      | some (.normal, φ', σ') => some (.normal, φ', σ', p)
      | some (.ret, φ', σ') => some (.ret, φ', σ', p)
      | _ => none := by
  cases c with
  | region i ops d => cases d with
    | false => exact absurd rfl (h1 i ops)
    | true => rfl
  | seq a b => exact absurd rfl (h2 a b)
  | cond x a b => exact absurd rfl (h3 x a b)
  | _ => rfl
theorem execS_mono (hc : callF.le callG) : ∀ {k m : Nat} {c : Code} {φ ψ : Fr} {σ : St} {p : Option A} {x : X} {φ' : Fr} {σ' : St} {p' : Option A}, k ≤ m → φ.le ψ → execS C callF n k c φ σ p = some (x, φ', σ', p') → ∃ ψ', execS C callG n m c ψ σ p = some (x, ψ', σ', p') ∧ φ'.le ψ'
  | 0, m, c, φ, ψ, σ, p, x, φ', σ', p', hk, h, hr => by simp [execS] at hr
  | k + 1, 0, c, φ, ψ, σ, p, x, φ', σ', p', hk, h, hr => by omega
  | k + 1, m + 1, c, φ, ψ, σ, p, x, φ', σ', p', hk, h, hr => by
    have ih := @execS_mono hc k m
    have hk' : k ≤ m := by omega
    have other : (∀ i ops, c ≠ .region i ops false) → (∀ a b, c ≠ .seq a b) → (∀ x a b, c ≠ .cond x a b) → ∃ ψ', execS C callG n (m + 1) c ψ σ p = some (x, ψ', σ', p') ∧ φ'.le ψ' := by
      intro h1 h2 h3
      rw [execS_eq h1 h2 h3] at hr ⊢
      split at hr
      · rename_i φ1 σ1 he
        obtain ⟨ψ1, g1, g2⟩ := exec_mono hc hk h he
        rw [g1]; cases hr; exact ⟨ψ1, rfl, g2⟩
      · rename_i φ1 σ1 he
        obtain ⟨ψ1, g1, g2⟩ := exec_mono hc hk h he
        rw [g1]; cases hr; exact ⟨ψ1, rfl, g2⟩
      · cases hr
    cases c with
    | region i ops d =>
      cases d with
      | false => simp only [execS] at hr ⊢; exact runOpsS_mono hc h hr
      | true => exact other (by simp) (by simp) (by simp)
    | seq a b =>
      simp only [execS] at hr ⊢
      split at hr
      · rename_i φ1 σ1 p1 h1
        obtain ⟨ψ1, g1, g2⟩ := ih hk' h h1
        rw [g1]
        exact ih hk' g2 hr
      · rename_i hne
        obtain ⟨ψ1, g1, g2⟩ := ih hk' h hr
        rw [g1]
        cases x with
        | normal => exact absurd hr (hne _ _ _)
        | _ => exact ⟨ψ1, rfl, g2⟩
    | cond y a b =>
      simp only [execS] at hr ⊢
      split at hr
      · rename_i t ht
        rw [ev_mono h _ _ ht]
        exact ih hk' h hr
      · cases hr
    | _ => exact other (by simp) (by simp) (by simp)

theorem resA_mono (h : φ.le ψ) {σ : St} : ∀ {l : List ResultVar} {xs : List A}, resA C φ σ l = some xs → resA C ψ σ l = some xs
  | [], xs, hr => by simp only [resA] at hr ⊢; exact hr
  | .tmp t :: l, xs, hr => by
    simp only [resA] at hr ⊢
    split at hr
    · rename_i x ys h1 h2
      rw [h.1 t x h1, resA_mono h h2]; exact hr
    · cases hr
  | .cell a t :: l, xs, hr => by
    simp only [resA] at hr ⊢
    split at hr
    · rename_i p h1
      rw [h.1 a p h1]
      simp only
      split at hr
      · rename_i x ys h2 h3
        rw [h2, resA_mono h h3]; exact hr
      · cases hr
    · cases hr

theorem callD_mono (hc : callF.le callG) {k m : Nat} (hk : k ≤ m) {f : FuncId} {args : List A} {σ : St} {p : Option A} {r : St × Option A} (hr : callD C callF k f args σ p = some r) : callD C callG m f args σ p = some r := by
  unfold callD at hr ⊢
  split at hr
  case h_2 => cases hr
  rename_i fn hf
  split at hr
  case h_2 => cases hr
  rename_i c hb
  split at hr
  case isFalse => cases hr
  rename_i hl
  have fin : ∀ (φ1 ψ1 : Fr) (σ1 : St) (p1 : Option A), φ1.le ψ1 → (match φ1.ds, resA C φ1 σ1 fn.results.toList with
          | [], some _ => some (σ1, p1)
          | _, _ => none) = some r → (match ψ1.ds, resA C ψ1 σ1 fn.results.toList with
          | [], some _ => some (σ1, p1)
          | _, _ => none) = some r := by
    intro φ1 ψ1 σ1 p1 hle h
    split at h
    · rename_i xs hds hres
      rw [hle.2, hds, resA_mono hle hres]; exact h
    · cases h
  simp only [if_pos hl]
  split at hr
  · rename_i φ1 σ1 p1 he
    obtain ⟨ψ1, g1, g2⟩ := execS_mono hc hk (Fr.le.refl _) he
    rw [g1]; exact fin _ _ _ _ g2 hr
  · rename_i φ1 σ1 p1 he
    obtain ⟨ψ1, g1, g2⟩ := execS_mono hc hk (Fr.le.refl _) he
    rw [g1]; exact fin _ _ _ _ g2 hr
  · cases hr
theorem leave_mono (hc : callF.le callG) {k m : Nat} (hk : k ≤ m) : ∀ {ds : List (FuncId × List A)} {σ : St} {p : Option A} {r : St × Option A}, leave C callF k ds σ p = some r → leave C callG m ds σ p = some r
  | [], σ, p, r, hr => by simp only [leave] at hr ⊢; exact hr
  | (f, args) :: ds, σ, p, r, hr => by
    simp only [leave] at hr ⊢
    split at hr
    · rename_i σ1 p1 h1
      rw [callD_mono hc hk h1]
      exact leave_mono hc hk hr
    · cases hr

theorem call_mono : ∀ {k m : Nat} {f : FuncId} {args : List A} {σ : St} {r : Out × St}, k ≤ m → call C k f args σ = some r → call C m f args σ = some r
  | 0, m, f, args, σ, r, hk, hr => by simp [call] at hr
  | k + 1, 0, f, args, σ, r, hk, hr => by omega
  | k + 1, m + 1, f, args, σ, r, hk, hr => by
    have hc : CallF.le (call C k) (call C m) := fun a b c r h => call_mono (by omega) h
    simp only [call] at hr ⊢
    split at hr
    · rename_i g hg
      exact hr
    split at hr
    case h_2 => cases hr
    rename_i fn hf
    split at hr
    case h_2 => cases hr
    rename_i c hb
    split at hr
    case isFalse => cases hr
    rename_i hl
    simp only [if_pos hl]
    have fin1 : ∀ (φ1 ψ1 : Fr) (σ1 : St), φ1.le ψ1 → (match leave C (call C k) (k + 1) φ1.ds σ1 none with
              | some (σ'', none) => match resA C φ1 σ'' fn.results.toList with
                | some l => some (Out.ret (oneOrTup l), σ'')
                | none => none
              | _ => none) = some r → (match leave C (call C m) (m + 1) ψ1.ds σ1 none with
              | some (σ'', none) => match resA C ψ1 σ'' fn.results.toList with
                | some l => some (Out.ret (oneOrTup l), σ'')
                | none => none
              | _ => none) = some r := by
      intro φ1 ψ1 σ1 hle h
      rw [hle.2]
      split at h
      · rename_i σ2 hlv
        rw [leave_mono hc hk hlv]
        simp only
        split at h
        · rename_i l hres; rw [resA_mono hle hres]; exact h
        · cases h
      · cases h
    split at hr
    · rename_i φ1 σ1 he
      obtain ⟨ψ1, g1, g2⟩ := exec_mono hc hk (Fr.le.refl _) he
      rw [g1]; exact fin1 _ _ _ g2 hr
    · rename_i φ1 σ1 he
      obtain ⟨ψ1, g1, g2⟩ := exec_mono hc hk (Fr.le.refl _) he
      rw [g1]; exact fin1 _ _ _ g2 hr
    · rename_i x φ1 σ1 he
      obtain ⟨ψ1, g1, g2⟩ := exec_mono hc hk (Fr.le.refl _) he
      rw [g1]
      simp only
      rw [g2.2]
      split at hr
      · rename_i σ2 hlv
        rw [leave_mono hc hk hlv]
        simp only
        split at hr
        · rename_i l hres; rw [resA_mono g2 hres]; exact hr
        · cases hr
      · rename_i σ2 y hlv
        rw [leave_mono hc hk hlv]
        exact hr
      · cases hr
    · cases hr
end

/-- a call comes to this, with fuel enough -/
def Cl (C : Cfg) (f : FuncId) (args : List A) (σ : St) (out : Out) (σ' : St) : Prop := ∃ N, ∀ k, N ≤ k → call C k f args σ = some (out, σ')
theorem Cl.of {C : Cfg} {f : FuncId} {args : List A} {σ σ' : St} {out : Out} {k : Nat} (h : call C k f args σ = some (out, σ')) : Cl C f args σ out σ' := ⟨k, fun _m hm => call_mono hm h⟩
theorem Cl.run {C : Cfg} {f : FuncId} {args : List A} {σ σ' : St} {out : Out} (h : Cl C f args σ out σ') : ∃ k, call C k f args σ = some (out, σ') := h.elim fun N h => ⟨N, h N (Nat.le_refl _)⟩

end Go.DM
namespace Go.DM
open Go Go.RowKit

/-- code comes to what Q says (of a frame that may be less than the true one) -/
def Ex (C : Cfg) (n : Nat) (c : Code) (φ : Fr) (σ : St) (Q : X → Fr → St → Prop) : Prop :=
  ∃ N x φ0 φ' σ', Q x φ0 σ' ∧ φ0.le φ' ∧ exec C (call C N) n N c φ σ = some (x, φ', σ')
/-- operations come to what Q says -/
def ExO (C : Cfg) (n : Nat) (ops : Array Oper) (l : List Oper) (φ : Fr) (σ : St) (Q : X → Fr → St → Prop) : Prop :=
  ∃ N x φ0 φ' σ', Q x φ0 σ' ∧ φ0.le φ' ∧ runOps C (call C N) n ops l φ σ = some (x, φ', σ')

section
variable {C : Cfg} {n : Nat} {ops : Array Oper} {Q Q' : X → Fr → St → Prop} {φ ψ : Fr} {σ : St} {c a b : Code}

theorem callLe {k m : Nat} (h : k ≤ m) : CallF.le (call C k) (call C m) := fun _ _ _ _ hr => call_mono h hr
theorem Ex.up (h : φ.le ψ) (he : Ex C n c φ σ Q) : Ex C n c ψ σ Q := by
  obtain ⟨N, x, φ0, φ', σ', h1, h2, h3⟩ := he
  obtain ⟨ψ', g1, g2⟩ := exec_mono (callLe (Nat.le_refl N)) (Nat.le_refl N) h h3
  exact ⟨N, x, φ0, ψ', σ', h1, h2.trans g2, g1⟩
theorem Ex.imp (hq : ∀ x φ σ, Q x φ σ → Q' x φ σ) (he : Ex C n c φ σ Q) : Ex C n c φ σ Q' := by
  obtain ⟨N, x, φ0, φ', σ', h1, h2⟩ := he
  exact ⟨N, x, φ0, φ', σ', hq _ _ _ h1, h2⟩
theorem ExO.up {l : List Oper} (h : φ.le ψ) (he : ExO C n ops l φ σ Q) : ExO C n ops l ψ σ Q := by
  obtain ⟨N, x, φ0, φ', σ', h1, h2, h3⟩ := he
  obtain ⟨ψ', g1, g2⟩ := runOps_mono (callLe (Nat.le_refl N)) h h3
  exact ⟨N, x, φ0, ψ', σ', h1, h2.trans g2, g1⟩

theorem Ex.skip (h : Q .normal φ σ) : Ex C n .skip φ σ Q := ⟨1, _, φ, φ, σ, h, Fr.le.refl _, rfl⟩
theorem Ex.exit {id : Nat} (h : Q (.exit id) φ σ) : Ex C n (.exit id) φ σ Q := ⟨1, _, φ, φ, σ, h, Fr.le.refl _, rfl⟩
theorem Ex.ret (h : Q .ret φ σ) : Ex C n .ret φ σ Q := ⟨1, _, φ, φ, σ, h, Fr.le.refl _, rfl⟩
theorem Ex.region {id : Nat} {ops : Array Oper} (h : ExO C n ops ops.toList φ σ Q) : Ex C n (.region id ops false) φ σ Q := by
  obtain ⟨N, x, φ0, φ', σ', h1, h2, h3⟩ := h
  obtain ⟨ψ', g1, g2⟩ := runOps_mono (callLe (Nat.le_succ N)) (Fr.le.refl φ) h3
  exact ⟨N + 1, x, φ0, ψ', σ', h1, h2.trans g2, g1⟩
theorem Ex.draw {id : Nat} {ops : Array Oper} (hd : drawOk C ops (Region.before ops) = true) {N : Nat} {x : X} {φ' : Fr} {σ' : St} (h : runDr C (call C N) n ops (Region.before ops) ops.toList 0 φ σ [] [] = some (x, φ', σ')) (hq : Q x φ' σ') : Ex C n (.region id ops true) φ σ Q := by
  obtain ⟨ψ', g1, g2⟩ := runDq_mono (callLe (Nat.le_succ N)) (Fr.le.refl φ) .nil (runDr_dq h)
  exact ⟨N + 1, x, φ', ψ', σ', hq, g2, by simp only [exec, runOpen, if_pos hd]; exact g1⟩

/-- what comes behind the first part -/
def Then (K : Fr → St → Prop) (Q : X → Fr → St → Prop) : X → Fr → St → Prop
  | .normal, φ, σ => K φ σ
  | x, φ, σ => Q x φ σ
theorem Ex.seq (h : Ex C n a φ σ (Then (fun φ' σ' => Ex C n b φ' σ' Q) Q)) : Ex C n (.seq a b) φ σ Q := by
  obtain ⟨N, x, φ0, φ', σ', h1, h2, h3⟩ := h
  cases x with
  | normal =>
    obtain ⟨M, y, φ1, φ2, σ2, g1, g2, g3⟩ := Ex.up h2 h1
    obtain ⟨ψ1, e1, e2⟩ := exec_mono (m := N + M) (callLe (m := N + M + 1) (by omega)) (by omega) (Fr.le.refl φ) h3
    obtain ⟨ψ2, e3, e4⟩ := exec_mono (m := N + M) (callLe (m := N + M + 1) (by omega)) (by omega) e2 g3
    refine ⟨N + M + 1, y, φ1, ψ2, σ2, g1, g2.trans e4, ?_⟩
    simp only [exec, e1, e3]
  | _ =>
    obtain ⟨ψ1, e1, e2⟩ := exec_mono (m := N) (callLe (m := N + 1) (by omega)) (by omega) (Fr.le.refl φ) h3
    refine ⟨N + 1, _, φ0, ψ1, σ', h1, h2.trans e2, ?_⟩
    simp only [exec, e1]
theorem Ex.cond {x : Operand} {t : Bool} (hx : ev C φ x = some (.v (.bool t))) (h : Ex C n (if t then a else b) φ σ Q) : Ex C n (.cond x a b) φ σ Q := by
  obtain ⟨N, y, φ0, φ', σ', h1, h2, h3⟩ := h
  obtain ⟨ψ1, e1, e2⟩ := exec_mono (m := N) (callLe (m := N + 1) (by omega)) (by omega) (Fr.le.refl φ) h3
  refine ⟨N + 1, y, φ0, ψ1, σ', h1, h2.trans e2, ?_⟩
  simp only [exec, hx]
  exact e1
/-- both ways -/
theorem Ex.split {x : Operand} {t : Bool} (hx : ev C φ x = some (.v (.bool t))) (ht : t = true → Ex C n a φ σ Q) (hf : t = false → Ex C n b φ σ Q) : Ex C n (.cond x a b) φ σ Q := by
  refine Ex.cond hx ?_
  cases t
  · exact hf rfl
  · exact ht rfl
def Blk' (id : Nat) (Q : X → Fr → St → Prop) : X → Fr → St → Prop
  | .exit j, φ, σ => if j = id then Q .normal φ σ else Q (.exit j) φ σ
  | x, φ, σ => Q x φ σ
theorem Ex.block {id : Nat} (h : Ex C n a φ σ (Blk' id Q)) : Ex C n (.block id a) φ σ Q := by
  obtain ⟨N, x, φ0, φ', σ', h1, h2, h3⟩ := h
  obtain ⟨ψ1, e1, e2⟩ := exec_mono (m := N) (callLe (m := N + 1) (by omega)) (by omega) (Fr.le.refl φ) h3
  cases x with
  | exit j =>
    simp only [Blk'] at h1
    by_cases hj : j = id
    · rw [if_pos hj] at h1
      exact ⟨N + 1, _, φ0, ψ1, σ', h1, h2.trans e2, by simp only [exec, e1, if_pos hj]⟩
    · rw [if_neg hj] at h1
      exact ⟨N + 1, _, φ0, ψ1, σ', h1, h2.trans e2, by simp only [exec, e1, if_neg hj]⟩
  | _ => exact ⟨N + 1, _, φ0, ψ1, σ', h1, h2.trans e2, by simp only [exec, e1]⟩
theorem Ex.loop1 (h : Ex C n a φ σ (Then (fun φ' σ' => Ex C n (.loop a) φ' σ' Q) Q)) : Ex C n (.loop a) φ σ Q := by
  obtain ⟨N, x, φ0, φ', σ', h1, h2, h3⟩ := h
  cases x with
  | normal =>
    obtain ⟨M, y, φ1, φ2, σ2, g1, g2, g3⟩ := Ex.up h2 h1
    obtain ⟨ψ1, e1, e2⟩ := exec_mono (m := N + M) (callLe (m := N + M + 1) (by omega)) (by omega) (Fr.le.refl φ) h3
    obtain ⟨ψ2, e3, e4⟩ := exec_mono (m := N + M) (callLe (m := N + M + 1) (by omega)) (by omega) e2 g3
    refine ⟨N + M + 1, y, φ1, ψ2, σ2, g1, g2.trans e4, ?_⟩
    simp only [exec, e1, e3]
  | _ =>
    obtain ⟨ψ1, e1, e2⟩ := exec_mono (m := N) (callLe (m := N + 1) (by omega)) (by omega) (Fr.le.refl φ) h3
    refine ⟨N + 1, _, φ0, ψ1, σ', h1, h2.trans e2, ?_⟩
    simp only [exec, e1]
/-- a loop: its states by an index, with a measure that falls -/
theorem Ex.loop {ι : Type} (F : ι → Fr) (S : ι → St) (μ : ι → Nat) (step : ∀ i, Ex C n a (F i) (S i) (Then (fun φ' σ' => ∃ j, μ j < μ i ∧ (F j).le φ' ∧ σ' = S j) Q)) : ∀ i, Ex C n (.loop a) (F i) (S i) Q := by
  have key : ∀ m i, μ i < m → Ex C n (.loop a) (F i) (S i) Q := by
    intro m
    induction m with
    | zero => intro i hi; omega
    | succ m ih =>
      intro i hi
      refine Ex.loop1 ((step i).imp (fun x φ' σ' h => ?_))
      cases x with
      | normal =>
        obtain ⟨j, h1, h2, rfl⟩ := h
        exact Ex.up h2 (ih j (by omega))
      | _ => exact h
  intro i
  exact key (μ i + 1) i (by omega)

theorem ExO.nil (h : Q .normal φ σ) : ExO C n ops [] φ σ Q := ⟨0, _, φ, φ, σ, h, Fr.le.refl _, rfl⟩
/-- some operations at once, none of which calls -/
theorem ExO.run {l m : List Oper} {φ' : Fr} {σ' : St} (h : runOps C (fun _ _ _ => none) n ops l φ σ = some (.normal, φ', σ')) (hm : ExO C n ops m φ' σ' Q) : ExO C n ops (l ++ m) φ σ Q := by
  obtain ⟨N, x, φ0, φ2, σ2, h1, h2, h3⟩ := hm
  have app : ∀ (l : List Oper) (φ ψ : Fr) (σ : St), φ.le ψ → runOps C (fun _ _ _ => none) n ops l φ σ = some (.normal, φ', σ') → ∃ ψ', φ'.le ψ' ∧ runOps C (call C N) n ops (l ++ m) ψ σ = runOps C (call C N) n ops m ψ' σ' := by
    intro l
    induction l with
    | nil => intro φ ψ σ hle h; simp only [runOps] at h; cases h; exact ⟨ψ, hle, rfl⟩
    | cons o l ih =>
      intro φ ψ σ hle h
      simp only [runOps, List.cons_append] at h ⊢
      split at h
      · rename_i hw
        rw [wanted_mono hle hw]
        simp only
        split at h
        · rename_i y s ho
          rw [op_mono (ev_mono hle) ho]
          simp only
          split at h
          case h_2 => cases h
          rename_i φ3 hp
          obtain ⟨ψ3, e1, e2⟩ := put_mono hle hp
          rw [e1]
          exact ih _ _ _ e2 h
        · rename_i s ho
          rw [op_mono (ev_mono hle) ho]
          simp only
          split at h
          case h_2 => cases h
          rename_i φ3 hp
          obtain ⟨ψ3, e1, e2⟩ := put_mono hle hp
          rw [e1]
          exact ih _ _ _ e2 h
        · cases h
        · rename_i f args s ho
          rw [op_mono (ev_mono hle) ho]
          simp only
          split at h
          case h_2 => cases h
          rename_i φ3 hp
          have hle' : Fr.le { φ with ds := (f, args) :: φ.ds } { ψ with ds := (f, args) :: ψ.ds } := ⟨hle.1, by simp [hle.2]⟩
          obtain ⟨ψ3, e1, e2⟩ := put_mono hle' hp
          rw [e1]
          exact ih _ _ _ e2 h
        · cases h
        · cases h
      · rename_i hw
        rw [wanted_mono hle hw]
        simp only
        split at h
        case h_2 => cases h
        rename_i φ3 hp
        obtain ⟨ψ3, e1, e2⟩ := put_mono hle hp
        rw [e1]
        exact ih _ _ _ e2 h
      · cases h
  obtain ⟨ψ', e1, e2⟩ := app l φ φ σ (Fr.le.refl _) h
  obtain ⟨ψ2, g1, g2⟩ := runOps_mono (callLe (Nat.le_refl N)) e1 h3
  exact ⟨N, x, φ0, ψ2, σ2, h1, h2.trans g2, by rw [e2]; exact g1⟩
/-- one operation that comes to a value -/
theorem ExO.val {o : Oper} {l : List Oper} {x : A} {σ' : St} {φ' : Fr} (hw : wantedA ops φ o = some true) (ho : op C (ev C φ) o σ = some (.val x σ')) (hp : putA n φ o.dst x = some φ') (h : ExO C n ops l φ' σ' Q) : ExO C n ops (o :: l) φ σ Q := by
  obtain ⟨N, y, φ0, φ2, σ2, h1, h2, h3⟩ := h
  exact ⟨N, y, φ0, φ2, σ2, h1, h2, by simp only [runOps, hw, ho, hp]; exact h3⟩
theorem ExO.skip {o : Oper} {l : List Oper} {σ' : St} {φ' : Fr} (hw : wantedA ops φ o = some true) (ho : op C (ev C φ) o σ = some (.skip σ')) (hp : putA n φ o.dst und = some φ') (h : ExO C n ops l φ' σ' Q) : ExO C n ops (o :: l) φ σ Q := by
  obtain ⟨N, y, φ0, φ2, σ2, h1, h2, h3⟩ := h
  exact ⟨N, y, φ0, φ2, σ2, h1, h2, by simp only [runOps, hw, ho, hp]; exact h3⟩
/-- one that its guard leaves out -/
theorem ExO.off {o : Oper} {l : List Oper} {φ' : Fr} (hw : wantedA ops φ o = some false) (hp : putA n φ o.dst und = some φ') (h : ExO C n ops l φ' σ Q) : ExO C n ops (o :: l) φ σ Q := by
  obtain ⟨N, y, φ0, φ2, σ2, h1, h2, h3⟩ := h
  exact ⟨N, y, φ0, φ2, σ2, h1, h2, by simp only [runOps, hw, hp]; exact h3⟩
/-- a guard both ways -/
theorem ExO.guard {o : Oper} {l : List Oper} {t : Bool} (hw : wantedA ops φ o = some t) (ht : t = true → ExO C n ops (o :: l) φ σ Q) (hf : t = false → ExO C n ops (o :: l) φ σ Q) : ExO C n ops (o :: l) φ σ Q := by
  cases t
  · exact hf rfl
  · exact ht rfl
/-- a call -/
theorem ExO.call {o : Oper} {l : List Oper} {f : FuncId} {args : List A} {x : A} {σ' σ'' : St} {φ' : Fr} (hw : wantedA ops φ o = some true) (ho : op C (ev C φ) o σ = some (.call f args σ')) (hcl : Cl C f args σ' (.ret x) σ'')
    (hp : putA n φ o.dst x = some φ') (h : ExO C n ops l φ' σ'' Q) : ExO C n ops (o :: l) φ σ Q := by
  obtain ⟨N, y, φ0, φ2, σ2, h1, h2, h3⟩ := h
  obtain ⟨M, hM⟩ := hcl
  obtain ⟨ψ2, g1, g2⟩ := runOps_mono (callLe (m := N + M) (by omega)) (Fr.le.refl φ') h3
  exact ⟨N + M, y, φ0, ψ2, σ2, h1, h2.trans g2, by simp only [runOps, hw, ho, hM (N + M) (by omega), hp]; exact g1⟩

/-- a region whose order is open, operation by operation -/
def ExD (C : Cfg) (n : Nat) (ops : Array Oper) (l : List Oper) (j : Nat) (φ : Fr) (σ : St) (past : List (Nat × St)) (pend : List (Nat × Fr × Oper × A)) (Q : X → Fr → St → Prop) : Prop :=
  ∃ N x φ0 φ' σ', Q x φ0 σ' ∧ φ0.le φ' ∧ runDq C (call C N) n ops (Region.before ops) l j φ σ past pend = some (x, φ', σ')
theorem Ex.drawn {id : Nat} {ops : Array Oper} (hd : drawOk C ops (Region.before ops) = true) (h : ExD C n ops ops.toList 0 φ σ [] [] Q) : Ex C n (.region id ops true) φ σ Q := by
  obtain ⟨N, x, φ0, φ', σ', h1, h2, h3⟩ := h
  obtain ⟨ψ', g1, g2⟩ := runDq_mono (callLe (Nat.le_succ N)) (Fr.le.refl φ) .nil h3
  exact ⟨N + 1, x, φ0, ψ', σ', h1, h2.trans g2, by simp only [exec, runOpen, if_pos hd]; exact g1⟩
theorem Ex.openR {id : Nat} {ops : Array Oper} {N : Nat} {x : X} {φ0 φ' : Fr} {σ' : St} (hq : Q x φ0 σ') (hl : φ0.le φ') (h : runOpen C (call C N) n ops φ σ = some (x, φ', σ')) : Ex C n (.region id ops true) φ σ Q := by
  obtain ⟨ψ', g1, g2⟩ := runOpen_mono (callLe (Nat.le_succ N)) (Fr.le.refl φ) h
  exact ⟨N + 1, x, φ0, ψ', σ', hq, hl.trans g2, by simp only [exec]; exact g1⟩
section
variable {l : List Oper} {j : Nat} {past : List (Nat × St)} {pend : List (Nat × Fr × Oper × A)} {o : Oper} {x : A} {φ' : Fr} {σ' σ'' : St}
theorem ExD.nil (h : Q .normal φ σ) : ExD C n ops [] j φ σ past pend Q := ⟨0, _, φ, φ, σ, h, Fr.le.refl _, rfl⟩
/-- a quiet one -/
theorem ExD.val (hw : wantedA ops φ o = some true) (hq : isQuiet C o = true) (ho : opQ C (ev C φ) o σ = some x) (hs : stableP C (Region.before ops) φ o j x past = true) (hp : putA n φ o.dst x = some φ')
    (h : ExD C n ops l (j + 1) φ' σ past ((j, φ, o, x) :: pend) Q) : ExD C n ops (o :: l) j φ σ past pend Q := by
  obtain ⟨N, y, φ0, φ2, σ2, h1, h2, h3⟩ := h
  exact ⟨N, y, φ0, φ2, σ2, h1, h2, by simp only [runDq, hw, hq, ho, hs, hp, if_true]; exact h3⟩
theorem ExD.off (hw : wantedA ops φ o = some false) (hp : putA n φ o.dst und = some φ') (h : ExD C n ops l (j + 1) φ' σ past pend Q) : ExD C n ops (o :: l) j φ σ past pend Q := by
  obtain ⟨N, y, φ0, φ2, σ2, h1, h2, h3⟩ := h
  exact ⟨N, y, φ0, φ2, σ2, h1, h2, by simp only [runDq, hw, hp]; exact h3⟩
/-- one that acts, without a call -/
theorem ExD.loud (hw : wantedA ops φ o = some true) (hq : isQuiet C o = false) (ho : op C (ev C φ) o σ = some (.val x σ') ∨ (op C (ev C φ) o σ = some (.skip σ') ∧ x = und)) (hs : stableF C (Region.before ops) j σ' pend = true) (hp : putA n φ o.dst x = some φ')
    (h : ExD C n ops l (j + 1) φ' σ' ((j, σ) :: past) pend Q) : ExD C n ops (o :: l) j φ σ past pend Q := by
  obtain ⟨N, y, φ0, φ2, σ2, h1, h2, h3⟩ := h
  have hl : loudStep C (DM.call C N) φ o σ = some (x, σ') := by
    unfold loudStep
    rcases ho with ho | ⟨ho, rfl⟩ <;> rw [ho]
  exact ⟨N, y, φ0, φ2, σ2, h1, h2, by simp only [runDq, hw, hq, hl, hs, hp, if_true, Bool.false_eq_true, if_false]; exact h3⟩
/-- a call -/
theorem ExD.call {f : FuncId} {args : List A} (hw : wantedA ops φ o = some true) (hq : isQuiet C o = false) (ho : op C (ev C φ) o σ = some (.call f args σ')) (hcl : Cl C f args σ' (.ret x) σ'') (hs : stableF C (Region.before ops) j σ'' pend = true)
    (hp : putA n φ o.dst x = some φ') (h : ExD C n ops l (j + 1) φ' σ'' ((j, σ) :: past) pend Q) : ExD C n ops (o :: l) j φ σ past pend Q := by
  obtain ⟨N, y, φ0, φ2, σ2, h1, h2, h3⟩ := h
  obtain ⟨M, hM⟩ := hcl
  have hpend : ∀ l : List (Nat × Fr × Oper × A), PendLe l l := by
    intro l
    induction l with
    | nil => exact .nil
    | cons a l ih => obtain ⟨i, f, o, x⟩ := a; exact .cons (Fr.le.refl _) ih
  obtain ⟨ψ2, g1, g2⟩ := runDq_mono (callLe (m := N + M) (by omega)) (Fr.le.refl φ') (hpend _) h3
  have hl : loudStep C (DM.call C (N + M)) φ o σ = some (x, σ'') := by
    unfold loudStep
    rw [ho]; simp only [hM (N + M) (by omega)]
  exact ⟨N + M, y, φ0, ψ2, σ2, h1, h2.trans g2, by simp only [runDq, hw, hq, hl, hs, hp, if_true, Bool.false_eq_true, if_false]; exact g1⟩
/-- a call that panics -/
theorem ExD.pan {f : FuncId} {args : List A} {v : A} (hw : wantedA ops φ o = some true) (hq : isQuiet C o = false) (ho : op C (ev C φ) o σ = some (.call f args σ')) (hcl : Cl C f args σ' (.pan v) σ'')
    (hp : putA n φ o.dst .junk = some φ') (hdv : runDv C n ops (Region.before ops) j l (j + 1) φ' σ ((j, σ) :: past) = true) (h : Q (.pan v) (junkF ops.toList φ) σ'') : ExD C n ops (o :: l) j φ σ past pend Q := by
  obtain ⟨M, hM⟩ := hcl
  have hl : loudStep C (DM.call C M) φ o σ = none := by
    unfold loudStep
    rw [ho]; simp only [hM M (Nat.le_refl _)]
  have hpn : panStep C (DM.call C M) φ o σ = some (v, σ'') := by
    unfold panStep
    rw [ho]; simp only [hM M (Nat.le_refl _)]
  exact ⟨M, _, _, _, _, h, Fr.le.refl _, by simp only [runDq, hw, hq, hl, hpn, hp, hdv, if_true, Bool.false_eq_true, if_false]⟩
end

/-- a function without deferred calls, by its body -/
def Rets (C : Cfg) (fn : Func) (x : A) (σ1 : St) : X → Fr → St → Prop := fun e φ σ' => (e = .normal ∨ e = .ret) ∧ φ.ds = [] ∧ σ' = σ1 ∧ ∃ l, resA C φ σ' fn.results.toList = some l ∧ oneOrTup l = x
theorem Cl.enter {f : FuncId} {fn : Func} {args : List A} {x : A} {σ1 : St} (hf : C.P.funcs[f]? = some fn) (hb : fn.body = some c) (hp : C.prim f = none) (hl : args.length ≤ fn.ntmps)
    (h : Ex C fn.ntmps c ⟨argFr 0 args, []⟩ σ (Rets C fn x σ1)) : Cl C f args σ (.ret x) σ1 := by
  obtain ⟨N, e, φ0, φ', σ', ⟨h1, hds, rfl, l, hres, rfl⟩, h2, h3⟩ := h
  obtain ⟨ψ1, e1, e2⟩ := exec_mono (m := N + 1) (callLe (Nat.le_refl N)) (by omega) (Fr.le.refl _) h3
  have hle := h2.trans e2
  refine Cl.of (k := N + 1) ?_
  simp only [DM.call, hp, hf, hb, if_pos hl, e1]
  have hd : ψ1.ds = [] := by rw [hle.2, hds]
  rcases h1 with rfl | rfl <;> simp only [hd, leave, resA_mono hle hres]
end
end Go.DM
namespace Go.DM
open Go Go.RowKit

theorem det_bind {α β : Type} (P : Program) (s : Sem α) (f : α → Sem β) : det P (s >>= f) = (det P s).bind fun a => det P (f a) := by
  induction s with
  | pure a => rfl
  | program k ih => exact ih P
  | mark m k ih => exact ih
  | _ => rfl
theorem det_pure {α : Type} (P : Program) (a : α) : det P (pure a : Sem α) = some a := rfl
theorem det_map {α β : Type} (P : Program) (s : Sem α) (f : α → β) : det P (f <$> s) = (det P s).map f := by
  rw [map_eq_pure_bind, det_bind]
  cases det P s <;> rfl
theorem det_underlying {P : Program} {t : TypeId} {d : TypeDesc} (h : P.underlying t = some d) : det P (underlying t) = some d := by
  unfold underlying
  rw [det_bind]
  show (det P (match P.underlying t with | some d => pure d | none => stuck "no such type")) = _
  rw [h]; rfl

theorem wrap_i64 {n : Int} (h0 : -9223372036854775808 ≤ n) (h1 : n < 9223372036854775808) : IntKind.i64.wrap n = n := by
  have : IntKind.i64.wrap n = if (true && decide (n % 18446744073709551616 ≥ 9223372036854775808)) = true then n % 18446744073709551616 - 18446744073709551616 else n % 18446744073709551616 := rfl
  rw [this]
  simp only [Bool.true_and, decide_eq_true_eq]
  split <;> omega
theorem wrap_u8 {n : Int} (h0 : 0 ≤ n) (h1 : n < 256) : IntKind.u8.wrap n = n := by
  have : IntKind.u8.wrap n = if (false && decide (n % 256 ≥ 128)) = true then n % 256 - 256 else n % 256 := rfl
  rw [this]
  simp only [Bool.false_and, Bool.false_eq_true, if_false]
  omega

section
variable {C : Cfg} {ρ : Operand → Option A} {o : Oper} {σ : St}

theorem detIf_of {u : Value} {a : A} (hp : plainOps ρ o.op.operands.toList = true) (hd : det C.P (execOp (valOf ρ) o) = some (.value u)) (ha : ofVal u = some a) : detIf C ρ o σ = some (.val a σ) := by
  unfold detIf detOp
  rw [if_pos hp, hd]
  simp only [ha]
theorem valOf_v {x : Operand} {u : Value} (h : ρ x = some (.v u)) : valOf ρ x = u := by simp [valOf, h, toVal]

/-- a number that does not wrap -/
theorem val_int {r : Option R} {k : IntKind} {m n : Int} (h : r = some (.val (.v (.int k m)) σ)) (e : m = n) : r = some (.val (.v (.int k n)) σ) := e ▸ h
/-- a string's byte -/
theorem op_byte {t : TypeId} {x ix : Operand} {s : ByteArray} {k : IntKind} {i : Int} {b : UInt8} (hop : o.op = .index t x ix) (hx : ρ x = some (.v (.string s))) (hi : ρ ix = some (.v (.int k i))) (ht : C.P.underlying t = some .string)
    (h0 : 0 ≤ i) (hb : s[i.toNat]? = some b) : op C ρ o σ = some (.val (.v (.int .u8 b.toNat)) σ) := by
  have hd : detIf C ρ o σ = some (.val (.v (.int .u8 b.toNat)) σ) := by
    refine detIf_of (u := .int .u8 b.toNat) ?_ ?_ rfl
    · simp [hop, Op.operands, plainOps, hx, hi, toVal]
    · simp only [execOp, hop, valOf_v hx, valOf_v hi, Instr.index, asIntOf, det_bind, det_pure, Option.bind_some, det_underlying ht, if_pos h0, hb]
  simp only [op, hop, hx, hi, indexVal, ht]
  exact hd
/-- a part of a string -/
theorem op_part {t : TypeId} {x : Operand} {lo hi : Option Operand} {s : ByteArray} {l h : Nat} (hop : o.op = .slice t x lo hi none) (hx : ρ x = some (.v (.string s))) (ht : C.P.underlying t = some .string)
    (hlo : (lo = none ∧ l = 0) ∨ ∃ y k, lo = some y ∧ ρ y = some (.v (.int k (l : Nat)))) (hhi : (hi = none ∧ h = s.size) ∨ ∃ y k, hi = some y ∧ ρ y = some (.v (.int k (h : Nat)))) (hlh : l ≤ h) (hs : h ≤ s.size) :
    op C ρ o σ = some (.val (.v (.string (s.extract l h))) σ) := by
  have hb : ∀ (k : IntKind) (n y : Nat) (code : BoundsCode), n ≤ y → det C.P (Instr.sliceBound (.int k (n : Nat)) y code) = some n := by
    intro k n y code hn
    have h1 : (0 : Int) ≤ (n : Int) ∧ (n : Int) ≤ (y : Int) := ⟨by omega, by omega⟩
    simp only [Instr.sliceBound, asIntOf, det_bind, det_pure, Option.bind_some]
    rw [if_pos h1]
    simp [det_pure]
  rcases hlo with ⟨rfl, rfl⟩ | ⟨y, k, rfl, hy⟩ <;> rcases hhi with ⟨rfl, rfl⟩ | ⟨z, k', rfl, hz⟩
  · have hd : detIf C ρ o σ = some (.val (.v (.string (s.extract 0 s.size))) σ) := by
      refine detIf_of (u := .string (s.extract 0 s.size)) ?_ ?_ rfl
      · simp [hop, Op.operands, plainOps, hx, toVal]
      · simp [execOp, hop, valOf_v hx, Instr.sliceAt, Instr.slice, Instr.sliceBounds, det_bind, det_map, det_pure, det_underlying ht]
    simp only [op, hop, hx, optOf, sliceOp, ht]
    exact hd
  · have hd : detIf C ρ o σ = some (.val (.v (.string (s.extract 0 h))) σ) := by
      refine detIf_of (u := .string (s.extract 0 h)) ?_ ?_ rfl
      · simp [hop, Op.operands, plainOps, hx, hz, toVal]
      · simp [execOp, hop, valOf_v hx, valOf_v hz, Instr.sliceAt, Instr.slice, Instr.sliceBounds, det_bind, det_map, det_underlying ht, hb k' h s.size _ hs]
    simp only [op, hop, hx, hz, optOf, sliceOp, ht]
    exact hd
  · have hd : detIf C ρ o σ = some (.val (.v (.string (s.extract l s.size))) σ) := by
      refine detIf_of (u := .string (s.extract l s.size)) ?_ ?_ rfl
      · simp [hop, Op.operands, plainOps, hx, hy, toVal]
      · simp [execOp, hop, valOf_v hx, valOf_v hy, Instr.sliceAt, Instr.slice, Instr.sliceBounds, det_bind, det_map, det_underlying ht, hb k l s.size _ hlh]
    simp only [op, hop, hx, hy, optOf, sliceOp, ht]
    exact hd
  · have hd : detIf C ρ o σ = some (.val (.v (.string (s.extract l h))) σ) := by
      refine detIf_of (u := .string (s.extract l h)) ?_ ?_ rfl
      · simp [hop, Op.operands, plainOps, hx, hy, hz, toVal]
      · simp [execOp, hop, valOf_v hx, valOf_v hy, valOf_v hz, Instr.sliceAt, Instr.slice, Instr.sliceBounds, det_bind, det_map, det_underlying ht, hb k' h s.size _ hs, hb k l h _ hlh]
    simp only [op, hop, hx, hy, hz, optOf, sliceOp, ht]
    exact hd
/-- a string's length -/
theorem op_len {c : Call} {x : Operand} {s : ByteArray} {t : TypeId} (hop : o.op = .call c) (hc : c.callee = .builtin .len) (ha : c.args.toList = [x]) (h0 : c.argTypes[0]? = some t) (hx : ρ x = some (.v (.string s))) (ht : C.P.underlying t = some .string) :
    op C ρ o σ = some (.val (.v (.int .i64 (s.size : Nat))) σ) := by
  have hd : detIf C ρ o σ = some (.val (.v (.int .i64 (s.size : Nat))) σ) := by
    refine detIf_of (u := .int .i64 (s.size : Nat)) ?_ ?_ rfl
    · have : o.op.operands.toList = [x] := by simp [hop, Op.operands, Call.operands, hc, ha]
      rw [this]; simp [plainOps, hx, toVal]
    · rw [exec_builtin hop hc, args1 ha, valOf_v hx]
      simp [builtin, Builtin.len_, h0, det_bind, det_map, det_pure, det_underlying ht, goInt]
  simp only [op, hop, hc, builtinOp, ha, hx, h0, lenA, ht]
  exact hd
/-- a slice's length, its place, what lies there -/
theorem op_lenS {c : Call} {x : Operand} {cs : List A} {sz : Nat} {ap : Ap} {t e : TypeId} (hop : o.op = .call c) (hc : c.callee = .builtin .len) (ha : c.args.toList = [x]) (h0 : c.argTypes[0]? = some t) (hx : ρ x = some (.sl sz cs ap)) (ht : C.P.underlying t = some (.slice e)) :
    op C ρ o σ = some (.val (.v (.int .i64 ((cs.length / sz : Nat) : Int))) σ) := by
  simp only [op, hop, hc, builtinOp, ha, hx, h0, lenA, ht]
theorem op_at {t e : TypeId} {x ix : Operand} {cs : List A} {sz : Nat} {ap : Ap} {k : IntKind} {n : Int} (hop : o.op = .indexAddr t x ix) (hx : ρ x = some (.sl sz cs ap)) (hi : ρ ix = some (.v (.int k n))) (ht : C.P.underlying t = some (.slice e)) (hs : sizeOfT C.P e = some sz)
    (h0 : 0 < sz) (hn : 0 ≤ n) (hl : n < ((cs.length / sz : Nat) : Int)) : op C ρ o σ = some (.val (.sp cs (n.toNat * sz) .no) σ) := by
  simp only [op, hop, hx, hi, indexAddrOp, ht, hs]
  rw [if_pos ⟨trivial, h0, hn, hl⟩]; rfl
theorem op_load {t : TypeId} {a : Operand} {cs : List A} {i : Nat} {ap : Ap} {x : A} (hop : o.op = .load t a) (ha : ρ a = some (.sp cs i ap)) (hl : loadAt C.P t cs i = some x) : op C ρ o σ = some (.val x σ) := by
  simp only [op, hop, ha, loadOp, hl]; rfl
theorem opQ_at {t e : TypeId} {x ix : Operand} {cs : List A} {sz : Nat} {ap : Ap} {k : IntKind} {n : Int} (hop : o.op = .indexAddr t x ix) (hx : ρ x = some (.sl sz cs ap)) (hi : ρ ix = some (.v (.int k n))) (ht : C.P.underlying t = some (.slice e)) (hs : sizeOfT C.P e = some sz)
    (h0 : 0 < sz) (hn : 0 ≤ n) (hl : n < ((cs.length / sz : Nat) : Int)) : opQ C ρ o σ = some (.sp cs (n.toNat * sz) .no) := by
  simp only [opQ, hop, op_at hop hx hi ht hs h0 hn hl]
theorem opQ_load {t : TypeId} {a : Operand} {cs : List A} {i : Nat} {ap : Ap} {x : A} (hop : o.op = .load t a) (ha : ρ a = some (.sp cs i ap)) (hl : loadAt C.P t cs i = some x) : opQ C ρ o σ = some x := by
  simp only [opQ, hop, op_load hop ha hl]
theorem opQ_byte {t : TypeId} {x ix : Operand} {s : ByteArray} {k : IntKind} {i : Int} {b : UInt8} (hop : o.op = .index t x ix) (hx : ρ x = some (.v (.string s))) (hi : ρ ix = some (.v (.int k i))) (ht : C.P.underlying t = some .string)
    (h0 : 0 ≤ i) (hb : s[i.toNat]? = some b) : opQ C ρ o σ = some (.v (.int .u8 b.toNat)) := by
  simp only [opQ, hop, op_byte hop hx hi ht h0 hb]
/-- an append to an owned slice -/
theorem append_own {P : Program} {t e : TypeId} {i : TypeInfo} {cs new : List A} {id : Nat} {x : A} (ht : P.underlying t = some (.slice e)) (hi : P.info? e = some i) (hx : appended σ i.size x = some new) (hz : 0 < i.size) (hn : new ≠ []) (h1 : allOne new = true)
    (h2 : i.zero.isSome = true) (h3 : (i.zero.map (·.cells.size)) = some i.size) (h4 : 0 < i.bytes) (hb : (2 * ((cs.length + new.length) / i.size) + 1024) * i.bytes ≤ 281474976710656) (hl : σ.live id = some e) :
    appendOp P t (.sl i.size cs (.gr id)) x σ = some (.sl i.size (cs ++ new) (.gr σ.nextT), (σ.untok id).tok e) := by
  simp only [appendOp, ht, hi, hx, if_pos hz, if_neg hn]
  rw [if_pos ⟨h1, h2, h3, h4⟩]
  simp only [true_and]
  rw [if_pos hb, if_pos hl]
theorem append_new_ {P : Program} {t e : TypeId} {i : TypeInfo} {cs new : List A} {x : A} (ht : P.underlying t = some (.slice e)) (hi : P.info? e = some i) (hx : appended σ i.size x = some new) (hz : 0 < i.size) (hn : new ≠ []) (h1 : allOne new = true)
    (h2 : i.zero.isSome = true) (h3 : (i.zero.map (·.cells.size)) = some i.size) (h4 : 0 < i.bytes) (hb : (2 * ((cs.length + new.length) / i.size) + 1024) * i.bytes ≤ 281474976710656) :
    appendOp P t (.sl i.size cs .ex) x σ = some (.sl i.size (cs ++ new) (.gr σ.nextT), σ.tok e) := by
  simp only [appendOp, ht, hi, hx, if_pos hz, if_neg hn]
  rw [if_pos ⟨h1, h2, h3, h4⟩]
  simp only [true_and]
  rw [if_pos hb]
theorem append_nil {P : Program} {t e : TypeId} {i : TypeInfo} {new : List A} {x : A} (ht : P.underlying t = some (.slice e)) (hi : P.info? e = some i) (hx : appended σ i.size x = some new) (hz : 0 < i.size) (hn : new ≠ []) (h1 : allOne new = true)
    (h2 : i.zero.isSome = true) (h3 : (i.zero.map (·.cells.size)) = some i.size) (h4 : 0 < i.bytes) (hb : (2 * (new.length / i.size) + 1024) * i.bytes ≤ 281474976710656) :
    appendOp P t (.v (.slice none 0 0)) x σ = some (.sl i.size new (.gr σ.nextT), σ.tok e) := by
  simp only [appendOp, ht, hi, hx, if_pos hz, if_neg hn]
  rw [if_pos ⟨h1, h2, h3, h4⟩, if_pos hb]
end

/-- what was there stays: blocks and tokens below the marks -/
structure St.ext (σ σ' : St) : Prop where
  next : σ.next ≤ σ'.next
  nextT : σ.nextT ≤ σ'.nextT
  blks : ∀ b, b < σ.next → σ'.blks.get b = σ.blks.get b
  toks : ∀ t, t < σ.nextT → σ'.toks.get t = σ.toks.get t
theorem St.ext.refl (σ : St) : σ.ext σ := ⟨Nat.le_refl _, Nat.le_refl _, fun _ _ => rfl, fun _ _ => rfl⟩
theorem St.ext.trans {a b c : St} (h : a.ext b) (g : b.ext c) : a.ext c :=
  ⟨Nat.le_trans h.next g.next, Nat.le_trans h.nextT g.nextT, fun x hx => (g.blks x (Nat.lt_of_lt_of_le hx h.next)).trans (h.blks x hx), fun x hx => (g.toks x (Nat.lt_of_lt_of_le hx h.nextT)).trans (h.toks x hx)⟩
theorem St.ext.tok (σ : St) (e : TypeId) : σ.ext (σ.tok e) :=
  ⟨Nat.le_refl _, Nat.le_succ _, fun _ _ => rfl, fun t ht => by simp only [St.tok, Tr.get_set]; rw [if_neg (by omega)]⟩
/-- a token that is not older than the mark is given up for a new one -/
theorem St.ext.retok {σ σ' : St} (h : σ.ext σ') {id : Nat} (hid : σ.nextT ≤ id) (e : TypeId) : σ.ext ((σ'.untok id).tok e) :=
  ⟨h.next, Nat.le_succ_of_le h.nextT, h.blks, fun t ht => by
    have h1 := h.nextT
    simp only [St.tok, St.untok, Tr.get_set, Tr.get_del]
    rw [if_neg (by omega), if_neg (by omega)]
    exact h.toks t ht⟩
theorem live_tok (σ : St) (e : TypeId) : (σ.tok e).live σ.nextT = some e := by simp [St.live, St.tok, Tr.get_set]
theorem live_retok (σ : St) (id : Nat) (e : TypeId) : ((σ.untok id).tok e).live σ.nextT = some e := by simp [St.live, St.tok, St.untok, Tr.get_set]

/-- a call comes to a value of which Q holds, in blocks that keep the old ones -/
def Ca (C : Cfg) (f : FuncId) (args : List A) (σ : St) (Q : A → St → Prop) : Prop := ∃ x σ', Cl C f args σ (.ret x) σ' ∧ Q x σ'
def Ret (C : Cfg) (fn : Func) (Q : A → St → Prop) : X → Fr → St → Prop := fun e φ σ' => (e = .normal ∨ e = .ret) ∧ φ.ds = [] ∧ ∃ l, resA C φ σ' fn.results.toList = some l ∧ Q (oneOrTup l) σ'
theorem Ca.enter {C : Cfg} {c : Code} {f : FuncId} {fn : Func} {args : List A} {σ : St} {Q : A → St → Prop} (hf : C.P.funcs[f]? = some fn) (hb : fn.body = some c) (hp : C.prim f = none) (hl : args.length ≤ fn.ntmps)
    (h : Ex C fn.ntmps c ⟨argFr 0 args, []⟩ σ (Ret C fn Q)) : Ca C f args σ Q := by
  obtain ⟨N, e, φ0, φ', σ', ⟨h1, hds, l, hres, hq⟩, h2, h3⟩ := h
  exact ⟨oneOrTup l, σ', Cl.enter hf hb hp hl ⟨N, e, φ0, φ', σ', ⟨h1, hds, rfl, l, hres, rfl⟩, h2, h3⟩, hq⟩
theorem ExO.ca {C : Cfg} {n : Nat} {ops : Array Oper} {Q : X → Fr → St → Prop} {φ : Fr} {σ : St} {o : Oper} {l : List Oper} {f : FuncId} {args : List A} {σ' : St} {R : A → St → Prop} (hw : wantedA ops φ o = some true) (ho : op C (ev C φ) o σ = some (.call f args σ'))
    (hcl : Ca C f args σ' R) (h : ∀ x σ'', R x σ'' → ∃ φ', putA n φ o.dst x = some φ' ∧ ExO C n ops l φ' σ'' Q) : ExO C n ops (o :: l) φ σ Q := by
  obtain ⟨x, σ'', h1, h2⟩ := hcl
  obtain ⟨φ', h3, h4⟩ := h x σ'' h2
  exact ExO.call hw ho h1 h3 h4

/-- a frame by its slots: 'fr0', with slots laid one by one -/
def fr0 : Fr := ⟨.nil, []⟩
theorem fr0_le {φ : Fr} (hd : φ.ds = []) : fr0.le φ := ⟨fun t x h => by simp [fr0] at h, hd⟩
theorem frS_le {φ ψ : Fr} {t : Nat} {x : A} (hx : ψ.s.get t = some x) (h : φ.le ψ) : (φ.set t x).le ψ := by
  refine ⟨fun u y hu => ?_, h.2⟩
  simp only [Fr.set, Tr.get_set] at hu
  split at hu
  · rename_i hh; cases hu; rw [hh]; exact hx
  · exact h.1 u y hu
end Go.DM
namespace Go.DM
open Go Go.RowKit
section
variable {C : Cfg} {n : Nat} {ops : Array Oper} {φ : Fr} {σ : St} {Q : X → Fr → St → Prop}
theorem Ex.late {id : Nat} {p : LateP} (hp : lateP (ops.toList.drop (ops.size - 5)) = some p)
    (hd : (!drawOk C ops (Region.before ops) && (lateSt ops (Region.before ops) (ops.size - 5) && drawOk C (ops.toList.take (ops.size - 5)).toArray (Region.before (ops.toList.take (ops.size - 5)).toArray))) = true)
    (h : ExD C n (ops.toList.take (ops.size - 5)).toArray (ops.toList.take (ops.size - 5)).toArray.toList 0 φ σ [] [] (fun x φ s => x = .normal ∧ ∃ φ' σ', lateTail C n p φ s = some (.normal, φ', σ') ∧ Q .normal φ' σ')) : Ex C n (.region id ops true) φ σ Q := by
  rw [Bool.and_eq_true, Bool.not_eq_true'] at hd
  obtain ⟨hd1, hd2⟩ := hd
  obtain ⟨N, x, φ0, φ1, σ1, ⟨rfl, φ', σ', h1, h2⟩, h3, h4⟩ := h
  obtain ⟨ψ', g1, g2⟩ := lateTail_mono h3 h1
  refine Ex.openR (N := N) h2 g2 ?_
  unfold runOpen
  rw [if_neg (by rw [hd1]; simp)]
  unfold runLate
  rw [hp]
  simp only [if_pos hd2, runDq_dr h4]
  exact g1
theorem Ex.coin {x y : Code} {q : CoinP} {p : LateP} {σ' : St} (hq : coinP C n x y = some q) (hp : lateQ (q.o1.toList.drop (q.o1.size - 3)) q.o2.toList = some p)
    (hd : (drawOk C q.oB (Region.before q.oB) && (lateSq q.o1 (Region.before q.o1) (q.o1.size - 3) && drawOk C (q.o1.toList.take (q.o1.size - 3)).toArray (Region.before (q.o1.toList.take (q.o1.size - 3)).toArray))) = true)
    (hB : ExD C n q.oB q.oB.toList 0 (junkF q.ops.toList φ) σ [] [] (fun x _ s => x = .normal ∧ s = σ'))
    (hA : ExD C n (q.o1.toList.take (q.o1.size - 3)).toArray (q.o1.toList.take (q.o1.size - 3)).toArray.toList 0 (junkF q.ops.toList φ) σ [] [] (fun x φ1 s => x = .normal ∧ ∃ x3 φ3, lateTail C n p φ1 s = some (x3, φ3, σ')))
    (h : Q .normal (junkF (q.o1.toList ++ q.o2.toList ++ q.oB.toList) (junkF q.ops.toList φ)) σ') : Ex C n (.seq x y) φ σ Q := by
  rw [Bool.and_eq_true] at hd
  obtain ⟨hd1, hd2⟩ := hd
  obtain ⟨NB, xB, φB0, φB, σB, ⟨rfl, rfl⟩, hB1, hB2⟩ := hB
  obtain ⟨NA, xA, φA0, φA, σA, ⟨rfl, x3, φ3, hA0⟩, hA1, hA2⟩ := hA
  obtain ⟨ψB, gB, _⟩ := runDr_mono (callLe (k := NB) (m := NB + NA) (by omega)) (Fr.le.refl _) .nil (runDq_dr hB2)
  obtain ⟨ψA, gA, leA⟩ := runDr_mono (callLe (k := NA) (m := NB + NA) (by omega)) (Fr.le.refl _) .nil (runDq_dr hA2)
  obtain ⟨ψ3, g3, _⟩ := lateTail_mono (hA1.trans leA) hA0
  have hl : lateA C (call C (NB + NA)) n q.o1 q.o2 (junkF q.ops.toList φ) σ = some σB := by
    unfold lateA
    rw [hp]
    simp only [if_pos hd2, gA, g3]
  have hr : coinRun C (call C (NB + NA)) n q φ σ = some (junkF (q.o1.toList ++ q.o2.toList ++ q.oB.toList) (junkF q.ops.toList φ), σB) := by
    unfold coinRun
    rw [if_pos hd1, gB, hl]
    simp only [if_true]
  obtain ⟨ψ, g4, g5⟩ := coinRun_mono (callLe (k := NB + NA) (m := NB + NA + 1) (by omega)) (Fr.le.refl φ) hr
  refine ⟨NB + NA + 1, .normal, _, ψ, σB, h, g5, ?_⟩
  simp only [exec, coin_none hq, hq, g4]
def coinOk (C : Cfg) (n : Nat) (ops : Array Oper) (t : Tmp) : Bool := match coinR C n ops with
  | some (_, _, t') => decide (t' = t) && (!drawOk C ops (Region.before ops) && (lateP (ops.toList.drop (ops.size - 5))).isNone)
  | none => false
theorem Ex.coin' {i0 i1 i2 iB : Nat} {ops o1 o2 oB : Array Oper} {t : Tmp} {p : LateP} {σ' : St} (hq : coinOk C n ops t = true) (hp : lateQ (o1.toList.drop (o1.size - 3)) o2.toList = some p)
    (hd : (drawOk C oB (Region.before oB) && (lateSq o1 (Region.before o1) (o1.size - 3) && drawOk C (o1.toList.take (o1.size - 3)).toArray (Region.before (o1.toList.take (o1.size - 3)).toArray))) = true)
    (hB : ExD C n oB oB.toList 0 (junkF ops.toList φ) σ [] [] (fun x _ s => x = .normal ∧ s = σ'))
    (hA : ExD C n (o1.toList.take (o1.size - 3)).toArray (o1.toList.take (o1.size - 3)).toArray.toList 0 (junkF ops.toList φ) σ [] [] (fun x φ1 s => x = .normal ∧ ∃ x3 φ3, lateTail C n p φ1 s = some (x3, φ3, σ')))
    (h : Q .normal (junkF (o1.toList ++ o2.toList ++ oB.toList) (junkF ops.toList φ)) σ') : Ex C n (.seq (.region i0 ops true) (.cond (.tmp t) (.seq (.region i1 o1 true) (.region i2 o2 false)) (.region iB oB true))) φ σ Q := by
  have hc : coinP C n (.region i0 ops true) (.cond (.tmp t) (.seq (.region i1 o1 true) (.region i2 o2 false)) (.region iB oB true)) = some ⟨ops, o1, o2, oB⟩ := by
    unfold coinOk at hq
    unfold coinP
    dsimp only
    split at hq
    · rename_i e c t' hr
      simp only [Bool.and_eq_true, Bool.not_eq_true', decide_eq_true_eq] at hq
      rw [hr]
      simp only [if_pos (show t' = t ∧ drawOk C ops (Region.before ops) = false ∧ (lateP (ops.toList.drop (ops.size - 5))).isNone = true from ⟨hq.1, hq.2.1, hq.2.2⟩)]
    · cases hq
  exact Ex.coin (q := ⟨ops, o1, o2, oB⟩) hc hp hd hB hA h
end
end Go.DM
namespace Go.DM
open Go Go.RowKit
theorem Inv.toBelow {w0 w' : World} {σ : St} {k : K} (h : Inv w0 σ k) (hb : Below k.w.heap.size k.w w') : Inv w0 σ (k.wd w') ∧ k.le (k.wd w') := by
  have hle : k.le (k.wd w') := K.le_of h _ rfl (fun _ _ h => h) (fun _ _ h => h) (fun _ _ h => h) (fun _ _ _ h => h) (fun id c h _ => ⟨id, h⟩) (fun c n hf => hb.block c (h.frz_lt hf)) (fun c o hu => ⟨(hb.block c (lt_of_heap hu.1)).trans hu.1, hu.2.1, hu.2.2⟩) (fun c cs e fr hh => ⟨cs, fr, (hb.block c (lt_of_heap hh)).trans hh, rfl⟩)
  refine ⟨⟨h.base, h.below.trans (hb.mono h.below.size), fun b x hx => ?_, h.next, fun b c hc => Nat.lt_of_lt_of_le (h.dom b c hc) hb.size, h.inj, fun c n hf => ?_, fun id e ht => ?_, h.tnext, h.odom, h.tinj, h.liv⟩, hle⟩
  · obtain ⟨c, o, h1, h2, h3, h4, h5⟩ := h.blk b x hx
    exact ⟨c, o, h1, h2, h3, (hb.block c (lt_of_heap h4)).trans h4, h5.mono hle⟩
  · obtain ⟨cs, e, fr, h1, h2⟩ := h.frz c n hf
    exact ⟨cs, e, fr, (hb.block c (lt_of_heap h1)).trans h1, h2⟩
  · obtain ⟨hl, c, m, cs, lo, hi, h1, h2, h3, h4, h5⟩ := h.tok id e ht
    exact ⟨hl, c, m, cs, lo, hi, h1, h2, h3, (hb.block c (lt_of_heap h4)).trans h4, h5⟩

section
variable {P : Program} {f : FuncId} {us : Array Value} {k : K} {w0 : World} {σ : St} {v : Value} {x : A}
/-- a function that gives a scalar and keeps what was there -/
theorem out_below (hI : Inv w0 σ k) (hs : scal v = true) (h : Calls P f us k.w fun e w' => e = .returned v ∧ Below k.w.heap.size k.w w') : Calls P f us k.w (OutPost w0 k (.ret (.v v)) σ) :=
  h.mono fun _e w' ⟨he, hb⟩ => ⟨k.wd w', v, he, rfl, (hI.toBelow hb).2, (hI.toBelow hb).1, .v hs⟩
theorem out_same (hI : Inv w0 σ k) (hs : scal v = true) (h : Calls P f us k.w fun e w' => e = .returned v ∧ w' = k.w) : Calls P f us k.w (OutPost w0 k (.ret (.v v)) σ) :=
  out_below hI hs (h.mono fun e w' ⟨he, hb⟩ => ⟨he, by rw [hb]; exact Below.refl _ _⟩)
def strsA (l : List ByteArray) : List A := l.map fun b => .v (.string b)
/-- a function that gives a new row of strings -/
theorem out_strs (hI : Inv w0 σ k) {l : List ByteArray} {e : TypeId} {n : Nat} (hn : n = l.length) (h : Calls P f us k.w fun en w' => en = .returned (.slice (some ⟨k.w.heap.size, 0, none⟩) n n) ∧ w' = k.w.alloc (.cells (l.map Value.string).toArray e)) :
    Calls P f us k.w (OutPost w0 k (.ret (.sl 1 (strsA l) .no)) σ) := by
  refine h.mono fun en w' ⟨he, hb⟩ => ?_
  obtain ⟨h1, h2, h3, h4⟩ := hI.lay (us := (l.map Value.string).toArray) (e := e) (fr := (0, 0)) (n := l.length) (by simp)
  refine ⟨_, _, he, ?_, h2, h1, ?_⟩
  · rw [hb]; rfl
  · subst hn
    have hc : (strsA l).length = l.length := by simp [strsA]
    have := Rel.sl (k := k.lay (.cells (l.map Value.string).toArray e (0, 0)) l.length) (sz := 1) (cs := strsA l) (ap := .no) (c := k.w.heap.size) (i := 0) (n := l.length) (cap := l.length) (fun j => .string (l.getD j .empty)) h3 (by rw [hc]; omega)
      (fun j a hj => by
        have hlt : j < l.length := by have := (List.getElem?_eq_some_iff.1 hj).1; rw [hc] at this; exact this
        show (k.w.alloc _).cell? ⟨k.w.heap.size, 0 + j, none⟩ = _
        rw [cell_get (cs := (l.map Value.string).toArray) (e := e) (fr := (0, 0)) (heap_alloc_same _ _)]
        simp [hlt])
      (fun j a hj => by
        have hlt : j < l.length := by have := (List.getElem?_eq_some_iff.1 hj).1; rw [hc] at this; exact this
        have : a = .v (.string l[j]) := by simp [strsA, hlt] at hj; exact hj.symm
        subst this
        simp [hlt]
        exact .v rfl)
      (by omega) (by omega) (by rw [hc]; omega) trivial
    rw [hc, Nat.div_one] at this
    exact this
end

def containsT (s t : ByteArray) : Option Bool := match t.data.toList with
  | [c] => some (decide (0 ≤ Lib.indexByte s.data.toList c))
  | _ => none
def containsG : List A → St → Option (A × St)
  | [.v (.string s), .v (.string t)], σ => (containsT s t).map fun b => (.v (.bool b), σ)
  | _, _ => none
def asciiL (l : List UInt8) : Bool := l.all fun b => decide (b.toNat < 128)
def trimLeftT (s t : ByteArray) : Option ByteArray := if t.size < 4294967281 ∧ asciiL t.data.toList = true then some ⟨(Lib.trimLeftS s.data.toList t.data.toList).toArray⟩ else none
def trimLeftG : List A → St → Option (A × St)
  | [.v (.string s), .v (.string t)], σ => (trimLeftT s t).map fun b => (.v (.string b), σ)
  | _, _ => none
def indexByteT (s : ByteArray) (c : Int) : Option Int := some (Lib.indexByte s.data.toList c.toNat.toUInt8)
def indexByteG : List A → St → Option (A × St)
  | [.v (.string s), .v (.int .u8 c)], σ => (indexByteT s c).map fun b => (.v (.int .i64 b), σ)
  | _, _ => none
def splitT (s t : ByteArray) : Option (List ByteArray) := if s.size < 4294967281 ∧ 1 ≤ t.size then some (Lib.splitB t 0 (Lib.countB s t) s) else none
def splitG : List A → St → Option (A × St)
  | [.v (.string s), .v (.string t)], σ => (splitT s t).map fun l => (.sl 1 (strsA l) .no, σ)
  | _, _ => none

/-- the machine's run is the call's, with functions by hand -/
theorem calls_of_run' {C : Cfg} (hm : C.P.follows .mixedOrders = true) {w : World} (hpr : PrimOk C w) (hg : GlobOk C (start w)) {f : FuncId} {args : List A} {us : List Value} (hr : RelL (start w) args us) {fuel : Nat} {x : A} {σ' : St}
    (h : call C fuel f args σ0 = some (.ret x, σ')) : Calls C.P f us.toArray w fun e w' => ∃ v k', e = .returned v ∧ Below w.heap.size w w' ∧ Rel k' x v := by
  refine (call_good (drOk hm) hpr fuel f args σ0 (.ret x) σ' (start w) us h (start_inv w) hg hr).mono (fun e w' he => ?_)
  obtain ⟨k', v, h1, h2, h3, h4, h5⟩ := he
  subst h2
  exact ⟨v, k', h1, h4.below, h5⟩

def errA (t : TypeId) (b : Bool) : A := cond b (.ifc t .junk) (.v .nilIface)

def containsRuneT (s : ByteArray) (r : Int) : Option Bool := if 0 ≤ r ∧ r < 128 then some (decide (0 ≤ Lib.indexByte s.data.toList r.toNat.toUInt8)) else none
def containsRuneG : List A → St → Option (A × St)
  | [.v (.string s), .v (.int .i32 r)], σ => (containsRuneT s r).map fun b => (.v (.bool b), σ)
  | _, _ => none
def itoaT (n : Int) : Option ByteArray := if -9223372036854775808 ≤ n ∧ n ≤ 9223372036854775807 then some ⟨(Lib.itoa n).toArray⟩ else none
def itoaG : List A → St → Option (A × St)
  | [.v (.int .i64 n)], σ => (itoaT n).map fun b => (.v (.string b), σ)
  | _, _ => none
def atoiT (s : ByteArray) : Option (Int × Bool) := if s.size ≤ 281474976710656 then match Lib.atoiAll s.data.toList with
    | .ok v => some (v, false)
    | Lib.NumEnd.syntax => some (0, true)
    | .range => some (Lib.atoiSat s.data.toList, true)
  else none
def atoiG (t : TypeId) : List A → St → Option (A × St)
  | [.v (.string s)], σ => (atoiT s).map fun b => (.tup [.v (.int .i64 b.1), errA t b.2], σ)
  | _, _ => none

def fieldsT (s : ByteArray) : Option (List ByteArray) := if s.size < 4294967281 ∧ asciiL s.data.toList = true then some ((Lib.fields s.data.toList).map fun l => ⟨l.toArray⟩) else none
def fieldsG : List A → St → Option (A × St)
  | [.v (.string s)], σ => (fieldsT s).map fun l => (.sl 1 (strsA l) .no, σ)
  | _, _ => none
def cutT (s t : ByteArray) : Option (ByteArray × ByteArray × Bool) := if s.size < 4294967281 then some (⟨(Lib.cut s.data.toList t.data.toList).1.toArray⟩, ⟨(Lib.cut s.data.toList t.data.toList).2.1.toArray⟩, (Lib.cut s.data.toList t.data.toList).2.2) else none
def cutG : List A → St → Option (A × St)
  | [.v (.string s), .v (.string t)], σ => (cutT s t).map fun r => (.tup [.v (.string r.1), .v (.string r.2.1), .v (.bool r.2.2)], σ)
  | _, _ => none
def trimT (s t : ByteArray) : Option ByteArray := if s.size ≤ 9223372036854775807 ∧ t.size < 4294967281 ∧ asciiL t.data.toList = true then some ⟨(Lib.trimS s.data.toList t.data.toList).toArray⟩ else none
def trimG : List A → St → Option (A × St)
  | [.v (.string s), .v (.string t)], σ => (trimT s t).map fun b => (.v (.string b), σ)
  | _, _ => none

/-- a closed call that comes to true, with functions by hand -/
theorem calls_true2 {C : Cfg} (hm : C.P.follows .mixedOrders = true) {w : World} (hpr : PrimOk C w) (hg : GlobOk C (start w)) {f : FuncId} {args : List A} {us : List Value} (hr : RelL (start w) args us) {fuel : Nat}
    (h : isTrue (call C fuel f args σ0) = true) : Calls C.P f us.toArray w fun e w' => e = .returned (.bool true) ∧ Below w.heap.size w w' := by
  unfold isTrue at h
  split at h
  · rename_i σ' hc
    refine (calls_of_run' hm hpr hg hr hc).mono (fun e w' ⟨v, k', h1, h2, h3⟩ => ?_)
    have := rel_v_inv h3
    subst this
    exact ⟨h1, h2⟩
  · cases h
end Go.DM
namespace Go.DM
open Go Go.RowKit
/-- data without addresses of blocks, without rights to append -/
def noAp : Ap → Bool
  | .no => true
  | _ => false
mutual
def pureA : A → Bool
  | .v _ => true
  | .sp cs _ ap => noAp ap && pureL cs
  | .sl _ cs ap => noAp ap && pureL cs
  | .ifc _ x => pureA x
  | .agg cs => pureL cs
  | .tup cs => pureL cs
  | .fn _ a c => pureL a && pureL c
  | _ => false
def pureL : List A → Bool
  | [] => true
  | a :: r => pureA a && pureL r
end
theorem pureL_get : ∀ {l : List A} (_ : pureL l = true) {j : Nat} {a : A}, l[j]? = some a → pureA a = true
  | [], _, j, a, h => by simp at h
  | b :: r, hp, 0, a, h => by
    simp only [pureL, Bool.and_eq_true] at hp
    simp at h; subst h; exact hp.1
  | b :: r, hp, j + 1, a, h => by
    simp only [pureL, Bool.and_eq_true] at hp
    exact pureL_get hp.2 (by simpa using h)
theorem noAp_eq {ap : Ap} (h : noAp ap = true) : ap = .no := by cases ap <;> first | rfl | cases h
theorem Rel.pure {k k' : K} (hf : ∀ c n, k.frz c = some n → ∃ n', n ≤ n' ∧ k'.frz c = some n') (hc : ∀ c n i, k.frz c = some n → i < n → k'.w.cell? ⟨c, i, none⟩ = k.w.cell? ⟨c, i, none⟩) {a : A} {v : Value} (hr : Rel k a v) (hp : pureA a = true) : Rel k' a v := by
  induction hr with
  | v hs => exact .v hs
  | sp u hfz hl hcell hr hs ih =>
    simp only [pureA, Bool.and_eq_true] at hp
    obtain ⟨n', h1, h2⟩ := hf _ _ hfz
    have := noAp_eq hp.1
    subst this
    exact .sp u h2 (by omega) (fun j a ha => by rw [hc _ _ _ hfz (by have := lt_of_get ha; omega)]; exact hcell j a ha) (fun j a ha => ih j a ha (pureL_get hp.2 ha)) trivial
  | sl u hfz hl hcell hr hz hm hcap hap ih =>
    simp only [pureA, Bool.and_eq_true] at hp
    obtain ⟨n', h1, h2⟩ := hf _ _ hfz
    have := noAp_eq hp.1
    subst this
    exact .sl u h2 (by omega) (fun j a ha => by rw [hc _ _ _ hfz (by have := lt_of_get ha; omega)]; exact hcell j a ha) (fun j a ha => ih j a ha (pureL_get hp.2 ha)) hz hm hcap trivial
  | sl0 hz => exact .sl0 hz
  | fn h1 h2 _ _ ih1 ih2 =>
    simp only [pureA, Bool.and_eq_true] at hp
    exact .fn h1 h2 (fun j a u ha hu => ih1 j a u ha hu (pureL_get hp.1 ha)) (fun j a u ha hu => ih2 j a u ha hu (pureL_get hp.2 ha))
  | ifc _ ih => exact .ifc (ih (by simpa only [pureA] using hp))
  | agg h1 _ ih => exact .agg h1 (fun j a u ha hu => ih j a u ha hu (pureL_get (by simpa only [pureA] using hp) ha))
  | tup h1 _ ih => exact .tup h1 (fun j a u ha hu => ih j a u ha hu (pureL_get (by simpa only [pureA] using hp) ha))
  | ptr hb => cases hp
  | ms hb hl hx => cases hp
  | mv hb hl hh hs => cases hp
  | mp hb => cases hp
  | raw ho hc hl hm => cases hp
  | junk => cases hp
theorem RelL.pure {k k' : K} (hf : ∀ c n, k.frz c = some n → ∃ n', n ≤ n' ∧ k'.frz c = some n') (hc : ∀ c n i, k.frz c = some n → i < n → k'.w.cell? ⟨c, i, none⟩ = k.w.cell? ⟨c, i, none⟩) {l : List A} {us : List Value} (hr : RelL k l us) (hp : pureL l = true) : RelL k' l us :=
  ⟨hr.1, fun j a u ha hu => (hr.2 j a u ha hu).pure hf hc (pureL_get hp ha)⟩
mutual
/-- without rights to append -/
def strip : A → A
  | .sp cs o _ => .sp (stripL cs) o .no
  | .sl sz cs _ => .sl sz (stripL cs) .no
  | .ifc t x => .ifc t (strip x)
  | .agg cs => .agg (stripL cs)
  | .tup cs => .tup (stripL cs)
  | .fn f a c => .fn f (stripL a) (stripL c)
  | .v x => .v x
  | .ptr b o => .ptr b o
  | .ms b o len cap => .ms b o len cap
  | .mp b => .mp b
  | .raw id len => .raw id len
  | .junk => .junk
def stripL : List A → List A
  | [] => []
  | a :: r => strip a :: stripL r
end
theorem stripL_map : ∀ l : List A, stripL l = l.map strip
  | [] => rfl
  | a :: r => by rw [stripL, stripL_map r]; rfl
theorem stripL_len (l : List A) : (stripL l).length = l.length := by rw [stripL_map, List.length_map]
theorem stripL_get {l : List A} {j : Nat} {a : A} (h : (stripL l)[j]? = some a) : ∃ b, l[j]? = some b ∧ a = strip b := by
  rw [stripL_map, List.getElem?_map] at h
  cases hb : l[j]? with
  | none => rw [hb] at h; cases h
  | some b => rw [hb] at h; cases h; exact ⟨b, rfl, rfl⟩
theorem Rel.strip {k : K} {a : A} {v : Value} (hr : Rel k a v) : Rel k (DM.strip a) v := by
  induction hr with
  | v hs => exact .v hs
  | sp u hfz hl hcell hr hs ih =>
    rw [DM.strip]
    refine .sp u hfz (by rw [stripL_len]; exact hl) (fun j a ha => ?_) (fun j a ha => ?_) trivial
    · obtain ⟨b, h1, h2⟩ := stripL_get ha; exact hcell j b h1
    · obtain ⟨b, h1, rfl⟩ := stripL_get ha; exact ih j b h1
  | @sl sz cs ap c i n cap u hfz hl hcell hr hz hm hcap hap ih =>
    rw [DM.strip]
    have := Rel.sl (k := k) (sz := sz) (cs := stripL cs) (ap := .no) (c := c) (i := i) (n := n) (cap := cap) u hfz (by rw [stripL_len]; exact hl)
      (fun j a ha => by obtain ⟨b, h1, h2⟩ := stripL_get ha; exact hcell j b h1) (fun j a ha => by obtain ⟨b, h1, rfl⟩ := stripL_get ha; exact ih j b h1) hz (by rw [stripL_len]; exact hm) (by rw [stripL_len]; exact hcap) trivial
    rw [stripL_len] at this
    exact this
  | sl0 hz => rw [DM.strip, stripL]; exact .sl0 hz
  | fn h1 h2 _ _ ih1 ih2 =>
    rw [DM.strip]
    refine .fn (by rw [stripL_len]; exact h1) (by rw [stripL_len]; exact h2) (fun j a u ha hu => ?_) (fun j a u ha hu => ?_)
    · obtain ⟨b, g1, rfl⟩ := stripL_get ha; exact ih1 j b u g1 hu
    · obtain ⟨b, g1, rfl⟩ := stripL_get ha; exact ih2 j b u g1 hu
  | ifc _ ih => rw [DM.strip]; exact .ifc ih
  | agg h1 _ ih =>
    rw [DM.strip]
    refine .agg (by rw [stripL_len]; exact h1) (fun j a u ha hu => ?_)
    obtain ⟨b, g1, rfl⟩ := stripL_get ha; exact ih j b u g1 hu
  | tup h1 _ ih =>
    rw [DM.strip]
    refine .tup (by rw [stripL_len]; exact h1) (fun j a u ha hu => ?_)
    obtain ⟨b, g1, rfl⟩ := stripL_get ha; exact ih j b u g1 hu
  | ptr hb => exact .ptr hb
  | ms hb hl hx => exact .ms hb hl hx
  | mv hb hl hh hs => exact .mv hb hl hh hs
  | mp hb => exact .mp hb
  | raw ho hc hl hm => exact .raw ho hc hl hm
  | junk => exact .junk
theorem RelL.strip {k : K} {l : List A} {us : List Value} (hr : RelL k l us) : RelL k (stripL l) us :=
  ⟨by rw [stripL_len]; exact hr.1, fun j a u ha hu => by obtain ⟨b, h1, rfl⟩ := stripL_get ha; exact (hr.2 j b u h1 hu).strip⟩
/-- the same world, and no block known -/
def K.fresh (k : K) : K := { base := k.w.heap.size, w := k.w, blk := fun _ => none, frz := k.frz, own := fun _ => none, live := fun _ => false }
/-- back to what was known -/
def K.back (k k1 : K) : K := { k with w := k1.w, frz := fun c => if c < k.w.heap.size then k.frz c else k1.frz c }
section
variable {w0 : World} {σ : St} {k : K}
theorem Inv.fresh (h : Inv w0 σ k) : Inv k.w σ0 k.fresh := by
  refine ⟨rfl, Below.refl _ _, fun b x h => ?_, fun b h => rfl, fun b c h => ?_, fun b b' c x x' h => ?_, h.frz, fun id e h => ?_, fun id h => rfl, fun id c h => ?_, fun id id' e e' c h => ?_, fun id c h => ?_⟩
  · simp [σ0] at h
  · simp [K.fresh] at h
  · simp [σ0] at h
  · simp [σ0] at h
  · simp [K.fresh] at h
  · simp [σ0] at h
  · simp [K.fresh] at h
theorem Inv.back (h : Inv w0 σ k) {σ1 : St} {k1 : K} (h1 : Inv k.w σ1 k1) : Inv w0 σ (k.back k1) ∧ k.le (k.back k1) := by
  have hb := h1.below
  have hlt : ∀ {c n}, k.frz c = some n → (k.back k1).frz c = some n := fun {c n} hf => by simp only [K.back, if_pos (h.frz_lt hf)]; exact hf
  have hle : k.le (k.back k1) := K.le_of h _ rfl (fun _ _ h => h) (fun c n hf => hlt hf) (fun _ _ h => h) (fun _ _ _ h => h) (fun id c h _ => ⟨id, h⟩) (fun c n hf => hb.block c (h.frz_lt hf))
    (fun c o hu => ⟨(hb.block c (lt_of_heap hu.1)).trans hu.1, hu.2.1, by simp only [K.back, if_pos (lt_of_heap hu.1)]; exact hu.2.2⟩) (fun c cs e fr hh => ⟨cs, fr, (hb.block c (lt_of_heap hh)).trans hh, rfl⟩)
  refine ⟨⟨h.base, h.below.trans (hb.mono h.below.size), fun b x hx => ?_, h.next, fun b c hc => Nat.lt_of_lt_of_le (h.dom b c hc) hb.size, h.inj, fun c n hf => ?_, fun id e ht => ?_, h.tnext, fun id c ho => ?_, h.tinj, h.liv⟩, hle⟩
  · obtain ⟨c, o, g1, g2, g3, g4, g5⟩ := h.blk b x hx
    exact ⟨c, o, g1, g2, by simp only [K.back, if_pos (lt_of_heap g4)]; exact g3, (hb.block c (lt_of_heap g4)).trans g4, g5.mono hle⟩
  · simp only [K.back] at hf
    split at hf
    · obtain ⟨cs, e, fr, g1, g2⟩ := h.frz c n hf
      exact ⟨cs, e, fr, (hb.block c (lt_of_heap g1)).trans g1, g2⟩
    · exact h1.frz c n hf
  · obtain ⟨hl, c, m, cs, lo, hi, g1, g2, g3, g4, g5⟩ := h.tok id e ht
    exact ⟨hl, c, m, cs, lo, hi, g1, g2, hlt g3, (hb.block c (lt_of_heap g4)).trans g4, g5⟩
  · obtain ⟨n, hn⟩ := h.odom id c ho
    exact ⟨n, hlt hn⟩
theorem back_frz (_ : Inv w0 σ k) {k1 : K} (hle : k.fresh.le k1) {c n : Nat} (hf : k1.frz c = some n) : (k.back k1).frz c = some n := by
  simp only [K.back]
  split
  · rename_i hc
    cases hk : k.frz c with
    | none =>
      have hh : k.w.heap[c]? = some k.w.heap[c] := Array.getElem?_eq_getElem hc
      have := (hle.unk c _ ⟨hh, fun b e => by simp [K.fresh] at e, hk⟩).2.2
      rw [this] at hf; cases hf
    | some m =>
      have := hle.same c m hk (fun id e => by simp [K.fresh] at e)
      rw [this] at hf
      exact hf
  · exact hf
/-- a closed call, wherever it is made -/
theorem closed_call {C : Cfg} (hm : C.P.follows .mixedOrders = true) (hI : Inv w0 σ k) (hg : GlobOk C k) (hgp : ∀ g a, C.glob g = some a → pureA a = true) (hpr : PrimOk C k.w) {f : FuncId} {args : List A} {us : List Value} {x : A} {σ1 : St} {fuel : Nat}
    (h : call C fuel f (stripL args) σ0 = some (.ret x, σ1)) (ha : pureL (stripL args) = true) (hx : pureA (strip x) = true) (hr : RelL k args us) : Calls C.P f us.toArray k.w (OutPost w0 k (.ret (strip x)) σ) := by
  have same : ∀ c n, k.frz c = some n → ∃ n', n ≤ n' ∧ k.fresh.frz c = some n' := fun c n h => ⟨n, Nat.le_refl _, h⟩
  refine (call_good (drOk hm) hpr fuel f (stripL args) σ0 (.ret x) σ1 k.fresh us h hI.fresh (fun g a e => (hg g a e).pure same (fun _ _ _ _ _ => rfl) (hgp g a e)) (hr.strip.pure same (fun _ _ _ _ _ => rfl) ha)).mono (fun e w' he => ?_)
  obtain ⟨k1, v, h1, h2, h3, h4, h5⟩ := he
  obtain ⟨g1, g2⟩ := hI.back h4
  exact ⟨k.back k1, v, h1, h2, g2, g1, h5.strip.pure (fun c n hf => ⟨n, Nat.le_refl _, back_frz hI h3 hf⟩) (fun _ _ _ _ _ => rfl) hx⟩
end
end Go.DM
namespace Go.DM
open Go Go.RowKit
/-- fewer blocks, fewer rights -/
structure Gc (σ σ1 : St) : Prop where
  next : σ1.next = σ.next
  nextT : σ1.nextT = σ.nextT
  blk : ∀ b x, σ1.blks.get b = some x → σ.blks.get b = some x
  tok : ∀ id e, σ1.toks.get id = some e → σ.toks.get id = some e
def K.keep (k : K) (σ1 : St) : K := { k with live := fun id => k.live id && (σ1.toks.get id).isSome }
theorem Inv.gc {w0 : World} {σ σ1 : St} {k : K} (h : Inv w0 σ k) (g : Gc σ σ1) : Inv w0 σ1 (k.keep σ1) ∧ k.le (k.keep σ1) := by
  have hl : ∀ id, (k.keep σ1).live id = true → k.live id = true := fun id h => by
    simp only [K.keep, Bool.and_eq_true] at h; exact h.1
  have hle : k.le (k.keep σ1) := K.le_of h _ rfl (fun _ _ h => h) (fun _ _ h => h) (fun _ _ h => h) (fun id _ _ e => hl id e) (fun x c h _ => ⟨x, h⟩) (fun _ _ _ => rfl) (fun _ _ h => h) (fun _ cs _ fr h => ⟨cs, fr, h, rfl⟩)
  refine ⟨⟨h.base, h.below, fun b x hx => ?_, fun b hb => h.next b (by rw [← g.next]; exact hb), h.dom, fun b b' c x x' h1 h2 => h.inj b b' c x x' (g.blk _ _ h1) (g.blk _ _ h2), h.frz, fun id e ht => ?_, fun id hi => h.tnext id (by rw [← g.nextT]; exact hi), h.odom,
    fun id id' e e' c h1 h2 => h.tinj id id' e e' c (g.tok _ _ h1) (g.tok _ _ h2), fun id c ho hv => ?_⟩, hle⟩
  · obtain ⟨c, o, h1, h2, h3, h4, h5⟩ := h.blk b x (g.blk _ _ hx)
    exact ⟨c, o, h1, h2, h3, h4, h5.mono hle⟩
  · obtain ⟨h1, h2⟩ := h.tok id e (g.tok _ _ ht)
    exact ⟨by simp only [K.keep, h1, ht]; rfl, h2⟩
  · simp only [K.keep, Bool.and_eq_true] at hv
    exact Option.isSome_iff_exists.1 hv.2
/-- rounds of a loop -/
inductive ExL (C : Cfg) (callF : CallF) (n : Nat) (a : Code) : Nat → Fr → St → X × Fr × St → Prop
  | of {k : Nat} {φ : Fr} {σ : St} {r : X × Fr × St} : exec C callF n k (.loop a) φ σ = some r → ExL C callF n a k φ σ r
  | gc {m : Nat} {φ : Fr} {σ σ1 : St} {r : X × Fr × St} : Gc σ σ1 → ExL C callF n a m φ σ1 r → ExL C callF n a m φ σ r
  | next {m k : Nat} {φ φ1 : Fr} {σ σ1 : St} {r : X × Fr × St} : exec C callF n k a φ σ = some (.normal, φ1, σ1) → ExL C callF n a m φ1 σ1 r → ExL C callF n a (m + 1) φ σ r
  | nextS {m : Nat} {φ φ1 : Fr} {σ σ1 : St} {r : X × Fr × St} : (∀ (w0 : World), DrOk C w0 → CallOk C w0 callF → ∀ {k : K} {act : Act}, Inv w0 σ k → GlobOk C k → FrRel k n φ act → ∀ (Q : Exit → Act → World → Prop), (∀ e a' w', Ends w0 k n (.normal, φ1, σ1) e a' w' → Q e a' w') → a.wp C.P Q act k.w) → ExL C callF n a m φ1 σ1 r → ExL C callF n a (m + 1) φ σ r
/-- a run in pieces -/
inductive ExG (C : Cfg) (callF : CallF) (n : Nat) : Code → Fr → St → X × Fr × St → Prop
  | of {k : Nat} {c : Code} {φ : Fr} {σ : St} {r : X × Fr × St} : exec C callF n k c φ σ = some r → ExG C callF n c φ σ r
  | gc {c : Code} {φ : Fr} {σ σ1 : St} {r : X × Fr × St} : Gc σ σ1 → ExG C callF n c φ σ1 r → ExG C callF n c φ σ r
  | seq {a b : Code} {φ φ1 : Fr} {σ σ1 : St} {r : X × Fr × St} : ExG C callF n a φ σ (.normal, φ1, σ1) → ExG C callF n b φ1 σ1 r → ExG C callF n (.seq a b) φ σ r
  | seqX {a b : Code} {φ φ1 : Fr} {σ σ1 : St} {x : X} : x ≠ .normal → ExG C callF n a φ σ (x, φ1, σ1) → ExG C callF n (.seq a b) φ σ (x, φ1, σ1)
  | loop {a : Code} {m : Nat} {φ : Fr} {σ : St} {r : X × Fr × St} : ExL C callF n a m φ σ r → ExG C callF n (.loop a) φ σ r
  | blockX {a : Code} {id : Nat} {φ φ1 : Fr} {σ σ1 : St} : ExG C callF n a φ σ (.exit id, φ1, σ1) → ExG C callF n (.block id a) φ σ (.normal, φ1, σ1)
  | blockN {a : Code} {id : Nat} {φ φ1 : Fr} {σ σ1 : St} {x : X} : x ≠ .exit id → ExG C callF n a φ σ (x, φ1, σ1) → ExG C callF n (.block id a) φ σ (x, φ1, σ1)
section
variable {C : Cfg} {w0 : World} {callF : CallF} {n : Nat}
theorem ends_exit {k : K} {x : X} {φ : Fr} {σ : St} {e : Exit} {a : Act} {w : World} (h : Ends w0 k n (x, φ, σ) e a w) : (e = .normal → x = .normal) ∧ (∀ j, e = .exit j → x = .exit j) := by
  cases x with
  | normal => obtain ⟨rfl, _⟩ := h; exact ⟨fun _ => rfl, fun j e => (by cases e)⟩
  | exit id => obtain ⟨rfl, _⟩ := h; exact ⟨fun e => (by cases e), fun j e => (by cases e; rfl)⟩
  | ret => obtain ⟨rfl, _⟩ := h; exact ⟨fun e => (by cases e), fun j e => (by cases e)⟩
  | pan x => obtain ⟨v, k', rfl, _⟩ := h; exact ⟨fun e => (by cases e), fun j e => (by cases e)⟩
theorem ExL.good (hd : DrOk C w0) (hc : CallOk C w0 callF) {a : Code} {m : Nat} {φ : Fr} {σ : St} {r : X × Fr × St} (h : ExL C callF n a m φ σ r) : ∀ {k : K} {act : Act}, Inv w0 σ k → GlobOk C k → FrRel k n φ act →
    ∀ (Q : Exit → Act → World → Prop), (∀ e a' w', Ends w0 k n r e a' w' → Q e a' w') → Code.rounds C.P a Q m act k.w := by
  induction h with
  | @of k φ σ r h => intro k' act hI hg hr Q hQ; exact (exec_good hd hc k).2 a φ σ k' act r h hI hg hr Q hQ
  | gc g _ ih =>
    intro k act hI hg hr Q hQ
    obtain ⟨h1, h2⟩ := hI.gc g
    exact ih h1 (hg.mono h2) (hr.mono h2) Q (fun e a' w' he => hQ e a' w' (he.mono h2))
  | @next m kk φ φ1 σ σ1 r h _ ih =>
    intro k act hI hg hr Q hQ
    rw [rounds_succ]
    refine (exec_good hd hc kk).1 a φ σ k act _ h hI hg hr _ (fun e a' w' he => ?_)
    obtain ⟨rfl, k', rfl, g1, g2, g3⟩ := he
    exact ih g2 (hg.mono g1) g3 Q (fun e a' w' he => hQ e a' w' (he.mono g1))
  | @nextS m φ φ1 σ σ1 r h _ ih =>
    intro k act hI hg hr Q hQ
    rw [rounds_succ]
    refine h w0 hd hc hI hg hr _ (fun e a' w' he => ?_)
    obtain ⟨rfl, k', rfl, g1, g2, g3⟩ := he
    exact ih g2 (hg.mono g1) g3 Q (fun e a' w' he => hQ e a' w' (he.mono g1))
theorem ExG.good (hd : DrOk C w0) (hc : CallOk C w0 callF) {c : Code} {φ : Fr} {σ : St} {r : X × Fr × St} (h : ExG C callF n c φ σ r) : ∀ {k : K} {act : Act}, Inv w0 σ k → GlobOk C k → FrRel k n φ act →
    ∀ (Q : Exit → Act → World → Prop), (∀ e a' w', Ends w0 k n r e a' w' → Q e a' w') → c.wp C.P Q act k.w := by
  induction h with
  | @of k c φ σ r h => intro k' act hI hg hr Q hQ; exact (exec_good hd hc k).1 c φ σ k' act r h hI hg hr Q hQ
  | gc g _ ih =>
    intro k act hI hg hr Q hQ
    obtain ⟨h1, h2⟩ := hI.gc g
    exact ih h1 (hg.mono h2) (hr.mono h2) Q (fun e a' w' he => hQ e a' w' (he.mono h2))
  | seq _ _ ih1 ih2 =>
    intro k act hI hg hr Q hQ
    refine wp_seq (ih1 hI hg hr _ (fun e a' w' he => ?_))
    obtain ⟨rfl, k', rfl, g1, g2, g3⟩ := he
    exact ih2 g2 (hg.mono g1) g3 Q (fun e a' w' he => hQ e a' w' (he.mono g1))
  | seqX hx _ ih =>
    intro k act hI hg hr Q hQ
    refine wp_seq (ih hI hg hr _ (fun e a' w' he => ?_))
    have hq := hQ e a' w' he
    cases e with
    | normal => exact absurd ((ends_exit he).1 rfl) hx
    | _ => exact hq
  | @loop a m φ σ r h => intro k act hI hg hr Q hQ; exact wp_loop_rounds m (h.good hd hc hI hg hr Q hQ)
  | blockX _ ih =>
    intro k act hI hg hr Q hQ
    refine wp_block (ih hI hg hr _ (fun e a' w' he => ?_))
    obtain ⟨rfl, he⟩ := he
    simp only [Exit.inBlock, if_true]
    exact hQ _ _ _ ⟨rfl, he⟩
  | @blockN a id φ φ1 σ σ1 x hx _ ih =>
    intro k act hI hg hr Q hQ
    refine wp_block (ih hI hg hr _ (fun e a' w' he => ?_))
    have hq := hQ e a' w' he
    cases e with
    | exit j =>
      have := (ends_exit he).2 j rfl
      have hj : j ≠ id := by rintro rfl; exact hx this
      simp only [Exit.inBlock, if_neg hj]
      exact hq
    | _ => exact hq
/-- what a call comes to at one place -/
def CallPt (C : Cfg) (w0 : World) (f : FuncId) (args : List A) (σ : St) (out : Out) (σ' : St) : Prop := ∀ (k : K) (us : List Value), Inv w0 σ k → GlobOk C k → RelL k args us → Calls C.P f us.toArray k.w (OutPost w0 k out σ')
theorem CallPt.gc {f : FuncId} {args : List A} {σ σ' σ1 : St} {x : A} (h : CallPt C w0 f args σ (.ret x) σ') (g : Gc σ' σ1) : CallPt C w0 f args σ (.ret x) σ1 := by
  intro k us hI hg hr
  refine (h k us hI hg hr).mono (fun e w he => ?_)
  obtain ⟨k', v, h1, h2, h3, h4, h5⟩ := he
  obtain ⟨g1, g2⟩ := h4.gc g
  exact ⟨k'.keep σ1, v, h1, h2, h3.trans g2, g1, h5.mono g2⟩
theorem callPt_of (hd : DrOk C w0) (hc : CallOk C w0 callF) {f : FuncId} {fn : Func} {c : Code} (hf : C.P.funcs[f]? = some fn) (hb : fn.body = some c) {args : List A} (hl : args.length ≤ fn.ntmps) {σ σ2 : St} {x : X} {φ : Fr} {l : List A}
    (h : ExG C callF fn.ntmps c ⟨argFr 0 args, []⟩ σ (x, φ, σ2)) (hx : x = .normal ∨ x = .ret) (hds : φ.ds = []) (hres : resA C φ σ2 fn.results.toList = some l) : CallPt C w0 f args σ (.ret (oneOrTup l)) σ2 := by
  intro k us hI hg hr
  refine calls_of_wp_defers hf hb (h.good hd hc hI hg (enter_good hr hl) _ (fun e a' w' he => ?_))
  have fin : ∀ (k' : K), k'.w = w' → k.le k' → Inv w0 σ2 k' → FrRel k' fn.ntmps φ a' → Leaves C.P fn a'.tmps (OutPost w0 k (.ret (oneOrTup l)) σ2) a'.defers .returning w' := by
    rintro k' rfl g1 g2 g3
    refine leave_good (p'' := none) hd hc (fuel := 0) [] a'.defers σ2 σ2 none k' .returning rfl g2 (hg.mono g1) (by have := g3.ds; rw [hds] at this; exact this) rfl (fun k2 u2 e1 e2 e3 => ?_)
    have : u2 = .returning := e3
    subst this
    obtain ⟨v, q1, q2⟩ := results_good (C := C) e2 (fun t => (g3.slot t).mono e1) hres
    exact ⟨v, q1, k2, v, rfl, rfl, g1.trans e1, e2, q2⟩
  rcases hx with rfl | rfl
  · obtain ⟨rfl, k', h1, g1, g2, g3⟩ := he; exact fin k' h1 g1 g2 g3
  · obtain ⟨rfl, k', h1, g1, g2, g3⟩ := he; exact fin k' h1 g1 g2 g3
end
/-- a call, the calls in it being given -/
noncomputable def call1 (C : Cfg) (callF : CallF) (k : Nat) (f : FuncId) (args : List A) (σ : St) : Option (Out × St) :=
    match C.prim f with
    | some g => match g args σ with
      | some (x, σ') => some (.ret x, σ')
      | none => none
    | none => match C.P.funcs[f]? with
      | some fn => match fn.body with
        | some c => if args.length ≤ fn.ntmps then
            match exec C callF fn.ntmps (k + 1) c ⟨argFr 0 args, []⟩ σ with
            | some (.normal, φ, σ') | some (.ret, φ, σ') => match leave C callF (k + 1) φ.ds σ' none with
              | some (σ'', none) => match resA C φ σ'' fn.results.toList with
                | some l => some (.ret (oneOrTup l), σ'')
                | none => none
              | _ => none
            | some (.pan x, φ, σ') => match leave C callF (k + 1) φ.ds σ' (some x) with
              | some (σ'', none) => match resA C φ σ'' fn.results.toList with
                | some l => some (.ret (oneOrTup l), σ'')
                | none => none
              | some (σ'', some y) => some (.pan y, σ'')
              | none => none
            | _ => none
          else none
        | none => none
      | none => none
section
variable {C : Cfg} {w0 : World} {callF : CallF} {n : Nat}
theorem call1_good (hd : DrOk C w0) (hpr : PrimOk C w0) (hc : CallOk C w0 callF) (fuel : Nat) : CallOk C w0 (call1 C callF fuel) := by
    intro f args σ out σ' k us h hI hg hr
    simp only [call1] at h
    split at h
    · rename_i g hgp
      split at h
      · rename_i x σ2 h1
        cases h
        exact hpr f g args σ _ x k us hgp h1 hI hg hr
      · cases h
    split at h
    case h_2 => cases h
    rename_i fn hf
    split at h
    case h_2 => cases h
    rename_i c hb
    split at h
    case isFalse => cases h
    rename_i hl
    have fin : ∀ (φ : Fr) (σ2 : St) (p : Option A), (match leave C callF (fuel + 1) φ.ds σ2 p with
        | some (σ'', none) => match resA C φ σ'' fn.results.toList with
          | some l => some (Out.ret (oneOrTup l), σ'')
          | none => none
        | some (σ'', some y) => some (.pan y, σ'')
        | none => none) = some (out, σ') → ∀ (k' : K) (a : Act) (u : FrameMode), k.le k' → Inv w0 σ2 k' → FrRel k' fn.ntmps φ a → PSet k' p u → Leaves C.P fn a.tmps (OutPost w0 k out σ') a.defers u k'.w := by
      intro φ σ2 p h k' a u g1 g2 g3 g4
      split at h
      · rename_i σ3 hlv
        refine leave_good hd hc φ.ds a.defers σ2 σ3 p none k' u hlv g2 (hg.mono g1) g3.ds g4 (fun k2 u2 e1 e2 e3 => ?_)
        have : u2 = .returning := e3
        subst this
        split at h
        · rename_i l hres
          cases h
          obtain ⟨v, q1, q2⟩ := results_good (C := C) e2 (fun t => (g3.slot t).mono e1) hres
          exact ⟨v, q1, k2, v, rfl, rfl, g1.trans e1, e2, q2⟩
        · cases h
      · rename_i σ3 y hlv
        cases h
        refine leave_good hd hc φ.ds a.defers σ2 σ' p (some y) k' u hlv g2 (hg.mono g1) g3.ds g4 (fun k2 u2 e1 e2 e3 => ?_)
        obtain ⟨v, rfl, hv⟩ := e3
        exact ⟨k2, v, rfl, rfl, g1.trans e1, e2, hv⟩
      · cases h
    have weak : ∀ (φ : Fr) (σ2 : St), (match leave C callF (fuel + 1) φ.ds σ2 none with
        | some (σ'', none) => match resA C φ σ'' fn.results.toList with
          | some l => some (Out.ret (oneOrTup l), σ'')
          | none => none
        | _ => none) = some (out, σ') → (match leave C callF (fuel + 1) φ.ds σ2 none with
        | some (σ'', none) => match resA C φ σ'' fn.results.toList with
          | some l => some (Out.ret (oneOrTup l), σ'')
          | none => none
        | some (σ'', some y) => some (.pan y, σ'')
        | none => none) = some (out, σ') := by
      intro φ σ2 h
      split at h
      · rename_i σ3 hlv; rw [hlv]; exact h
      · cases h
    refine calls_of_wp_defers hf hb ?_
    split at h
    · rename_i φ σ2 h1
      refine (exec_good hd hc (fuel + 1)).1 c _ σ k _ _ h1 hI hg (enter_good hr hl) _ (fun e a' w' he => ?_)
      obtain ⟨rfl, k', rfl, g1, g2, g3⟩ := he
      exact fin φ σ2 none (weak φ σ2 h) k' a' .returning g1 g2 g3 rfl
    · rename_i φ σ2 h1
      refine (exec_good hd hc (fuel + 1)).1 c _ σ k _ _ h1 hI hg (enter_good hr hl) _ (fun e a' w' he => ?_)
      obtain ⟨rfl, k', rfl, g1, g2, g3⟩ := he
      exact fin φ σ2 none (weak φ σ2 h) k' a' .returning g1 g2 g3 rfl
    · rename_i x φ σ2 h1
      refine (exec_good hd hc (fuel + 1)).1 c _ σ k _ _ h1 hI hg (enter_good hr hl) _ (fun e a' w' he => ?_)
      obtain ⟨v, k', rfl, rfl, g1, g2, g3, g4⟩ := he
      exact fin φ σ2 (some x) h k' a' _ g1 g2 g3 ⟨v, rfl, g4⟩
    · cases h
/-- a table of calls, each at one place -/
structure CallFact where
  f : FuncId
  args : List A
  σ : St
  x : A
  σ' : St
def blkB : Blk → Blk → Bool
  | .cells cs e, .cells cs' e' => beqs cs cs' && Nat.beq e e'
  | _, _ => false
def trB {α : Type} (b : α → α → Bool) : Tr α → Tr α → Bool
  | .nil, .nil => true
  | .node l v r, .node l' v' r' => (match v, v' with | none, none => true | some x, some y => b x y | _, _ => false) && (trB b l l' && trB b r r')
  | _, _ => false
def stB (σ τ : St) : Bool := Nat.beq σ.next τ.next && (Nat.beq σ.nextT τ.nextT && (trB blkB σ.blks τ.blks && trB Nat.beq σ.toks τ.toks))
theorem trB_eq {α : Type} {b : α → α → Bool} (hb : ∀ x y, b x y = true → x = y) : ∀ {t u : Tr α}, trB b t u = true → t = u
  | .nil, .nil, _ => rfl
  | .nil, .node .., h => by cases h
  | .node .., .nil, h => by cases h
  | .node l v r, .node l' v' r', h => by
    simp only [trB, Bool.and_eq_true] at h
    obtain ⟨h1, h2, h3⟩ := h
    rw [trB_eq hb h2, trB_eq hb h3]
    cases v <;> cases v' <;> first | rfl | (cases h1; done) | (rw [hb _ _ h1])
theorem blkB_eq : ∀ x y, blkB x y = true → x = y
  | .cells cs e, .cells cs' e', h => by
    simp only [blkB, Bool.and_eq_true] at h
    rw [beqs_eq _ _ h.1, Nat.eq_of_beq_eq_true h.2]
  | .cells .., .siter .., h => by cases h
  | .cells .., .map .., h => by cases h
  | .siter .., _, h => by cases h
  | .map .., _, h => by cases h
  | .cells .., .miter .., h => by cases h
  | .miter .., _, h => by cases h
theorem stB_eq {σ τ : St} (h : stB σ τ = true) : σ = τ := by
  simp only [stB, Bool.and_eq_true] at h
  obtain ⟨h1, h2, h3, h4⟩ := h
  cases σ; cases τ
  simp only at h1 h2 h3 h4
  rw [Nat.eq_of_beq_eq_true h1, Nat.eq_of_beq_eq_true h2, trB_eq blkB_eq h3, trB_eq (fun x y h => Nat.eq_of_beq_eq_true h) h4]
def callT (T : CallFact) (callF : CallF) : CallF := fun f args σ => bif Nat.beq f T.f && (beqs args T.args && stB σ T.σ) then some (.ret T.x, T.σ') else callF f args σ
theorem callT_ok {T : CallFact} (hT : CallPt C w0 T.f T.args T.σ (.ret T.x) T.σ') (hc : CallOk C w0 callF) : CallOk C w0 (callT T callF) := by
  intro f args σ out σ' k us h hI hg hr
  unfold callT at h
  cases hb : Nat.beq f T.f && (beqs args T.args && stB σ T.σ) with
  | false => rw [hb] at h; exact hc f args σ out σ' k us h hI hg hr
  | true =>
    rw [hb] at h
    simp only [Bool.and_eq_true] at hb
    cases h
    have e1 := Nat.eq_of_beq_eq_true hb.1
    have e2 := beqs_eq _ _ hb.2.1
    have e3 := stB_eq hb.2.2
    subst e1; subst e2; subst e3
    exact hT k us hI hg hr
/-- a closed call, wherever it is made -/
theorem closed_pt {σ : St} {k : K} (hI : Inv w0 σ k) (hg : GlobOk C k) (hgp : ∀ g a, C.glob g = some a → pureA a = true) {f : FuncId} {args : List A} {us : List Value} {x : A} {σ1 : St}
    (h : CallPt C k.w f (stripL args) σ0 (.ret x) σ1) (ha : pureL (stripL args) = true) (hx : pureA (strip x) = true) (hr : RelL k args us) : Calls C.P f us.toArray k.w (OutPost w0 k (.ret (strip x)) σ) := by
  have same : ∀ c n, k.frz c = some n → ∃ n', n ≤ n' ∧ k.fresh.frz c = some n' := fun c n h => ⟨n, Nat.le_refl _, h⟩
  refine (h k.fresh us hI.fresh (fun g a e => (hg g a e).pure same (fun _ _ _ _ _ => rfl) (hgp g a e)) (hr.strip.pure same (fun _ _ _ _ _ => rfl) ha)).mono (fun e w' he => ?_)
  obtain ⟨k1, v, h1, h2, h3, h4, h5⟩ := he
  obtain ⟨g1, g2⟩ := hI.back h4
  exact ⟨k.back k1, v, h1, h2, g2, g1, h5.strip.pure (fun c n hf => ⟨n, Nat.le_refl _, back_frz hI h3 hf⟩) (fun _ _ _ _ _ => rfl) hx⟩
/-- one more function by hand: at these data -/
def Cfg.add (C : Cfg) (f : FuncId) (lit : List A) (x : A) : Cfg := { C with prim := fun h => bif Nat.beq h f then some (fun args σ => bif beqs (stripL args) lit then some (x, σ) else none) else C.prim h }
/-- the functions by hand are right in all worlds of a kind -/
def PrimsOk (C : Cfg) (G : World → Prop) : Prop := ∀ w, G w → PrimOk C w
theorem PrimsOk.add {G : World → Prop} (hG : ∀ w w', G w → Below w.heap.size w w' → G w') (hp : PrimsOk C G) (hgp : ∀ g a, C.glob g = some a → pureA a = true) {f : FuncId} {lit : List A} {x : A} {σ1 : St}
    (h : ∀ w, G w → CallPt C w f lit σ0 (.ret x) σ1) (ha : pureL lit = true) (hx : pureA (strip x) = true) : PrimsOk (C.add f lit (strip x)) G := by
  intro w hw f' g args σ σ' y k us hf hg hI hgl hr
  simp only [Cfg.add] at hf
  cases hb : Nat.beq f' f with
  | false =>
    rw [hb] at hf
    exact hp w hw f' g args σ σ' y k us hf hg hI hgl hr
  | true =>
    rw [hb] at hf
    have e1 := Nat.eq_of_beq_eq_true hb
    subst e1
    cases hf
    have hg : (bif beqs (stripL args) lit then some (strip x, σ) else none) = some (y, σ') := hg
    cases hq : beqs (stripL args) lit with
    | false => rw [hq] at hg; cases hg
    | true =>
      rw [hq] at hg
      cases hg
      have e2 := beqs_eq _ _ hq
      subst e2
      exact closed_pt (C := C) hI hgl hgp (h k.w (hG w k.w hw hI.below)) ha hx hr
end
end Go.DM
