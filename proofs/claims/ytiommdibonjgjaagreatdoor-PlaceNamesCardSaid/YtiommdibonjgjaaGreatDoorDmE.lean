/- This text proves rules for the D-machine's runs with open data. No condition. -/
import Derived.Test.YtiommdibonjgjaaGreatDoorDmD
namespace Go.DM
open Go Go.RowKit

def Fr.le (φ ψ : Fr) : Prop := (∀ t x, φ.s.get t = some x → ψ.s.get t = some x) ∧ ψ.ds = φ.ds
theorem Fr.le.refl (φ : Fr) : φ.le φ := ⟨fun _ _ h => h, rfl⟩
theorem Fr.le.trans {a b c : Fr} (h : a.le b) (g : b.le c) : a.le c := ⟨fun t x e => g.1 t x (h.1 t x e), g.2.trans h.2⟩
def CallF.le (f g : CallF) : Prop := ∀ a b c r, f a b c = some r → g a b c = some r

section
variable {C : Cfg} {ρ₁ ρ₂ : Operand → Option A} {o : Oper} {σ : St} {r : R}

theorem opsOf_some : ∀ {l : List Operand} {as : List A}, opsOf ρ₁ l = some as → ∀ x ∈ l, (ρ₁ x).isSome = true
  | [], _, _, x, hx => by simp at hx
  | y :: l, as, h, x, hx => by
    simp only [opsOf] at h
    split at h
    case h_2 => cases h
    rename_i a ha
    split at h
    case h_2 => cases h
    rename_i l' hl
    rcases List.mem_cons.1 hx with rfl | hx
    · simp [ha]
    · exact opsOf_some hl x hx
theorem partsOf_some : ∀ {l : List (Nat × Operand)} {as : List (Nat × A)}, partsOf ρ₁ l = some as → ∀ x ∈ l, (ρ₁ x.2).isSome = true
  | [], _, _, x, hx => by simp at hx
  | (i, y) :: l, as, h, x, hx => by
    simp only [partsOf] at h
    split at h
    case h_2 => cases h
    rename_i a ha
    split at h
    · cases h
    split at h
    case h_2 => cases h
    rename_i l' hl
    rcases List.mem_cons.1 hx with rfl | hx
    · simp [ha]
    · exact partsOf_some hl x hx
theorem detIf_some (h : detIf C ρ₁ o σ = some r) : ∀ x ∈ o.op.operands, (ρ₁ x).isSome = true := by
  unfold detIf at h
  split at h
  · rename_i hp
    intro x hx
    have := (List.all_eq_true.1 hp) x (Array.mem_toList_iff.2 hx)
    cases hh : ρ₁ x with
    | none => simp [hh] at this
    | some a => rfl
  · cases h

theorem op_some (h : op C ρ₁ o σ = some r) (hp : ∀ c a b, o.op ≠ .pick c a b) : ∀ x ∈ o.op.operands, (ρ₁ x).isSome = true := by
  have hdet : detIf C ρ₁ o σ = some r → ∀ x ∈ o.op.operands, (ρ₁ x).isSome = true := detIf_some
  cases hop : o.op <;> simp only [hop] at hdet hp
  case pick c a b => exact absurd rfl (hp c a b)
  case call c =>
    simp only [op, hop] at h
    intro x hx
    simp only [Op.operands, Call.operands, Array.mem_append] at hx hdet
    split at h
    · rename_i f hc
      simp only [hc] at hx hdet
      split at h
      case h_2 => cases h
      rename_i g first cap as hf has
      rcases hx with hx | hx
      · simp at hx; subst hx; simp [hf]
      · exact opsOf_some has x (by simpa using hx)
    · rename_i b hc
      simp only [hc] at hx hdet
      have hx' : x ∈ c.args.toList := by simpa using hx
      unfold builtinOp at h
      have hdet' : detIf C ρ₁ o σ = some r → (ρ₁ x).isSome = true := fun h => hdet h x hx
      generalize c.args.toList = l at hx' h
      split at h
      · split at h
        case h_2 => cases h
        rename_i h1 h2 _ _
        simp at hx'; rcases hx' with rfl | rfl
        · simp [h1]
        · simp [h2]
      · split at h
        case h_2 => cases h
        rename_i h1 h2 _
        simp at hx'; rcases hx' with rfl | rfl
        · simp [h1]
        · simp [h2]
      · split at h
        case h_2 => cases h
        rename_i h1 _
        simp at hx'; subst hx'; simp [h1]
      · simp at hx'
      · split at h
        case h_2 => cases h
        rename_i h1 h2 _
        simp at hx'; rcases hx' with rfl | rfl
        · simp [h1]
        · simp [h2]
      · split at h
        case h_2 => cases h
        rename_i h1
        simp at hx'; subst hx'; simp [h1]
      · split at h
        case h_2 => cases h
        rename_i h1 h2 _
        simp at hx'; rcases hx' with rfl | rfl
        · simp [h1]
        · simp [h2]
      all_goals first | cases h | exact hdet' h
    · rename_i y name hc
      simp only [hc] at hx
      split at h
      case h_2 => cases h
      rename_i t z as hf has
      rcases hx with hx | hx
      · simp at hx; subst hx; simp [hf]
      · exact opsOf_some has x (by simpa using hx)
  case defer c =>
    simp only [op, hop] at h
    intro x hx
    simp only [Op.operands, Call.operands, Array.mem_append] at hx
    split at h
    · rename_i f hc
      simp only [hc] at hx
      split at h
      case h_2 => cases h
      rename_i g first cap as hf has
      rcases hx with hx | hx
      · simp at hx; subst hx; simp [hf]
      · exact opsOf_some has x (by simpa using hx)
    · cases h
  case build t ps =>
    simp only [op, hop] at h
    split at h
    case h_2 => cases h
    rename_i l hl
    intro x hx
    simp [Op.operands] at hx
    obtain ⟨i, hi⟩ := hx
    exact partsOf_some hl (i, x) (by simpa using hi)
  case buildSlice t n ps =>
    simp only [op, hop] at h
    split at h
    case h_2 => cases h
    rename_i l hl
    intro x hx
    simp [Op.operands] at hx
    obtain ⟨i, hi⟩ := hx
    exact partsOf_some hl (i, x) (by simpa using hi)
  case makeFunc f first cap =>
    simp only [op, hop] at h
    split at h
    case h_2 => cases h
    rename_i l c hl hc
    intro x hx
    simp [Op.operands] at hx
    rcases hx with hx | hx
    · exact opsOf_some hl x (by simpa using hx)
    · exact opsOf_some hc x (by simpa using hx)
  case makeMap t r' => cases r' with
    | none => intro x hx; simp [Op.operands] at hx
    | some y => simp only [op, hop] at h; cases h
  case slice t y lo hi mx =>
    cases mx with
    | some m => simp only [op, hop] at h; cases h
    | none =>
      simp only [op, hop] at h
      split at h
      case h_2 => cases h
      rename_i x' l h' hx hl hh
      intro x hmem
      simp [Op.operands] at hmem
      rcases hmem with rfl | hmem | hmem
      · simp [hx]
      · subst hmem
        simp only [optOf] at hl
        split at hl
        · rename_i a ha; simp [ha]
        · cases hl
      · subst hmem
        simp only [optOf] at hh
        split at hh
        · rename_i a ha; simp [ha]
        · cases hh
  case select cs b => simp only [op, hop] at h; cases h
  case go c => simp only [op, hop] at h; cases h
  case binOp b t x y z =>
    simp only [op, hop] at h
    intro w hw
    simp [Op.operands] at hw
    split at h
    · rename_i hx hy
      rcases hw with rfl | rfl
      · simp [hx]
      · simp [hy]
    · rename_i hx hy
      rcases hw with rfl | rfl
      · simp [hx]
      · simp [hy]
    · exact hdet h w (by simp [Op.operands, hw])
  all_goals
    simp only [op, hop] at h
    intro w hw
    simp [Op.operands] at hw
    try (first
      | (cases h; done)
      | exact hdet h w (by simp [Op.operands, hw])
      | (subst hw; generalize hq : ρ₁ _ = q at h ⊢; cases q <;> first | rfl | (simp at h; done))
      | (obtain ⟨a, ha, _⟩ := wrapV_good h; subst hw; simp [ha]; done)
      | (split at h
         case h_2 => cases h
         first
         | (rename_i h1; subst hw; simp [h1]; done)
         | (rename_i h1 h2; rcases hw with rfl | rfl <;> simp [h1, h2]; done)
         | (rename_i h1 h2 h3; rcases hw with rfl | rfl | rfl <;> simp [h1, h2, h3]; done)))

theorem op_mono (hρ : ∀ x a, ρ₁ x = some a → ρ₂ x = some a) (h : op C ρ₁ o σ = some r) : op C ρ₂ o σ = some r := by
  by_cases hp : ∀ c a b, o.op ≠ .pick c a b
  · have hs := op_some h hp
    rw [← op_congr (ρ₁ := ρ₁) (ρ₂ := ρ₂) (fun x hx => ?_)]
    · exact h
    · obtain ⟨a, ha⟩ := Option.isSome_iff_exists.1 (hs x hx)
      rw [ha, hρ x a ha]
  · have : ∃ c a b, o.op = .pick c a b := by
      cases hop : o.op with
      | pick c a b => exact ⟨c, a, b, rfl⟩
      | _ => exact absurd (fun c a b h => by rw [hop] at h; cases h) hp
    obtain ⟨c, a, b, hop⟩ := this
    simp only [op, hop] at h ⊢
    split at h
    case h_2 => cases h
    rename_i t hc
    rw [hρ _ _ hc]
    simp only
    obtain ⟨x, h1, rfl⟩ := wrapV_good h
    cases t
    · simp only [Bool.false_eq_true, if_false] at h1 ⊢
      rw [hρ _ _ h1]; rfl
    · simp only [if_true] at h1 ⊢
      rw [hρ _ _ h1]; rfl
theorem opQ_mono (hρ : ∀ x a, ρ₁ x = some a → ρ₂ x = some a) {x : A} (h : opQ C ρ₁ o σ = some x) : opQ C ρ₂ o σ = some x := by
  have key : ∀ {y : A}, (match op C ρ₁ o σ with | some (.val x _) => some x | _ => none) = some y → (match op C ρ₂ o σ with | some (.val x _) => some x | _ => none) = some y := by
    intro y h
    split at h
    · rename_i z s hz
      rw [op_mono hρ hz]; exact h
    · cases h
  unfold opQ at h ⊢
  cases hop : o.op <;> simp only [hop] at h ⊢
  case slice t z lo hi mx =>
    have hsome := fun r => op_some (C := C) (ρ₁ := ρ₁) (o := o) (σ := σ) (r := r)
    split at h
    · cases h
    · rename_i hne
      have hz : ∃ a, ρ₁ z = some a := by
        split at h
        · rename_i x' s hx
          exact Option.isSome_iff_exists.1 (hsome _ hx (fun c a b e => by rw [hop] at e; cases e) z (by simp [hop, Op.operands]))
        · cases h
      obtain ⟨a, ha⟩ := hz
      have ha2 := hρ _ _ ha
      split
      · rename_i b p l c hms
        rw [ha2] at hms; cases hms
        exact absurd ha (hne _ _ _ _)
      · exact key h
  case call c =>
    cases hc : c.callee <;> simp only [hc] at h ⊢
    all_goals try (cases h; done)
    rename_i b
    cases b <;> first | (cases h; done) | exact key h
  all_goals first | (cases h; done) | exact key h

variable {φ ψ : Fr} {ops : Array Oper} {n : Nat} {callF callG : CallF}
theorem ev_mono (h : φ.le ψ) : ∀ x a, ev C φ x = some a → ev C ψ x = some a := by
  intro x a hx
  cases x with
  | tmp t => exact h.1 t a hx
  | _ => exact hx
theorem wanted_mono (h : φ.le ψ) {b : Bool} (hw : wantedA ops φ o = some b) : wantedA ops ψ o = some b := by
  unfold wantedA at hw ⊢
  split at hw
  · exact hw
  · rename_i j want hg
    split at hw
    · rename_i y hy
      suffices yieldedA ops ψ j = some y by rw [this]; exact hw
      unfold yieldedA at hy ⊢
      split at hy
      · rename_i d hd
        cases hq : φ.s.get d with
        | none => rw [hq] at hy; cases hy
        | some q => rw [h.1 d q hq]; rw [hq] at hy; exact hy
      · exact hy
    · cases hw
theorem set_le (h : φ.le ψ) (t : Nat) (x : A) : (φ.set t x).le (ψ.set t x) := by
  refine ⟨fun u y hu => ?_, h.2⟩
  simp only [Fr.set, Tr.get_set] at hu ⊢
  split at hu
  · rename_i hh; rw [if_pos hh]; exact hu
  · rename_i hh; rw [if_neg hh]; exact h.1 u y hu
theorem put_mono (h : φ.le ψ) {d : Option Tmp} {x : A} {φ' : Fr} (hp : putA n φ d x = some φ') : ∃ ψ', putA n ψ d x = some ψ' ∧ φ'.le ψ' := by
  unfold putA at hp ⊢
  split at hp
  · cases hp; exact ⟨ψ, rfl, h⟩
  · split at hp
    · rename_i t ht
      cases hp
      rw [if_pos ht]
      exact ⟨_, rfl, set_le h t x⟩
    · cases hp

theorem runOps_mono (hc : callF.le callG) : ∀ {l : List Oper} {φ ψ : Fr} {σ : St} {x : X} {φ' : Fr} {σ' : St}, φ.le ψ → runOps C callF n ops l φ σ = some (x, φ', σ') → ∃ ψ', runOps C callG n ops l ψ σ = some (x, ψ', σ') ∧ φ'.le ψ'
  | [], φ, ψ, σ, x, φ', σ', h, hr => by
    simp only [runOps] at hr ⊢; cases hr; exact ⟨ψ, rfl, h⟩
  | o :: l, φ, ψ, σ, x, φ', σ', h, hr => by
    simp only [runOps] at hr ⊢
    split at hr
    · rename_i hw
      rw [wanted_mono h hw]
      simp only
      split at hr
      · rename_i y s ho
        rw [op_mono (ev_mono h) ho]
        simp only
        split at hr
        case h_2 => cases hr
        rename_i φ2 hp
        obtain ⟨ψ2, h1, h2⟩ := put_mono h hp
        rw [h1]
        exact runOps_mono hc h2 hr
      · rename_i s ho
        rw [op_mono (ev_mono h) ho]
        simp only
        split at hr
        case h_2 => cases hr
        rename_i φ2 hp
        obtain ⟨ψ2, h1, h2⟩ := put_mono h hp
        rw [h1]
        exact runOps_mono hc h2 hr
      · rename_i f args s ho
        rw [op_mono (ev_mono h) ho]
        simp only
        split at hr
        · rename_i y s2 hf
          rw [hc _ _ _ _ hf]
          simp only
          split at hr
          case h_2 => cases hr
          rename_i φ2 hp
          obtain ⟨ψ2, h1, h2⟩ := put_mono h hp
          rw [h1]
          exact runOps_mono hc h2 hr
        · rename_i y s2 hf
          rw [hc _ _ _ _ hf]
          cases hr
          exact ⟨ψ, rfl, h⟩
        · cases hr
      · rename_i f args s ho
        rw [op_mono (ev_mono h) ho]
        simp only
        split at hr
        case h_2 => cases hr
        rename_i φ2 hp
        have h' : Fr.le { φ with ds := (f, args) :: φ.ds } { ψ with ds := (f, args) :: ψ.ds } := ⟨h.1, by simp [h.2]⟩
        obtain ⟨ψ2, h1, h2⟩ := put_mono h' hp
        rw [h1]
        exact runOps_mono hc h2 hr
      · rename_i y s ho
        rw [op_mono (ev_mono h) ho]
        cases hr
        exact ⟨ψ, rfl, h⟩
      · cases hr
    · rename_i hw
      rw [wanted_mono h hw]
      simp only
      split at hr
      case h_2 => cases hr
      rename_i φ2 hp
      obtain ⟨ψ2, h1, h2⟩ := put_mono h hp
      rw [h1]
      exact runOps_mono hc h2 hr
    · cases hr

/-- the pending ones, each from a greater frame -/
inductive PendLe : List (Nat × Fr × Oper × A) → List (Nat × Fr × Oper × A) → Prop
  | nil : PendLe [] []
  | cons {j : Nat} {φ ψ : Fr} {o : Oper} {x : A} {l m : List (Nat × Fr × Oper × A)} : φ.le ψ → PendLe l m → PendLe ((j, φ, o, x) :: l) ((j, ψ, o, x) :: m)
theorem pureQ_mono {ρ ρ' : Operand → Option A} (h : ∀ x a, ρ x = some a → ρ' x = some a) (hs : pureQ ρ o = true) : pureQ ρ' o = true := by
  unfold pureQ at hs ⊢
  split at hs <;> first | rfl | skip
  · rename_i t a hop
    split at hs
    · rename_i hx; rw [h _ _ hx]
    · cases hs
  · split at hs
    · split at hs
      · rename_i hx; rw [h _ _ hx]
      · rename_i hx; rw [h _ _ hx]
      · rename_i hx; rw [h _ _ hx]
      · cases hs
    · cases hs
  · cases hs
theorem same_mono (h : φ.le ψ) {x : A} (hs : sameA C φ o σ x = true) : sameA C ψ o σ x = true := by
  unfold sameA at hs ⊢
  rw [Bool.or_eq_true] at hs ⊢
  rcases hs with hs | hs
  · exact .inl (pureQ_mono (ev_mono h) hs)
  · refine .inr ?_
    split at hs
    · rename_i y hy
      rw [opQ_mono (ev_mono h) hy]; exact hs
    · cases hs
theorem stableP_mono (h : φ.le ψ) {bef : Array Nat} {j : Nat} {x : A} {l : List (Nat × St)} (hs : stableP C bef φ o j x l = true) : stableP C bef ψ o j x l = true := by
  unfold stableP at hs ⊢
  rw [List.all_eq_true] at hs ⊢
  intro y hy
  have := hs y hy
  simp only [Bool.or_eq_true] at this ⊢
  exact this.imp id (same_mono h)
theorem stableF_mono {bef : Array Nat} {i : Nat} {σ : St} {l m : List (Nat × Fr × Oper × A)} (h : PendLe l m) (hs : stableF C bef i σ l = true) : stableF C bef i σ m = true := by
  unfold stableF at hs ⊢
  induction h with
  | nil => rfl
  | cons hf _ ih =>
    simp only [List.all_cons, Bool.and_eq_true, Bool.or_eq_true] at hs ⊢
    exact ⟨hs.1.imp id (same_mono hf), ih hs.2⟩
theorem loud_mono (hc : callF.le callG) (h : φ.le ψ) {p : A × St} (hs : loudStep C callF φ o σ = some p) : loudStep C callG ψ o σ = some p := by
  unfold loudStep at hs ⊢
  split at hs
  · rename_i y s ho; rw [op_mono (ev_mono h) ho]; exact hs
  · rename_i s ho; rw [op_mono (ev_mono h) ho]; exact hs
  · rename_i f args s ho
    rw [op_mono (ev_mono h) ho]
    simp only
    split at hs
    · rename_i y s2 hf; rw [hc _ _ _ _ hf]; exact hs
    · cases hs
  · cases hs
theorem runDr_mono (hc : callF.le callG) {bef : Array Nat} : ∀ {l : List Oper} {j : Nat} {φ ψ : Fr} {σ : St} {past : List (Nat × St)} {pend pend' : List (Nat × Fr × Oper × A)} {x : X} {φ' : Fr} {σ' : St}, φ.le ψ → PendLe pend pend' →
    runDr C callF n ops bef l j φ σ past pend = some (x, φ', σ') → ∃ ψ', runDr C callG n ops bef l j ψ σ past pend' = some (x, ψ', σ') ∧ φ'.le ψ'
  | [], j, φ, ψ, σ, past, pend, pend', x, φ', σ', h, hq, hr => by
    simp only [runDr] at hr ⊢; cases hr; exact ⟨ψ, rfl, h⟩
  | o :: l, j, φ, ψ, σ, past, pend, pend', x, φ', σ', h, hq, hr => by
    simp only [runDr] at hr ⊢
    split at hr
    · rename_i hw
      rw [wanted_mono h hw]
      simp only
      split at hr
      · rename_i hqt
        rw [if_pos hqt]
        split at hr
        case h_2 => cases hr
        rename_i y hy
        rw [opQ_mono (ev_mono h) hy]
        simp only
        split at hr
        case isFalse => cases hr
        rename_i hst
        rw [if_pos (stableP_mono h hst)]
        split at hr
        case h_2 => cases hr
        rename_i φ2 hp
        obtain ⟨ψ2, h1, h2⟩ := put_mono h hp
        rw [h1]
        exact runDr_mono hc h2 (.cons h hq) hr
      · rename_i hqt
        rw [if_neg hqt]
        split at hr
        case h_2 => cases hr
        rename_i y s hy
        rw [loud_mono hc h hy]
        simp only
        split at hr
        case isFalse => cases hr
        rename_i hst
        rw [if_pos (stableF_mono hq hst)]
        split at hr
        case h_2 => cases hr
        rename_i φ2 hp
        obtain ⟨ψ2, h1, h2⟩ := put_mono h hp
        rw [h1]
        exact runDr_mono hc h2 hq hr
    · rename_i hw
      rw [wanted_mono h hw]
      simp only
      split at hr
      case h_2 => cases hr
      rename_i φ2 hp
      obtain ⟨ψ2, h1, h2⟩ := put_mono h hp
      rw [h1]
      exact runDr_mono hc h2 hq hr
    · cases hr

theorem pan_mono (hc : callF.le callG) (h : φ.le ψ) {p : A × St} (hs : panStep C callF φ o σ = some p) : loudStep C callG ψ o σ = none ∧ panStep C callG ψ o σ = some p := by
  unfold panStep at hs
  split at hs
  · rename_i f args s ho
    split at hs
    · rename_i v s2 hf
      unfold loudStep panStep
      rw [op_mono (ev_mono h) ho]
      simp only [hc _ _ _ _ hf]
      exact ⟨trivial, hs⟩
    · cases hs
  · cases hs
theorem junkF_le : ∀ {l : List Oper} {φ ψ : Fr}, φ.le ψ → (junkF l φ).le (junkF l ψ)
  | [], _, _, h => h
  | o :: l, φ, ψ, h => junkF_le (l := l) (by
      unfold junkO
      split
      · exact set_le h _ _
      · exact h)
theorem runDv_mono {bef : Array Nat} {p : Nat} : ∀ {l : List Oper} {j : Nat} {φ ψ : Fr} {σ : St} {past : List (Nat × St)}, φ.le ψ → runDv C n ops bef p l j φ σ past = true → runDv C n ops bef p l j ψ σ past = true
  | [], j, φ, ψ, σ, past, h, hr => by simp only [runDv]
  | o :: l, j, φ, ψ, σ, past, h, hr => by
    simp only [runDv] at hr ⊢
    split at hr
    · rename_i hb
      rw [if_pos hb]
      split at hr
      case h_2 => cases hr
      rename_i φ2 hp
      obtain ⟨ψ2, h1, h2⟩ := put_mono h hp
      rw [h1]
      exact runDv_mono h2 hr
    · rename_i hb
      rw [if_neg hb]
      split at hr
      · rename_i hw
        rw [wanted_mono h hw]
        simp only
        split at hr
        case isFalse =>
          rename_i hqt
          rw [if_neg hqt]
          split at hr
          case isFalse => cases hr
          rename_i haz
          rw [if_pos haz]
          split at hr
          case h_2 => cases hr
          rename_i φ2 hp
          obtain ⟨ψ2, h1, h2⟩ := put_mono h hp
          rw [h1]
          exact runDv_mono h2 hr
        rename_i hqt
        rw [if_pos hqt]
        split at hr
        case h_2 => cases hr
        rename_i y hy
        rw [opQ_mono (ev_mono h) hy]
        simp only
        split at hr
        case isFalse => cases hr
        rename_i hst
        rw [if_pos (stableP_mono h hst)]
        split at hr
        case h_2 => cases hr
        rename_i φ2 hp
        obtain ⟨ψ2, h1, h2⟩ := put_mono h hp
        rw [h1]
        exact runDv_mono h2 hr
      · rename_i hw
        rw [wanted_mono h hw]
        simp only
        split at hr
        case h_2 => cases hr
        rename_i φ2 hp
        obtain ⟨ψ2, h1, h2⟩ := put_mono h hp
        rw [h1]
        exact runDv_mono h2 hr
      · cases hr
theorem runDq_mono (hc : callF.le callG) {bef : Array Nat} : ∀ {l : List Oper} {j : Nat} {φ ψ : Fr} {σ : St} {past : List (Nat × St)} {pend pend' : List (Nat × Fr × Oper × A)} {x : X} {φ' : Fr} {σ' : St}, φ.le ψ → PendLe pend pend' →
    runDq C callF n ops bef l j φ σ past pend = some (x, φ', σ') → ∃ ψ', runDq C callG n ops bef l j ψ σ past pend' = some (x, ψ', σ') ∧ φ'.le ψ'
  | [], j, φ, ψ, σ, past, pend, pend', x, φ', σ', h, hq, hr => by
    simp only [runDq] at hr ⊢; cases hr; exact ⟨ψ, rfl, h⟩
  | o :: l, j, φ, ψ, σ, past, pend, pend', x, φ', σ', h, hq, hr => by
    simp only [runDq] at hr ⊢
    split at hr
    · rename_i hw
      rw [wanted_mono h hw]
      simp only
      split at hr
      · rename_i hqt
        rw [if_pos hqt]
        split at hr
        case h_2 => cases hr
        rename_i y hy
        rw [opQ_mono (ev_mono h) hy]
        simp only
        split at hr
        case isFalse => cases hr
        rename_i hst
        rw [if_pos (stableP_mono h hst)]
        split at hr
        case h_2 => cases hr
        rename_i φ2 hp
        obtain ⟨ψ2, h1, h2⟩ := put_mono h hp
        rw [h1]
        exact runDq_mono hc h2 (.cons h hq) hr
      · rename_i hqt
        rw [if_neg hqt]
        split at hr
        · rename_i y s hy
          rw [loud_mono hc h hy]
          simp only
          split at hr
          case isFalse => cases hr
          rename_i hst
          rw [if_pos (stableF_mono hq hst)]
          split at hr
          case h_2 => cases hr
          rename_i φ2 hp
          obtain ⟨ψ2, h1, h2⟩ := put_mono h hp
          rw [h1]
          exact runDq_mono hc h2 hq hr
        · split at hr
          case h_2 => cases hr
          rename_i v s hy
          obtain ⟨e1, e2⟩ := pan_mono hc h hy
          rw [e1, e2]
          simp only
          split at hr
          case h_2 => cases hr
          rename_i φ2 hp
          obtain ⟨ψ2, h1, h2⟩ := put_mono h hp
          rw [h1]
          simp only
          split at hr
          case isFalse => cases hr
          rename_i hdv
          rw [if_pos (runDv_mono h2 hdv)]
          cases hr
          exact ⟨_, rfl, junkF_le h⟩
    · rename_i hw
      rw [wanted_mono h hw]
      simp only
      split at hr
      case h_2 => cases hr
      rename_i φ2 hp
      obtain ⟨ψ2, h1, h2⟩ := put_mono h hp
      rw [h1]
      exact runDq_mono hc h2 hq hr
    · cases hr

theorem lateTail_mono (h : φ.le ψ) {p : LateP} {x : X} {φ' : Fr} {σ' : St} (hr : lateTail C n p φ σ = some (x, φ', σ')) : ∃ ψ', lateTail C n p ψ σ = some (x, ψ', σ') ∧ φ'.le ψ' := by
  unfold lateTail at hr ⊢
  split at hr
  case h_2 => cases hr
  rename_i s z ti v x' h1 h2 h3 h4 h5
  rw [h.1 _ _ h1, h.1 _ _ h2, h.1 _ _ h3, h.1 _ _ h4, h.1 _ _ h5]
  simp only
  split at hr
  case h_2 => cases hr
  rename_i a y σ3 hv
  cases hr
  exact ⟨_, rfl, set_le (set_le (set_le h _ _) _ _) _ _⟩
theorem runOpen_mono (hc : callF.le callG) (h : φ.le ψ) {x : X} {φ' : Fr} {σ' : St} (hr : runOpen C callF n ops φ σ = some (x, φ', σ')) : ∃ ψ', runOpen C callG n ops ψ σ = some (x, ψ', σ') ∧ φ'.le ψ' := by
  unfold runOpen at hr ⊢
  split at hr
  · rename_i hd; rw [if_pos hd]; exact runDq_mono hc h .nil hr
  · rename_i hd
    rw [if_neg hd]
    unfold runLate at hr ⊢
    split at hr
    case h_2 => cases hr
    rename_i p hp
    split at hr
    case isFalse => cases hr
    rename_i hst
    rw [if_pos hst]
    split at hr
    case h_2 => cases hr
    rename_i φ1 σ1 h1
    obtain ⟨ψ1, g1, g2⟩ := runDr_mono hc h .nil h1
    rw [g1]
    exact lateTail_mono g2 hr
theorem exec_mono (hc : callF.le callG) : ∀ {k m : Nat} {c : Code} {φ ψ : Fr} {σ : St} {x : X} {φ' : Fr} {σ' : St}, k ≤ m → φ.le ψ → exec C callF n k c φ σ = some (x, φ', σ') → ∃ ψ', exec C callG n m c ψ σ = some (x, ψ', σ') ∧ φ'.le ψ'
  | 0, m, c, φ, ψ, σ, x, φ', σ', hk, h, hr => by simp [exec] at hr
  | k + 1, 0, c, φ, ψ, σ, x, φ', σ', hk, h, hr => by omega
  | k + 1, m + 1, c, φ, ψ, σ, x, φ', σ', hk, h, hr => by
    have ih := @exec_mono hc k m
    have hk' : k ≤ m := by omega
    cases c with
    | skip => simp only [exec] at hr ⊢; cases hr; exact ⟨ψ, rfl, h⟩
    | exit id => simp only [exec] at hr ⊢; cases hr; exact ⟨ψ, rfl, h⟩
    | ret => simp only [exec] at hr ⊢; cases hr; exact ⟨ψ, rfl, h⟩
    | region id ops draw =>
      cases draw with
      | false => simp only [exec] at hr ⊢; exact runOps_mono hc h hr
      | true =>
        simp only [exec] at hr ⊢
        exact runOpen_mono hc h hr
    | seq a b =>
      simp only [exec] at hr ⊢
      split at hr
      · rename_i φ1 σ1 h1
        obtain ⟨ψ1, g1, g2⟩ := ih hk' h h1
        rw [g1]
        exact ih hk' g2 hr
      · rename_i hne
        obtain ⟨ψ1, g1, g2⟩ := ih hk' h hr
        rw [g1]
        cases x with
        | normal => exact absurd hr (hne _ _)
        | _ => exact ⟨ψ1, rfl, g2⟩
    | cond y a b =>
      simp only [exec] at hr ⊢
      split at hr
      · rename_i t ht
        rw [ev_mono h _ _ ht]
        exact ih hk' h hr
      · cases hr
    | block id a =>
      simp only [exec] at hr ⊢
      split at hr
      · rename_i j φ1 σ1 h1
        obtain ⟨ψ1, g1, g2⟩ := ih hk' h h1
        rw [g1]
        simp only
        split at hr
        · rename_i hj; rw [if_pos hj]; cases hr; exact ⟨ψ1, rfl, g2⟩
        · rename_i hj; rw [if_neg hj]; cases hr; exact ⟨ψ1, rfl, g2⟩
      · rename_i hne
        obtain ⟨ψ1, g1, g2⟩ := ih hk' h hr
        rw [g1]
        cases x with
        | exit j => exact absurd hr (hne _ _ _)
        | _ => exact ⟨ψ1, rfl, g2⟩
    | loop a =>
      simp only [exec] at hr ⊢
      split at hr
      · rename_i φ1 σ1 h1
        obtain ⟨ψ1, g1, g2⟩ := ih hk' h h1
        rw [g1]
        exact ih hk' g2 hr
      · rename_i hne
        obtain ⟨ψ1, g1, g2⟩ := ih hk' h hr
        rw [g1]
        cases x with
        | normal => exact absurd hr (hne _ _)
        | _ => exact ⟨ψ1, rfl, g2⟩
    | _ => simp only [exec] at hr; cases hr
end
end Go.DM
namespace Go.DM
open Go Go.RowKit

section
variable {C : Cfg} {o : Oper} {φ ψ : Fr} {ops : Array Oper} {n : Nat} {callF callG : CallF}

theorem runOpsS_mono (hc : callF.le callG) : ∀ {l : List Oper} {φ ψ : Fr} {σ : St} {p : Option A} {x : X} {φ' : Fr} {σ' : St} {p' : Option A}, φ.le ψ → runOpsS C callF n ops l φ σ p = some (x, φ', σ', p') → ∃ ψ', runOpsS C callG n ops l ψ σ p = some (x, ψ', σ', p') ∧ φ'.le ψ'
  | [], φ, ψ, σ, p, x, φ', σ', p', h, hr => by
    simp only [runOpsS] at hr ⊢; cases hr; exact ⟨ψ, rfl, h⟩
  | o :: l, φ, ψ, σ, p, x, φ', σ', p', h, hr => by
    simp only [runOpsS] at hr ⊢
    split at hr
    · rename_i hw
      rw [wanted_mono h hw]
      simp only
      split at hr
      · rename_i y s ho
        rw [op_mono (ev_mono h) ho]
        simp only
        split at hr
        case h_2 => cases hr
        rename_i φ2 hp
        obtain ⟨ψ2, h1, h2⟩ := put_mono h hp
        rw [h1]
        exact runOpsS_mono hc h2 hr
      · rename_i s ho
        rw [op_mono (ev_mono h) ho]
        simp only
        split at hr
        case h_2 => cases hr
        rename_i φ2 hp
        obtain ⟨ψ2, h1, h2⟩ := put_mono h hp
        rw [h1]
        exact runOpsS_mono hc h2 hr
      · rename_i f args s ho
        rw [op_mono (ev_mono h) ho]
        simp only
        split at hr
        case h_2 => cases hr
        rename_i y s2 hf
        rw [hc _ _ _ _ hf]
        simp only
        split at hr
        case h_2 => cases hr
        rename_i φ2 hp
        obtain ⟨ψ2, h1, h2⟩ := put_mono h hp
        rw [h1]
        exact runOpsS_mono hc h2 hr
      · rename_i s ho
        rw [op_mono (ev_mono h) ho]
        simp only
        split at hr
        case h_2 => cases hr
        rename_i φ2 hp
        obtain ⟨ψ2, h1, h2⟩ := put_mono h hp
        rw [h1]
        exact runOpsS_mono hc h2 hr
      · cases hr
    · rename_i hw
      rw [wanted_mono h hw]
      simp only
      split at hr
      case h_2 => cases hr
      rename_i φ2 hp
      obtain ⟨ψ2, h1, h2⟩ := put_mono h hp
      rw [h1]
      exact runOpsS_mono hc h2 hr
    · cases hr

theorem execS_eq {k : Nat} {c : Code} {σ : St} {p : Option A} (h1 : ∀ i ops, c ≠ .region i ops false) (h2 : ∀ a b, c ≠ .seq a b) (h3 : ∀ x a b, c ≠ .cond x a b) :
    execS C callF n (k + 1) c φ σ p = match exec C callF n (k + 1) c φ σ with
      | some (.normal, φ', σ') => some (.normal, φ', σ', p)
      | some (.ret, φ', σ') => some (.ret, φ', σ', p)
      | _ => none := by
  cases c with
  | region i ops d => cases d with
    | false => exact absurd rfl (h1 i ops)
    | true => rfl
  | seq a b => exact absurd rfl (h2 a b)
  | cond x a b => exact absurd rfl (h3 x a b)
  | _ => rfl
theorem execS_mono (hc : callF.le callG) : ∀ {k m : Nat} {c : Code} {φ ψ : Fr} {σ : St} {p : Option A} {x : X} {φ' : Fr} {σ' : St} {p' : Option A}, k ≤ m → φ.le ψ → execS C callF n k c φ σ p = some (x, φ', σ', p') → ∃ ψ', execS C callG n m c ψ σ p = some (x, ψ', σ', p') ∧ φ'.le ψ'
  | 0, m, c, φ, ψ, σ, p, x, φ', σ', p', hk, h, hr => by simp [execS] at hr
  | k + 1, 0, c, φ, ψ, σ, p, x, φ', σ', p', hk, h, hr => by omega
  | k + 1, m + 1, c, φ, ψ, σ, p, x, φ', σ', p', hk, h, hr => by
    have ih := @execS_mono hc k m
    have hk' : k ≤ m := by omega
    have other : (∀ i ops, c ≠ .region i ops false) → (∀ a b, c ≠ .seq a b) → (∀ x a b, c ≠ .cond x a b) → ∃ ψ', execS C callG n (m + 1) c ψ σ p = some (x, ψ', σ', p') ∧ φ'.le ψ' := by
      intro h1 h2 h3
      rw [execS_eq h1 h2 h3] at hr ⊢
      split at hr
      · rename_i φ1 σ1 he
        obtain ⟨ψ1, g1, g2⟩ := exec_mono hc hk h he
        rw [g1]; cases hr; exact ⟨ψ1, rfl, g2⟩
      · rename_i φ1 σ1 he
        obtain ⟨ψ1, g1, g2⟩ := exec_mono hc hk h he
        rw [g1]; cases hr; exact ⟨ψ1, rfl, g2⟩
      · cases hr
    cases c with
    | region i ops d =>
      cases d with
      | false => simp only [execS] at hr ⊢; exact runOpsS_mono hc h hr
      | true => exact other (by simp) (by simp) (by simp)
    | seq a b =>
      simp only [execS] at hr ⊢
      split at hr
      · rename_i φ1 σ1 p1 h1
        obtain ⟨ψ1, g1, g2⟩ := ih hk' h h1
        rw [g1]
        exact ih hk' g2 hr
      · rename_i hne
        obtain ⟨ψ1, g1, g2⟩ := ih hk' h hr
        rw [g1]
        cases x with
        | normal => exact absurd hr (hne _ _ _)
        | _ => exact ⟨ψ1, rfl, g2⟩
    | cond y a b =>
      simp only [execS] at hr ⊢
      split at hr
      · rename_i t ht
        rw [ev_mono h _ _ ht]
        exact ih hk' h hr
      · cases hr
    | _ => exact other (by simp) (by simp) (by simp)

theorem resA_mono (h : φ.le ψ) {σ : St} : ∀ {l : List ResultVar} {xs : List A}, resA C φ σ l = some xs → resA C ψ σ l = some xs
  | [], xs, hr => by simp only [resA] at hr ⊢; exact hr
  | .tmp t :: l, xs, hr => by
    simp only [resA] at hr ⊢
    split at hr
    · rename_i x ys h1 h2
      rw [h.1 t x h1, resA_mono h h2]; exact hr
    · cases hr
  | .cell a t :: l, xs, hr => by
    simp only [resA] at hr ⊢
    split at hr
    · rename_i p h1
      rw [h.1 a p h1]
      simp only
      split at hr
      · rename_i x ys h2 h3
        rw [h2, resA_mono h h3]; exact hr
      · cases hr
    · cases hr

theorem callD_mono (hc : callF.le callG) {k m : Nat} (hk : k ≤ m) {f : FuncId} {args : List A} {σ : St} {p : Option A} {r : St × Option A} (hr : callD C callF k f args σ p = some r) : callD C callG m f args σ p = some r := by
  unfold callD at hr ⊢
  split at hr
  case h_2 => cases hr
  rename_i fn hf
  split at hr
  case h_2 => cases hr
  rename_i c hb
  split at hr
  case isFalse => cases hr
  rename_i hl
  have fin : ∀ (φ1 ψ1 : Fr) (σ1 : St) (p1 : Option A), φ1.le ψ1 → (match φ1.ds, resA C φ1 σ1 fn.results.toList with
          | [], some _ => some (σ1, p1)
          | _, _ => none) = some r → (match ψ1.ds, resA C ψ1 σ1 fn.results.toList with
          | [], some _ => some (σ1, p1)
          | _, _ => none) = some r := by
    intro φ1 ψ1 σ1 p1 hle h
    split at h
    · rename_i xs hds hres
      rw [hle.2, hds, resA_mono hle hres]; exact h
    · cases h
  simp only [if_pos hl]
  split at hr
  · rename_i φ1 σ1 p1 he
    obtain ⟨ψ1, g1, g2⟩ := execS_mono hc hk (Fr.le.refl _) he
    rw [g1]; exact fin _ _ _ _ g2 hr
  · rename_i φ1 σ1 p1 he
    obtain ⟨ψ1, g1, g2⟩ := execS_mono hc hk (Fr.le.refl _) he
    rw [g1]; exact fin _ _ _ _ g2 hr
  · cases hr
theorem leave_mono (hc : callF.le callG) {k m : Nat} (hk : k ≤ m) : ∀ {ds : List (FuncId × List A)} {σ : St} {p : Option A} {r : St × Option A}, leave C callF k ds σ p = some r → leave C callG m ds σ p = some r
  | [], σ, p, r, hr => by simp only [leave] at hr ⊢; exact hr
  | (f, args) :: ds, σ, p, r, hr => by
    simp only [leave] at hr ⊢
    split at hr
    · rename_i σ1 p1 h1
      rw [callD_mono hc hk h1]
      exact leave_mono hc hk hr
    · cases hr

theorem call_mono : ∀ {k m : Nat} {f : FuncId} {args : List A} {σ : St} {r : Out × St}, k ≤ m → call C k f args σ = some r → call C m f args σ = some r
  | 0, m, f, args, σ, r, hk, hr => by simp [call] at hr
  | k + 1, 0, f, args, σ, r, hk, hr => by omega
  | k + 1, m + 1, f, args, σ, r, hk, hr => by
    have hc : CallF.le (call C k) (call C m) := fun a b c r h => call_mono (by omega) h
    simp only [call] at hr ⊢
    split at hr
    · rename_i g hg
      exact hr
    split at hr
    case h_2 => cases hr
    rename_i fn hf
    split at hr
    case h_2 => cases hr
    rename_i c hb
    split at hr
    case isFalse => cases hr
    rename_i hl
    simp only [if_pos hl]
    have fin1 : ∀ (φ1 ψ1 : Fr) (σ1 : St), φ1.le ψ1 → (match leave C (call C k) (k + 1) φ1.ds σ1 none with
              | some (σ'', none) => match resA C φ1 σ'' fn.results.toList with
                | some l => some (Out.ret (oneOrTup l), σ'')
                | none => none
              | _ => none) = some r → (match leave C (call C m) (m + 1) ψ1.ds σ1 none with
              | some (σ'', none) => match resA C ψ1 σ'' fn.results.toList with
                | some l => some (Out.ret (oneOrTup l), σ'')
                | none => none
              | _ => none) = some r := by
      intro φ1 ψ1 σ1 hle h
      rw [hle.2]
      split at h
      · rename_i σ2 hlv
        rw [leave_mono hc hk hlv]
        simp only
        split at h
        · rename_i l hres; rw [resA_mono hle hres]; exact h
        · cases h
      · cases h
    split at hr
    · rename_i φ1 σ1 he
      obtain ⟨ψ1, g1, g2⟩ := exec_mono hc hk (Fr.le.refl _) he
      rw [g1]; exact fin1 _ _ _ g2 hr
    · rename_i φ1 σ1 he
      obtain ⟨ψ1, g1, g2⟩ := exec_mono hc hk (Fr.le.refl _) he
      rw [g1]; exact fin1 _ _ _ g2 hr
    · rename_i x φ1 σ1 he
      obtain ⟨ψ1, g1, g2⟩ := exec_mono hc hk (Fr.le.refl _) he
      rw [g1]
      simp only
      rw [g2.2]
      split at hr
      · rename_i σ2 hlv
        rw [leave_mono hc hk hlv]
        simp only
        split at hr
        · rename_i l hres; rw [resA_mono g2 hres]; exact hr
        · cases hr
      · rename_i σ2 y hlv
        rw [leave_mono hc hk hlv]
        exact hr
      · cases hr
    · cases hr
end

/-- a call comes to this, with fuel enough -/
def Cl (C : Cfg) (f : FuncId) (args : List A) (σ : St) (out : Out) (σ' : St) : Prop := ∃ N, ∀ k, N ≤ k → call C k f args σ = some (out, σ')
theorem Cl.of {C : Cfg} {f : FuncId} {args : List A} {σ σ' : St} {out : Out} {k : Nat} (h : call C k f args σ = some (out, σ')) : Cl C f args σ out σ' := ⟨k, fun _m hm => call_mono hm h⟩
theorem Cl.run {C : Cfg} {f : FuncId} {args : List A} {σ σ' : St} {out : Out} (h : Cl C f args σ out σ') : ∃ k, call C k f args σ = some (out, σ') := h.elim fun N h => ⟨N, h N (Nat.le_refl _)⟩

end Go.DM
namespace Go.DM
open Go Go.RowKit

/-- code comes to what Q says (of a frame that may be less than the true one) -/
def Ex (C : Cfg) (n : Nat) (c : Code) (φ : Fr) (σ : St) (Q : X → Fr → St → Prop) : Prop :=
  ∃ N x φ0 φ' σ', Q x φ0 σ' ∧ φ0.le φ' ∧ exec C (call C N) n N c φ σ = some (x, φ', σ')
/-- operations come to what Q says -/
def ExO (C : Cfg) (n : Nat) (ops : Array Oper) (l : List Oper) (φ : Fr) (σ : St) (Q : X → Fr → St → Prop) : Prop :=
  ∃ N x φ0 φ' σ', Q x φ0 σ' ∧ φ0.le φ' ∧ runOps C (call C N) n ops l φ σ = some (x, φ', σ')

section
variable {C : Cfg} {n : Nat} {ops : Array Oper} {Q Q' : X → Fr → St → Prop} {φ ψ : Fr} {σ : St} {c a b : Code}

theorem callLe {k m : Nat} (h : k ≤ m) : CallF.le (call C k) (call C m) := fun _ _ _ _ hr => call_mono h hr
theorem Ex.up (h : φ.le ψ) (he : Ex C n c φ σ Q) : Ex C n c ψ σ Q := by
  obtain ⟨N, x, φ0, φ', σ', h1, h2, h3⟩ := he
  obtain ⟨ψ', g1, g2⟩ := exec_mono (callLe (Nat.le_refl N)) (Nat.le_refl N) h h3
  exact ⟨N, x, φ0, ψ', σ', h1, h2.trans g2, g1⟩
theorem Ex.imp (hq : ∀ x φ σ, Q x φ σ → Q' x φ σ) (he : Ex C n c φ σ Q) : Ex C n c φ σ Q' := by
  obtain ⟨N, x, φ0, φ', σ', h1, h2⟩ := he
  exact ⟨N, x, φ0, φ', σ', hq _ _ _ h1, h2⟩
theorem ExO.up {l : List Oper} (h : φ.le ψ) (he : ExO C n ops l φ σ Q) : ExO C n ops l ψ σ Q := by
  obtain ⟨N, x, φ0, φ', σ', h1, h2, h3⟩ := he
  obtain ⟨ψ', g1, g2⟩ := runOps_mono (callLe (Nat.le_refl N)) h h3
  exact ⟨N, x, φ0, ψ', σ', h1, h2.trans g2, g1⟩

theorem Ex.skip (h : Q .normal φ σ) : Ex C n .skip φ σ Q := ⟨1, _, φ, φ, σ, h, Fr.le.refl _, rfl⟩
theorem Ex.exit {id : Nat} (h : Q (.exit id) φ σ) : Ex C n (.exit id) φ σ Q := ⟨1, _, φ, φ, σ, h, Fr.le.refl _, rfl⟩
theorem Ex.ret (h : Q .ret φ σ) : Ex C n .ret φ σ Q := ⟨1, _, φ, φ, σ, h, Fr.le.refl _, rfl⟩
theorem Ex.region {id : Nat} {ops : Array Oper} (h : ExO C n ops ops.toList φ σ Q) : Ex C n (.region id ops false) φ σ Q := by
  obtain ⟨N, x, φ0, φ', σ', h1, h2, h3⟩ := h
  obtain ⟨ψ', g1, g2⟩ := runOps_mono (callLe (Nat.le_succ N)) (Fr.le.refl φ) h3
  exact ⟨N + 1, x, φ0, ψ', σ', h1, h2.trans g2, g1⟩
theorem Ex.draw {id : Nat} {ops : Array Oper} (hd : drawOk ops (Region.before ops) = true) {N : Nat} {x : X} {φ' : Fr} {σ' : St} (h : runDr C (call C N) n ops (Region.before ops) ops.toList 0 φ σ [] [] = some (x, φ', σ')) (hq : Q x φ' σ') : Ex C n (.region id ops true) φ σ Q := by
  obtain ⟨ψ', g1, g2⟩ := runDq_mono (callLe (Nat.le_succ N)) (Fr.le.refl φ) .nil (runDr_dq h)
  exact ⟨N + 1, x, φ', ψ', σ', hq, g2, by simp only [exec, runOpen, if_pos hd]; exact g1⟩

/-- what comes behind the first part -/
def Then (K : Fr → St → Prop) (Q : X → Fr → St → Prop) : X → Fr → St → Prop
  | .normal, φ, σ => K φ σ
  | x, φ, σ => Q x φ σ
theorem Ex.seq (h : Ex C n a φ σ (Then (fun φ' σ' => Ex C n b φ' σ' Q) Q)) : Ex C n (.seq a b) φ σ Q := by
  obtain ⟨N, x, φ0, φ', σ', h1, h2, h3⟩ := h
  cases x with
  | normal =>
    obtain ⟨M, y, φ1, φ2, σ2, g1, g2, g3⟩ := Ex.up h2 h1
    obtain ⟨ψ1, e1, e2⟩ := exec_mono (m := N + M) (callLe (m := N + M + 1) (by omega)) (by omega) (Fr.le.refl φ) h3
    obtain ⟨ψ2, e3, e4⟩ := exec_mono (m := N + M) (callLe (m := N + M + 1) (by omega)) (by omega) e2 g3
    refine ⟨N + M + 1, y, φ1, ψ2, σ2, g1, g2.trans e4, ?_⟩
    simp only [exec, e1, e3]
  | _ =>
    obtain ⟨ψ1, e1, e2⟩ := exec_mono (m := N) (callLe (m := N + 1) (by omega)) (by omega) (Fr.le.refl φ) h3
    refine ⟨N + 1, _, φ0, ψ1, σ', h1, h2.trans e2, ?_⟩
    simp only [exec, e1]
theorem Ex.cond {x : Operand} {t : Bool} (hx : ev C φ x = some (.v (.bool t))) (h : Ex C n (if t then a else b) φ σ Q) : Ex C n (.cond x a b) φ σ Q := by
  obtain ⟨N, y, φ0, φ', σ', h1, h2, h3⟩ := h
  obtain ⟨ψ1, e1, e2⟩ := exec_mono (m := N) (callLe (m := N + 1) (by omega)) (by omega) (Fr.le.refl φ) h3
  refine ⟨N + 1, y, φ0, ψ1, σ', h1, h2.trans e2, ?_⟩
  simp only [exec, hx]
  exact e1
/-- both ways -/
theorem Ex.split {x : Operand} {t : Bool} (hx : ev C φ x = some (.v (.bool t))) (ht : t = true → Ex C n a φ σ Q) (hf : t = false → Ex C n b φ σ Q) : Ex C n (.cond x a b) φ σ Q := by
  refine Ex.cond hx ?_
  cases t
  · exact hf rfl
  · exact ht rfl
def Blk' (id : Nat) (Q : X → Fr → St → Prop) : X → Fr → St → Prop
  | .exit j, φ, σ => if j = id then Q .normal φ σ else Q (.exit j) φ σ
  | x, φ, σ => Q x φ σ
theorem Ex.block {id : Nat} (h : Ex C n a φ σ (Blk' id Q)) : Ex C n (.block id a) φ σ Q := by
  obtain ⟨N, x, φ0, φ', σ', h1, h2, h3⟩ := h
  obtain ⟨ψ1, e1, e2⟩ := exec_mono (m := N) (callLe (m := N + 1) (by omega)) (by omega) (Fr.le.refl φ) h3
  cases x with
  | exit j =>
    simp only [Blk'] at h1
    by_cases hj : j = id
    · rw [if_pos hj] at h1
      exact ⟨N + 1, _, φ0, ψ1, σ', h1, h2.trans e2, by simp only [exec, e1, if_pos hj]⟩
    · rw [if_neg hj] at h1
      exact ⟨N + 1, _, φ0, ψ1, σ', h1, h2.trans e2, by simp only [exec, e1, if_neg hj]⟩
  | _ => exact ⟨N + 1, _, φ0, ψ1, σ', h1, h2.trans e2, by simp only [exec, e1]⟩
theorem Ex.loop1 (h : Ex C n a φ σ (Then (fun φ' σ' => Ex C n (.loop a) φ' σ' Q) Q)) : Ex C n (.loop a) φ σ Q := by
  obtain ⟨N, x, φ0, φ', σ', h1, h2, h3⟩ := h
  cases x with
  | normal =>
    obtain ⟨M, y, φ1, φ2, σ2, g1, g2, g3⟩ := Ex.up h2 h1
    obtain ⟨ψ1, e1, e2⟩ := exec_mono (m := N + M) (callLe (m := N + M + 1) (by omega)) (by omega) (Fr.le.refl φ) h3
    obtain ⟨ψ2, e3, e4⟩ := exec_mono (m := N + M) (callLe (m := N + M + 1) (by omega)) (by omega) e2 g3
    refine ⟨N + M + 1, y, φ1, ψ2, σ2, g1, g2.trans e4, ?_⟩
    simp only [exec, e1, e3]
  | _ =>
    obtain ⟨ψ1, e1, e2⟩ := exec_mono (m := N) (callLe (m := N + 1) (by omega)) (by omega) (Fr.le.refl φ) h3
    refine ⟨N + 1, _, φ0, ψ1, σ', h1, h2.trans e2, ?_⟩
    simp only [exec, e1]
/-- a loop: its states by an index, with a measure that falls -/
theorem Ex.loop {ι : Type} (F : ι → Fr) (S : ι → St) (μ : ι → Nat) (step : ∀ i, Ex C n a (F i) (S i) (Then (fun φ' σ' => ∃ j, μ j < μ i ∧ (F j).le φ' ∧ σ' = S j) Q)) : ∀ i, Ex C n (.loop a) (F i) (S i) Q := by
  have key : ∀ m i, μ i < m → Ex C n (.loop a) (F i) (S i) Q := by
    intro m
    induction m with
    | zero => intro i hi; omega
    | succ m ih =>
      intro i hi
      refine Ex.loop1 ((step i).imp (fun x φ' σ' h => ?_))
      cases x with
      | normal =>
        obtain ⟨j, h1, h2, rfl⟩ := h
        exact Ex.up h2 (ih j (by omega))
      | _ => exact h
  intro i
  exact key (μ i + 1) i (by omega)

theorem ExO.nil (h : Q .normal φ σ) : ExO C n ops [] φ σ Q := ⟨0, _, φ, φ, σ, h, Fr.le.refl _, rfl⟩
/-- some operations at once, none of which calls -/
theorem ExO.run {l m : List Oper} {φ' : Fr} {σ' : St} (h : runOps C (fun _ _ _ => none) n ops l φ σ = some (.normal, φ', σ')) (hm : ExO C n ops m φ' σ' Q) : ExO C n ops (l ++ m) φ σ Q := by
  obtain ⟨N, x, φ0, φ2, σ2, h1, h2, h3⟩ := hm
  have app : ∀ (l : List Oper) (φ ψ : Fr) (σ : St), φ.le ψ → runOps C (fun _ _ _ => none) n ops l φ σ = some (.normal, φ', σ') → ∃ ψ', φ'.le ψ' ∧ runOps C (call C N) n ops (l ++ m) ψ σ = runOps C (call C N) n ops m ψ' σ' := by
    intro l
    induction l with
    | nil => intro φ ψ σ hle h; simp only [runOps] at h; cases h; exact ⟨ψ, hle, rfl⟩
    | cons o l ih =>
      intro φ ψ σ hle h
      simp only [runOps, List.cons_append] at h ⊢
      split at h
      · rename_i hw
        rw [wanted_mono hle hw]
        simp only
        split at h
        · rename_i y s ho
          rw [op_mono (ev_mono hle) ho]
          simp only
          split at h
          case h_2 => cases h
          rename_i φ3 hp
          obtain ⟨ψ3, e1, e2⟩ := put_mono hle hp
          rw [e1]
          exact ih _ _ _ e2 h
        · rename_i s ho
          rw [op_mono (ev_mono hle) ho]
          simp only
          split at h
          case h_2 => cases h
          rename_i φ3 hp
          obtain ⟨ψ3, e1, e2⟩ := put_mono hle hp
          rw [e1]
          exact ih _ _ _ e2 h
        · cases h
        · rename_i f args s ho
          rw [op_mono (ev_mono hle) ho]
          simp only
          split at h
          case h_2 => cases h
          rename_i φ3 hp
          have hle' : Fr.le { φ with ds := (f, args) :: φ.ds } { ψ with ds := (f, args) :: ψ.ds } := ⟨hle.1, by simp [hle.2]⟩
          obtain ⟨ψ3, e1, e2⟩ := put_mono hle' hp
          rw [e1]
          exact ih _ _ _ e2 h
        · cases h
        · cases h
      · rename_i hw
        rw [wanted_mono hle hw]
        simp only
        split at h
        case h_2 => cases h
        rename_i φ3 hp
        obtain ⟨ψ3, e1, e2⟩ := put_mono hle hp
        rw [e1]
        exact ih _ _ _ e2 h
      · cases h
  obtain ⟨ψ', e1, e2⟩ := app l φ φ σ (Fr.le.refl _) h
  obtain ⟨ψ2, g1, g2⟩ := runOps_mono (callLe (Nat.le_refl N)) e1 h3
  exact ⟨N, x, φ0, ψ2, σ2, h1, h2.trans g2, by rw [e2]; exact g1⟩
/-- one operation that comes to a value -/
theorem ExO.val {o : Oper} {l : List Oper} {x : A} {σ' : St} {φ' : Fr} (hw : wantedA ops φ o = some true) (ho : op C (ev C φ) o σ = some (.val x σ')) (hp : putA n φ o.dst x = some φ') (h : ExO C n ops l φ' σ' Q) : ExO C n ops (o :: l) φ σ Q := by
  obtain ⟨N, y, φ0, φ2, σ2, h1, h2, h3⟩ := h
  exact ⟨N, y, φ0, φ2, σ2, h1, h2, by simp only [runOps, hw, ho, hp]; exact h3⟩
theorem ExO.skip {o : Oper} {l : List Oper} {σ' : St} {φ' : Fr} (hw : wantedA ops φ o = some true) (ho : op C (ev C φ) o σ = some (.skip σ')) (hp : putA n φ o.dst und = some φ') (h : ExO C n ops l φ' σ' Q) : ExO C n ops (o :: l) φ σ Q := by
  obtain ⟨N, y, φ0, φ2, σ2, h1, h2, h3⟩ := h
  exact ⟨N, y, φ0, φ2, σ2, h1, h2, by simp only [runOps, hw, ho, hp]; exact h3⟩
/-- one that its guard leaves out -/
theorem ExO.off {o : Oper} {l : List Oper} {φ' : Fr} (hw : wantedA ops φ o = some false) (hp : putA n φ o.dst und = some φ') (h : ExO C n ops l φ' σ Q) : ExO C n ops (o :: l) φ σ Q := by
  obtain ⟨N, y, φ0, φ2, σ2, h1, h2, h3⟩ := h
  exact ⟨N, y, φ0, φ2, σ2, h1, h2, by simp only [runOps, hw, hp]; exact h3⟩
/-- a guard both ways -/
theorem ExO.guard {o : Oper} {l : List Oper} {t : Bool} (hw : wantedA ops φ o = some t) (ht : t = true → ExO C n ops (o :: l) φ σ Q) (hf : t = false → ExO C n ops (o :: l) φ σ Q) : ExO C n ops (o :: l) φ σ Q := by
  cases t
  · exact hf rfl
  · exact ht rfl
/-- a call -/
theorem ExO.call {o : Oper} {l : List Oper} {f : FuncId} {args : List A} {x : A} {σ' σ'' : St} {φ' : Fr} (hw : wantedA ops φ o = some true) (ho : op C (ev C φ) o σ = some (.call f args σ')) (hcl : Cl C f args σ' (.ret x) σ'')
    (hp : putA n φ o.dst x = some φ') (h : ExO C n ops l φ' σ'' Q) : ExO C n ops (o :: l) φ σ Q := by
  obtain ⟨N, y, φ0, φ2, σ2, h1, h2, h3⟩ := h
  obtain ⟨M, hM⟩ := hcl
  obtain ⟨ψ2, g1, g2⟩ := runOps_mono (callLe (m := N + M) (by omega)) (Fr.le.refl φ') h3
  exact ⟨N + M, y, φ0, ψ2, σ2, h1, h2.trans g2, by simp only [runOps, hw, ho, hM (N + M) (by omega), hp]; exact g1⟩

/-- a region whose order is open, operation by operation -/
def ExD (C : Cfg) (n : Nat) (ops : Array Oper) (l : List Oper) (j : Nat) (φ : Fr) (σ : St) (past : List (Nat × St)) (pend : List (Nat × Fr × Oper × A)) (Q : X → Fr → St → Prop) : Prop :=
  ∃ N x φ0 φ' σ', Q x φ0 σ' ∧ φ0.le φ' ∧ runDq C (call C N) n ops (Region.before ops) l j φ σ past pend = some (x, φ', σ')
theorem Ex.drawn {id : Nat} {ops : Array Oper} (hd : drawOk ops (Region.before ops) = true) (h : ExD C n ops ops.toList 0 φ σ [] [] Q) : Ex C n (.region id ops true) φ σ Q := by
  obtain ⟨N, x, φ0, φ', σ', h1, h2, h3⟩ := h
  obtain ⟨ψ', g1, g2⟩ := runDq_mono (callLe (Nat.le_succ N)) (Fr.le.refl φ) .nil h3
  exact ⟨N + 1, x, φ0, ψ', σ', h1, h2.trans g2, by simp only [exec, runOpen, if_pos hd]; exact g1⟩
theorem Ex.openR {id : Nat} {ops : Array Oper} {N : Nat} {x : X} {φ0 φ' : Fr} {σ' : St} (hq : Q x φ0 σ') (hl : φ0.le φ') (h : runOpen C (call C N) n ops φ σ = some (x, φ', σ')) : Ex C n (.region id ops true) φ σ Q := by
  obtain ⟨ψ', g1, g2⟩ := runOpen_mono (callLe (Nat.le_succ N)) (Fr.le.refl φ) h
  exact ⟨N + 1, x, φ0, ψ', σ', hq, hl.trans g2, by simp only [exec]; exact g1⟩
section
variable {l : List Oper} {j : Nat} {past : List (Nat × St)} {pend : List (Nat × Fr × Oper × A)} {o : Oper} {x : A} {φ' : Fr} {σ' σ'' : St}
theorem ExD.nil (h : Q .normal φ σ) : ExD C n ops [] j φ σ past pend Q := ⟨0, _, φ, φ, σ, h, Fr.le.refl _, rfl⟩
/-- a quiet one -/
theorem ExD.val (hw : wantedA ops φ o = some true) (hq : isQuiet o = true) (ho : opQ C (ev C φ) o σ = some x) (hs : stableP C (Region.before ops) φ o j x past = true) (hp : putA n φ o.dst x = some φ')
    (h : ExD C n ops l (j + 1) φ' σ past ((j, φ, o, x) :: pend) Q) : ExD C n ops (o :: l) j φ σ past pend Q := by
  obtain ⟨N, y, φ0, φ2, σ2, h1, h2, h3⟩ := h
  exact ⟨N, y, φ0, φ2, σ2, h1, h2, by simp only [runDq, hw, hq, ho, hs, hp, if_true]; exact h3⟩
theorem ExD.off (hw : wantedA ops φ o = some false) (hp : putA n φ o.dst und = some φ') (h : ExD C n ops l (j + 1) φ' σ past pend Q) : ExD C n ops (o :: l) j φ σ past pend Q := by
  obtain ⟨N, y, φ0, φ2, σ2, h1, h2, h3⟩ := h
  exact ⟨N, y, φ0, φ2, σ2, h1, h2, by simp only [runDq, hw, hp]; exact h3⟩
/-- one that acts, without a call -/
theorem ExD.loud (hw : wantedA ops φ o = some true) (hq : isQuiet o = false) (ho : op C (ev C φ) o σ = some (.val x σ') ∨ (op C (ev C φ) o σ = some (.skip σ') ∧ x = und)) (hs : stableF C (Region.before ops) j σ' pend = true) (hp : putA n φ o.dst x = some φ')
    (h : ExD C n ops l (j + 1) φ' σ' ((j, σ) :: past) pend Q) : ExD C n ops (o :: l) j φ σ past pend Q := by
  obtain ⟨N, y, φ0, φ2, σ2, h1, h2, h3⟩ := h
  have hl : loudStep C (DM.call C N) φ o σ = some (x, σ') := by
    unfold loudStep
    rcases ho with ho | ⟨ho, rfl⟩ <;> rw [ho]
  exact ⟨N, y, φ0, φ2, σ2, h1, h2, by simp only [runDq, hw, hq, hl, hs, hp, if_true, Bool.false_eq_true, if_false]; exact h3⟩
/-- a call -/
theorem ExD.call {f : FuncId} {args : List A} (hw : wantedA ops φ o = some true) (hq : isQuiet o = false) (ho : op C (ev C φ) o σ = some (.call f args σ')) (hcl : Cl C f args σ' (.ret x) σ'') (hs : stableF C (Region.before ops) j σ'' pend = true)
    (hp : putA n φ o.dst x = some φ') (h : ExD C n ops l (j + 1) φ' σ'' ((j, σ) :: past) pend Q) : ExD C n ops (o :: l) j φ σ past pend Q := by
  obtain ⟨N, y, φ0, φ2, σ2, h1, h2, h3⟩ := h
  obtain ⟨M, hM⟩ := hcl
  have hpend : ∀ l : List (Nat × Fr × Oper × A), PendLe l l := by
    intro l
    induction l with
    | nil => exact .nil
    | cons a l ih => obtain ⟨i, f, o, x⟩ := a; exact .cons (Fr.le.refl _) ih
  obtain ⟨ψ2, g1, g2⟩ := runDq_mono (callLe (m := N + M) (by omega)) (Fr.le.refl φ') (hpend _) h3
  have hl : loudStep C (DM.call C (N + M)) φ o σ = some (x, σ'') := by
    unfold loudStep
    rw [ho]; simp only [hM (N + M) (by omega)]
  exact ⟨N + M, y, φ0, ψ2, σ2, h1, h2.trans g2, by simp only [runDq, hw, hq, hl, hs, hp, if_true, Bool.false_eq_true, if_false]; exact g1⟩
/-- a call that panics -/
theorem ExD.pan {f : FuncId} {args : List A} {v : A} (hw : wantedA ops φ o = some true) (hq : isQuiet o = false) (ho : op C (ev C φ) o σ = some (.call f args σ')) (hcl : Cl C f args σ' (.pan v) σ'')
    (hp : putA n φ o.dst .junk = some φ') (hdv : runDv C n ops (Region.before ops) j l (j + 1) φ' σ ((j, σ) :: past) = true) (h : Q (.pan v) (junkF ops.toList φ) σ'') : ExD C n ops (o :: l) j φ σ past pend Q := by
  obtain ⟨M, hM⟩ := hcl
  have hl : loudStep C (DM.call C M) φ o σ = none := by
    unfold loudStep
    rw [ho]; simp only [hM M (Nat.le_refl _)]
  have hpn : panStep C (DM.call C M) φ o σ = some (v, σ'') := by
    unfold panStep
    rw [ho]; simp only [hM M (Nat.le_refl _)]
  exact ⟨M, _, _, _, _, h, Fr.le.refl _, by simp only [runDq, hw, hq, hl, hpn, hp, hdv, if_true, Bool.false_eq_true, if_false]⟩
end

/-- a function without deferred calls, by its body -/
def Rets (C : Cfg) (fn : Func) (x : A) (σ1 : St) : X → Fr → St → Prop := fun e φ σ' => (e = .normal ∨ e = .ret) ∧ φ.ds = [] ∧ σ' = σ1 ∧ ∃ l, resA C φ σ' fn.results.toList = some l ∧ oneOrTup l = x
theorem Cl.enter {f : FuncId} {fn : Func} {args : List A} {x : A} {σ1 : St} (hf : C.P.funcs[f]? = some fn) (hb : fn.body = some c) (hp : C.prim f = none) (hl : args.length ≤ fn.ntmps)
    (h : Ex C fn.ntmps c ⟨argFr 0 args, []⟩ σ (Rets C fn x σ1)) : Cl C f args σ (.ret x) σ1 := by
  obtain ⟨N, e, φ0, φ', σ', ⟨h1, hds, rfl, l, hres, rfl⟩, h2, h3⟩ := h
  obtain ⟨ψ1, e1, e2⟩ := exec_mono (m := N + 1) (callLe (Nat.le_refl N)) (by omega) (Fr.le.refl _) h3
  have hle := h2.trans e2
  refine Cl.of (k := N + 1) ?_
  simp only [DM.call, hp, hf, hb, if_pos hl, e1]
  have hd : ψ1.ds = [] := by rw [hle.2, hds]
  rcases h1 with rfl | rfl <;> simp only [hd, leave, resA_mono hle hres]
end
end Go.DM
namespace Go.DM
open Go Go.RowKit

theorem det_bind {α β : Type} (P : Program) (s : Sem α) (f : α → Sem β) : det P (s >>= f) = (det P s).bind fun a => det P (f a) := by
  induction s with
  | pure a => rfl
  | program k ih => exact ih P
  | mark m k ih => exact ih
  | _ => rfl
theorem det_pure {α : Type} (P : Program) (a : α) : det P (pure a : Sem α) = some a := rfl
theorem det_map {α β : Type} (P : Program) (s : Sem α) (f : α → β) : det P (Functor.map f s) = (det P s).map f := by
  rw [map_eq_pure_bind, det_bind]
  cases det P s <;> rfl
theorem det_underlying {P : Program} {t : TypeId} {d : TypeDesc} (h : P.underlying t = some d) : det P (underlying t) = some d := by
  unfold underlying
  rw [det_bind]
  show (det P (match P.underlying t with | some d => pure d | none => stuck "no such type")) = _
  rw [h]; rfl

theorem wrap_i64 {n : Int} (h0 : -9223372036854775808 ≤ n) (h1 : n < 9223372036854775808) : IntKind.i64.wrap n = n := by
  have : IntKind.i64.wrap n = if (true && decide (n % 18446744073709551616 ≥ 9223372036854775808)) = true then n % 18446744073709551616 - 18446744073709551616 else n % 18446744073709551616 := rfl
  rw [this]
  simp only [Bool.true_and, decide_eq_true_eq]
  split <;> omega
theorem wrap_u8 {n : Int} (h0 : 0 ≤ n) (h1 : n < 256) : IntKind.u8.wrap n = n := by
  have : IntKind.u8.wrap n = if (false && decide (n % 256 ≥ 128)) = true then n % 256 - 256 else n % 256 := rfl
  rw [this]
  simp only [Bool.false_and, Bool.false_eq_true, if_false]
  omega

section
variable {C : Cfg} {ρ : Operand → Option A} {o : Oper} {σ : St}

theorem detIf_of {u : Value} {a : A} (hp : plainOps ρ o.op.operands.toList = true) (hd : det C.P (execOp (valOf ρ) o) = some (.value u)) (ha : ofVal u = some a) : detIf C ρ o σ = some (.val a σ) := by
  unfold detIf detOp
  rw [if_pos hp, hd]
  simp only [ha]
theorem valOf_v {x : Operand} {u : Value} (h : ρ x = some (.v u)) : valOf ρ x = u := by simp [valOf, h, toVal]

/-- a number that does not wrap -/
theorem val_int {r : Option R} {k : IntKind} {m n : Int} (h : r = some (.val (.v (.int k m)) σ)) (e : m = n) : r = some (.val (.v (.int k n)) σ) := e ▸ h
/-- a string's byte -/
theorem op_byte {t : TypeId} {x ix : Operand} {s : ByteArray} {k : IntKind} {i : Int} {b : UInt8} (hop : o.op = .index t x ix) (hx : ρ x = some (.v (.string s))) (hi : ρ ix = some (.v (.int k i))) (ht : C.P.underlying t = some .string)
    (h0 : 0 ≤ i) (hb : s[i.toNat]? = some b) : op C ρ o σ = some (.val (.v (.int .u8 b.toNat)) σ) := by
  have hd : detIf C ρ o σ = some (.val (.v (.int .u8 b.toNat)) σ) := by
    refine detIf_of (u := .int .u8 b.toNat) ?_ ?_ rfl
    · simp [hop, Op.operands, plainOps, hx, hi, toVal]
    · simp only [execOp, hop, valOf_v hx, valOf_v hi, Instr.index, asIntOf, det_bind, det_pure, Option.bind_some, det_underlying ht, if_pos h0, hb]
  simp only [op, hop, hx, hi, indexVal, ht]
  exact hd
/-- a part of a string -/
theorem op_part {t : TypeId} {x : Operand} {lo hi : Option Operand} {s : ByteArray} {l h : Nat} (hop : o.op = .slice t x lo hi none) (hx : ρ x = some (.v (.string s))) (ht : C.P.underlying t = some .string)
    (hlo : (lo = none ∧ l = 0) ∨ ∃ y k, lo = some y ∧ ρ y = some (.v (.int k (l : Nat)))) (hhi : (hi = none ∧ h = s.size) ∨ ∃ y k, hi = some y ∧ ρ y = some (.v (.int k (h : Nat)))) (hlh : l ≤ h) (hs : h ≤ s.size) :
    op C ρ o σ = some (.val (.v (.string (s.extract l h))) σ) := by
  have hb : ∀ (k : IntKind) (n y : Nat) (code : BoundsCode), n ≤ y → det C.P (Instr.sliceBound (.int k (n : Nat)) y code) = some n := by
    intro k n y code hn
    have h1 : (0 : Int) ≤ (n : Int) ∧ (n : Int) ≤ (y : Int) := ⟨by omega, by omega⟩
    simp only [Instr.sliceBound, asIntOf, det_bind, det_pure, Option.bind_some]
    rw [if_pos h1]
    simp [det_pure]
  rcases hlo with ⟨rfl, rfl⟩ | ⟨y, k, rfl, hy⟩ <;> rcases hhi with ⟨rfl, rfl⟩ | ⟨z, k', rfl, hz⟩
  · have hd : detIf C ρ o σ = some (.val (.v (.string (s.extract 0 s.size))) σ) := by
      refine detIf_of (u := .string (s.extract 0 s.size)) ?_ ?_ rfl
      · simp [hop, Op.operands, plainOps, hx, toVal]
      · simp [execOp, hop, valOf_v hx, Instr.sliceAt, Instr.slice, Instr.sliceBounds, det_bind, det_map, det_pure, det_underlying ht]
    simp only [op, hop, hx, optOf, sliceOp, ht]
    exact hd
  · have hd : detIf C ρ o σ = some (.val (.v (.string (s.extract 0 h))) σ) := by
      refine detIf_of (u := .string (s.extract 0 h)) ?_ ?_ rfl
      · simp [hop, Op.operands, plainOps, hx, hz, toVal]
      · simp [execOp, hop, valOf_v hx, valOf_v hz, Instr.sliceAt, Instr.slice, Instr.sliceBounds, det_bind, det_map, det_underlying ht, hb k' h s.size _ hs]
    simp only [op, hop, hx, hz, optOf, sliceOp, ht]
    exact hd
  · have hd : detIf C ρ o σ = some (.val (.v (.string (s.extract l s.size))) σ) := by
      refine detIf_of (u := .string (s.extract l s.size)) ?_ ?_ rfl
      · simp [hop, Op.operands, plainOps, hx, hy, toVal]
      · simp [execOp, hop, valOf_v hx, valOf_v hy, Instr.sliceAt, Instr.slice, Instr.sliceBounds, det_bind, det_map, det_underlying ht, hb k l s.size _ hlh]
    simp only [op, hop, hx, hy, optOf, sliceOp, ht]
    exact hd
  · have hd : detIf C ρ o σ = some (.val (.v (.string (s.extract l h))) σ) := by
      refine detIf_of (u := .string (s.extract l h)) ?_ ?_ rfl
      · simp [hop, Op.operands, plainOps, hx, hy, hz, toVal]
      · simp [execOp, hop, valOf_v hx, valOf_v hy, valOf_v hz, Instr.sliceAt, Instr.slice, Instr.sliceBounds, det_bind, det_map, det_underlying ht, hb k' h s.size _ hs, hb k l h _ hlh]
    simp only [op, hop, hx, hy, hz, optOf, sliceOp, ht]
    exact hd
/-- a string's length -/
theorem op_len {c : Call} {x : Operand} {s : ByteArray} {t : TypeId} (hop : o.op = .call c) (hc : c.callee = .builtin .len) (ha : c.args.toList = [x]) (h0 : c.argTypes[0]? = some t) (hx : ρ x = some (.v (.string s))) (ht : C.P.underlying t = some .string) :
    op C ρ o σ = some (.val (.v (.int .i64 (s.size : Nat))) σ) := by
  have hd : detIf C ρ o σ = some (.val (.v (.int .i64 (s.size : Nat))) σ) := by
    refine detIf_of (u := .int .i64 (s.size : Nat)) ?_ ?_ rfl
    · have : o.op.operands.toList = [x] := by simp [hop, Op.operands, Call.operands, hc, ha]
      rw [this]; simp [plainOps, hx, toVal]
    · rw [exec_builtin hop hc, args1 ha, valOf_v hx]
      simp [builtin, Builtin.len_, h0, det_bind, det_map, det_pure, det_underlying ht, goInt]
  simp only [op, hop, hc, builtinOp, ha, hx, h0, lenA, ht]
  exact hd
/-- a slice's length, its place, what lies there -/
theorem op_lenS {c : Call} {x : Operand} {cs : List A} {sz : Nat} {ap : Ap} {t e : TypeId} (hop : o.op = .call c) (hc : c.callee = .builtin .len) (ha : c.args.toList = [x]) (h0 : c.argTypes[0]? = some t) (hx : ρ x = some (.sl sz cs ap)) (ht : C.P.underlying t = some (.slice e)) :
    op C ρ o σ = some (.val (.v (.int .i64 ((cs.length / sz : Nat) : Int))) σ) := by
  simp only [op, hop, hc, builtinOp, ha, hx, h0, lenA, ht]
theorem op_at {t e : TypeId} {x ix : Operand} {cs : List A} {sz : Nat} {ap : Ap} {k : IntKind} {n : Int} (hop : o.op = .indexAddr t x ix) (hx : ρ x = some (.sl sz cs ap)) (hi : ρ ix = some (.v (.int k n))) (ht : C.P.underlying t = some (.slice e)) (hs : sizeOfT C.P e = some sz)
    (h0 : 0 < sz) (hn : 0 ≤ n) (hl : n < ((cs.length / sz : Nat) : Int)) : op C ρ o σ = some (.val (.sp cs (n.toNat * sz) .no) σ) := by
  simp only [op, hop, hx, hi, indexAddrOp, ht, hs]
  rw [if_pos ⟨trivial, h0, hn, hl⟩]; rfl
theorem op_load {t : TypeId} {a : Operand} {cs : List A} {i : Nat} {ap : Ap} {x : A} (hop : o.op = .load t a) (ha : ρ a = some (.sp cs i ap)) (hl : loadAt C.P t cs i = some x) : op C ρ o σ = some (.val x σ) := by
  simp only [op, hop, ha, loadOp, hl]; rfl
theorem opQ_at {t e : TypeId} {x ix : Operand} {cs : List A} {sz : Nat} {ap : Ap} {k : IntKind} {n : Int} (hop : o.op = .indexAddr t x ix) (hx : ρ x = some (.sl sz cs ap)) (hi : ρ ix = some (.v (.int k n))) (ht : C.P.underlying t = some (.slice e)) (hs : sizeOfT C.P e = some sz)
    (h0 : 0 < sz) (hn : 0 ≤ n) (hl : n < ((cs.length / sz : Nat) : Int)) : opQ C ρ o σ = some (.sp cs (n.toNat * sz) .no) := by
  simp only [opQ, hop, op_at hop hx hi ht hs h0 hn hl]
theorem opQ_load {t : TypeId} {a : Operand} {cs : List A} {i : Nat} {ap : Ap} {x : A} (hop : o.op = .load t a) (ha : ρ a = some (.sp cs i ap)) (hl : loadAt C.P t cs i = some x) : opQ C ρ o σ = some x := by
  simp only [opQ, hop, op_load hop ha hl]
theorem opQ_byte {t : TypeId} {x ix : Operand} {s : ByteArray} {k : IntKind} {i : Int} {b : UInt8} (hop : o.op = .index t x ix) (hx : ρ x = some (.v (.string s))) (hi : ρ ix = some (.v (.int k i))) (ht : C.P.underlying t = some .string)
    (h0 : 0 ≤ i) (hb : s[i.toNat]? = some b) : opQ C ρ o σ = some (.v (.int .u8 b.toNat)) := by
  simp only [opQ, hop, op_byte hop hx hi ht h0 hb]
/-- an append to an owned slice -/
theorem append_own {P : Program} {t e : TypeId} {i : TypeInfo} {cs new : List A} {id : Nat} {x : A} (ht : P.underlying t = some (.slice e)) (hi : P.info? e = some i) (hx : appended σ i.size x = some new) (hz : 0 < i.size) (hn : new ≠ []) (h1 : allOne new = true)
    (h2 : i.zero.isSome = true) (h3 : (i.zero.map (·.cells.size)) = some i.size) (h4 : 0 < i.bytes) (hb : (2 * ((cs.length + new.length) / i.size) + 1024) * i.bytes ≤ 281474976710656) (hl : σ.live id = some e) :
    appendOp P t (.sl i.size cs (.gr id)) x σ = some (.sl i.size (cs ++ new) (.gr σ.nextT), (σ.untok id).tok e) := by
  simp only [appendOp, ht, hi, hx, if_pos hz, if_neg hn]
  rw [if_pos ⟨h1, h2, h3, h4⟩]
  simp only [true_and]
  rw [if_pos hb, if_pos hl]
theorem append_new_ {P : Program} {t e : TypeId} {i : TypeInfo} {cs new : List A} {x : A} (ht : P.underlying t = some (.slice e)) (hi : P.info? e = some i) (hx : appended σ i.size x = some new) (hz : 0 < i.size) (hn : new ≠ []) (h1 : allOne new = true)
    (h2 : i.zero.isSome = true) (h3 : (i.zero.map (·.cells.size)) = some i.size) (h4 : 0 < i.bytes) (hb : (2 * ((cs.length + new.length) / i.size) + 1024) * i.bytes ≤ 281474976710656) :
    appendOp P t (.sl i.size cs .ex) x σ = some (.sl i.size (cs ++ new) (.gr σ.nextT), σ.tok e) := by
  simp only [appendOp, ht, hi, hx, if_pos hz, if_neg hn]
  rw [if_pos ⟨h1, h2, h3, h4⟩]
  simp only [true_and]
  rw [if_pos hb]
theorem append_nil {P : Program} {t e : TypeId} {i : TypeInfo} {new : List A} {x : A} (ht : P.underlying t = some (.slice e)) (hi : P.info? e = some i) (hx : appended σ i.size x = some new) (hz : 0 < i.size) (hn : new ≠ []) (h1 : allOne new = true)
    (h2 : i.zero.isSome = true) (h3 : (i.zero.map (·.cells.size)) = some i.size) (h4 : 0 < i.bytes) (hb : (2 * (new.length / i.size) + 1024) * i.bytes ≤ 281474976710656) :
    appendOp P t (.v (.slice none 0 0)) x σ = some (.sl i.size new (.gr σ.nextT), σ.tok e) := by
  simp only [appendOp, ht, hi, hx, if_pos hz, if_neg hn]
  rw [if_pos ⟨h1, h2, h3, h4⟩, if_pos hb]
end

/-- what was there stays: blocks and tokens below the marks -/
structure St.ext (σ σ' : St) : Prop where
  next : σ.next ≤ σ'.next
  nextT : σ.nextT ≤ σ'.nextT
  blks : ∀ b, b < σ.next → σ'.blks.get b = σ.blks.get b
  toks : ∀ t, t < σ.nextT → σ'.toks.get t = σ.toks.get t
theorem St.ext.refl (σ : St) : σ.ext σ := ⟨Nat.le_refl _, Nat.le_refl _, fun _ _ => rfl, fun _ _ => rfl⟩
theorem St.ext.trans {a b c : St} (h : a.ext b) (g : b.ext c) : a.ext c :=
  ⟨Nat.le_trans h.next g.next, Nat.le_trans h.nextT g.nextT, fun x hx => (g.blks x (Nat.lt_of_lt_of_le hx h.next)).trans (h.blks x hx), fun x hx => (g.toks x (Nat.lt_of_lt_of_le hx h.nextT)).trans (h.toks x hx)⟩
theorem St.ext.tok (σ : St) (e : TypeId) : σ.ext (σ.tok e) :=
  ⟨Nat.le_refl _, Nat.le_succ _, fun _ _ => rfl, fun t ht => by simp only [St.tok, Tr.get_set]; rw [if_neg (by omega)]⟩
/-- a token that is not older than the mark is given up for a new one -/
theorem St.ext.retok {σ σ' : St} (h : σ.ext σ') {id : Nat} (hid : σ.nextT ≤ id) (e : TypeId) : σ.ext ((σ'.untok id).tok e) :=
  ⟨h.next, Nat.le_succ_of_le h.nextT, h.blks, fun t ht => by
    have h1 := h.nextT
    simp only [St.tok, St.untok, Tr.get_set, Tr.get_del]
    rw [if_neg (by omega), if_neg (by omega)]
    exact h.toks t ht⟩
theorem live_tok (σ : St) (e : TypeId) : (σ.tok e).live σ.nextT = some e := by simp [St.live, St.tok, Tr.get_set]
theorem live_retok (σ : St) (id : Nat) (e : TypeId) : ((σ.untok id).tok e).live σ.nextT = some e := by simp [St.live, St.tok, St.untok, Tr.get_set]

/-- a call comes to a value of which Q holds, in blocks that keep the old ones -/
def Ca (C : Cfg) (f : FuncId) (args : List A) (σ : St) (Q : A → St → Prop) : Prop := ∃ x σ', Cl C f args σ (.ret x) σ' ∧ Q x σ'
def Ret (C : Cfg) (fn : Func) (Q : A → St → Prop) : X → Fr → St → Prop := fun e φ σ' => (e = .normal ∨ e = .ret) ∧ φ.ds = [] ∧ ∃ l, resA C φ σ' fn.results.toList = some l ∧ Q (oneOrTup l) σ'
theorem Ca.enter {C : Cfg} {c : Code} {f : FuncId} {fn : Func} {args : List A} {σ : St} {Q : A → St → Prop} (hf : C.P.funcs[f]? = some fn) (hb : fn.body = some c) (hp : C.prim f = none) (hl : args.length ≤ fn.ntmps)
    (h : Ex C fn.ntmps c ⟨argFr 0 args, []⟩ σ (Ret C fn Q)) : Ca C f args σ Q := by
  obtain ⟨N, e, φ0, φ', σ', ⟨h1, hds, l, hres, hq⟩, h2, h3⟩ := h
  exact ⟨oneOrTup l, σ', Cl.enter hf hb hp hl ⟨N, e, φ0, φ', σ', ⟨h1, hds, rfl, l, hres, rfl⟩, h2, h3⟩, hq⟩
theorem ExO.ca {C : Cfg} {n : Nat} {ops : Array Oper} {Q : X → Fr → St → Prop} {φ : Fr} {σ : St} {o : Oper} {l : List Oper} {f : FuncId} {args : List A} {σ' : St} {R : A → St → Prop} (hw : wantedA ops φ o = some true) (ho : op C (ev C φ) o σ = some (.call f args σ'))
    (hcl : Ca C f args σ' R) (h : ∀ x σ'', R x σ'' → ∃ φ', putA n φ o.dst x = some φ' ∧ ExO C n ops l φ' σ'' Q) : ExO C n ops (o :: l) φ σ Q := by
  obtain ⟨x, σ'', h1, h2⟩ := hcl
  obtain ⟨φ', h3, h4⟩ := h x σ'' h2
  exact ExO.call hw ho h1 h3 h4

/-- a frame by its slots: 'fr0', with slots laid one by one -/
def fr0 : Fr := ⟨.nil, []⟩
theorem fr0_le {φ : Fr} (hd : φ.ds = []) : fr0.le φ := ⟨fun t x h => by simp [fr0] at h, hd⟩
theorem frS_le {φ ψ : Fr} {t : Nat} {x : A} (hx : ψ.s.get t = some x) (h : φ.le ψ) : (φ.set t x).le ψ := by
  refine ⟨fun u y hu => ?_, h.2⟩
  simp only [Fr.set, Tr.get_set] at hu
  split at hu
  · rename_i hh; cases hu; rw [hh]; exact hx
  · exact h.1 u y hu
end Go.DM
