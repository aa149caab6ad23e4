/- This text proves rules for the D-machine's runs with open data. No condition. -/
import Derived.Test.YthcnipopdbgpdaaGreatDoorDmD
import Derived.Lib.SplitLaws
import Derived.Lib.SlTrimSet
import Derived.Lib.Bytealg
import Derived.Lib.AtoiAll
import Derived.Lib.ItoaNum
import Derived.Lib.IndexMore
import Derived.Lib.Fields
import Derived.LoopN
namespace Go.DM
open Go Go.RowKit

def Fr.le (φ ψ : Fr) : Prop := (∀ t x, φ.s.get t = some x → ψ.s.get t = some x) ∧ ψ.ds = φ.ds
theorem Fr.le.refl (φ : Fr) : φ.le φ := ⟨fun _ _ h => h, rfl⟩
theorem Fr.le.trans {a b c : Fr} (h : a.le b) (g : b.le c) : a.le c := ⟨fun t x e => g.1 t x (h.1 t x e), g.2.trans h.2⟩
def CallF.le (f g : CallF) : Prop := ∀ a b c r, f a b c = some r → g a b c = some r

section
variable {C : Cfg} {ρ₁ ρ₂ : Operand → Option A} {o : Oper} {σ : St} {r : R}

theorem Dl : ∀ {l : List Operand} {as : List A}, C2 ρ₁ l = some as → ∀ x ∈ l, (ρ₁ x).isSome = true
 | [], _, _, x, hx => by simp at hx
 | y :: l, as, h, x, hx => by
  simp only [C2] at h
  split at h
  case h_2 => cases h
  rename_i a ha
  split at h
  case h_2 => cases h
  rename_i l' hl
  rcases List.mem_cons.1 hx with rfl | hx
  ·simp [ha]
  ·exact Dl hl x hx
theorem F4 : ∀ {l : List (Nat × Operand)} {as : List (Nat × A)}, Cv ρ₁ l = some as → ∀ x ∈ l, (ρ₁ x.2).isSome = true
 | [], _, _, x, hx => by simp at hx
 | (i, y) :: l, as, h, x, hx => by
  simp only [Cv] at h
  split at h
  case h_2 => cases h
  rename_i a ha
  split at h
  ·cases h
  split at h
  case h_2 => cases h
  rename_i l' hl
  rcases List.mem_cons.1 hx with rfl | hx
  ·simp [ha]
  ·exact F4 hl x hx
theorem Rr (h : Ao C ρ₁ o σ = some r) : ∀ x ∈ o.op.operands, (ρ₁ x).isSome = true := by
 unfold Ao at h
 split at h
 ·rename_i hp
  intro x hx
  have := (List.all_eq_true.1 hp) x (Array.mem_toList_iff.2 hx)
  cases hh : ρ₁ x with
  | none => simp [hh] at this
  | some a => rfl
 ·cases h

theorem Sz (h : op C ρ₁ o σ = some r) (hp : ∀ c a b, o.op ≠ .pick c a b) : ∀ x ∈ o.op.operands, (ρ₁ x).isSome = true := by
 have hdet : Ao C ρ₁ o σ = some r → ∀ x ∈ o.op.operands, (ρ₁ x).isSome = true := Rr
 cases hop : o.op <;> simp only [hop] at hdet hp
 case pick c a b => exact absurd rfl (hp c a b)
 case call c =>
  simp only [op, hop] at h
  intro x hx
  simp only [Op.operands, Call.operands, Array.mem_append] at hx hdet
  split at h
  ·rename_i f hc
   simp only [hc] at hx hdet
   split at h
   case h_2 => cases h
   rename_i g first cap as hf has
   rcases hx with hx | hx
   ·simp at hx; subst hx; simp [hf]
   ·exact Dl has x (by simpa using hx)
  ·rename_i b hc
   simp only [hc] at hx hdet
   have hx' : x ∈ c.args.toList := by simpa using hx
   unfold Bd at h
   have hdet' : Ao C ρ₁ o σ = some r → (ρ₁ x).isSome = true := fun h => hdet h x hx
   generalize c.args.toList = l at hx' h
   split at h
   ·split at h
    case h_2 => cases h
    rename_i h1 h2 _ _
    simp at hx'; rcases hx' with rfl | rfl
    ·simp [h1]
    ·simp [h2]
   ·split at h
    case h_2 => cases h
    rename_i h1 h2 _
    simp at hx'; rcases hx' with rfl | rfl
    ·simp [h1]
    ·simp [h2]
   ·split at h
    case h_2 => cases h
    rename_i h1 _
    simp at hx'; subst hx'; simp [h1]
   ·simp at hx'
   ·split at h
    case h_2 => cases h
    rename_i h1 h2 _
    simp at hx'; rcases hx' with rfl | rfl
    ·simp [h1]
    ·simp [h2]
   ·split at h
    case h_2 => cases h
    rename_i h1
    simp at hx'; subst hx'; simp [h1]
   ·split at h
    case h_2 => cases h
    rename_i h1 h2 _
    simp at hx'; rcases hx' with rfl | rfl
    ·simp [h1]
    ·simp [h2]
   all_goals first | cases h | exact hdet' h
  ·rename_i y name hc
   simp only [hc] at hx
   split at h
   case h_2 => cases h
   rename_i t z as hf has
   rcases hx with hx | hx
   ·simp at hx; subst hx; simp [hf]
   ·exact Dl has x (by simpa using hx)
 case defer c =>
  simp only [op, hop] at h
  intro x hx
  simp only [Op.operands, Call.operands, Array.mem_append] at hx
  split at h
  ·rename_i f hc
   simp only [hc] at hx
   split at h
   case h_2 => cases h
   rename_i g first cap as hf has
   rcases hx with hx | hx
   ·simp at hx; subst hx; simp [hf]
   ·exact Dl has x (by simpa using hx)
  ·cases h
 case build t ps =>
  simp only [op, hop] at h
  split at h
  case h_2 => cases h
  rename_i l hl
  intro x hx
  simp [Op.operands] at hx
  obtain ⟨i, hi⟩ := hx
  exact F4 hl (i, x) (by simpa using hi)
 case buildSlice t n ps =>
  simp only [op, hop] at h
  split at h
  case h_2 => cases h
  rename_i l hl
  intro x hx
  simp [Op.operands] at hx
  obtain ⟨i, hi⟩ := hx
  exact F4 hl (i, x) (by simpa using hi)
 case makeFunc f first cap =>
  simp only [op, hop] at h
  split at h
  case h_2 => cases h
  rename_i l c hl hc
  intro x hx
  simp [Op.operands] at hx
  rcases hx with hx | hx
  ·exact Dl hl x (by simpa using hx)
  ·exact Dl hc x (by simpa using hx)
 case makeMap t r' => cases r' with
  | none => intro x hx; simp [Op.operands] at hx
  | some y => simp only [op, hop] at h; cases h
 case slice t y lo hi mx =>
  cases mx with
  | some m => simp only [op, hop] at h; cases h
  | none =>
   simp only [op, hop] at h
   split at h
   case h_2 => cases h
   rename_i x' l h' hx hl hh
   intro x hmem
   simp [Op.operands] at hmem
   rcases hmem with rfl | hmem | hmem
   ·simp [hx]
   ·subst hmem
    simp only [E4] at hl
    split at hl
    ·rename_i a ha; simp [ha]
    ·cases hl
   ·subst hmem
    simp only [E4] at hh
    split at hh
    ·rename_i a ha; simp [ha]
    ·cases hh
 case select cs b => simp only [op, hop] at h; cases h
 case go c => simp only [op, hop] at h; cases h
 case binOp b t x y z =>
  simp only [op, hop] at h
  intro w hw
  simp [Op.operands] at hw
  split at h
  ·rename_i hx hy
   rcases hw with rfl | rfl
   ·simp [hx]
   ·simp [hy]
  ·rename_i hx hy
   rcases hw with rfl | rfl
   ·simp [hx]
   ·simp [hy]
  ·exact hdet h w (by simp [Op.operands, hw])
 all_goals
  simp only [op, hop] at h
  intro w hw
  simp [Op.operands] at hw
  try (first
   | (cases h; done)
   | exact hdet h w (by simp [Op.operands, hw])
   | (subst hw; generalize hq : ρ₁ _ = q at h ⊢; cases q <;> first | rfl | (simp at h; done))
   | (obtain ⟨a, ha, _⟩ := Ay h; subst hw; simp [ha]; done)
   | (split at h
      case h_2 => cases h
      first
      | (rename_i h1; subst hw; simp [h1]; done)
      | (rename_i h1 h2; rcases hw with rfl | rfl <;> simp [h1, h2]; done)
      | (rename_i h1 h2 h3; rcases hw with rfl | rfl | rfl <;> simp [h1, h2, h3]; done)))

theorem Bm (hρ : ∀ x a, ρ₁ x = some a → ρ₂ x = some a) (h : op C ρ₁ o σ = some r) : op C ρ₂ o σ = some r := by
 by_cases hp : ∀ c a b, o.op ≠ .pick c a b
 ·have hs := Sz h hp
  rw [← Dr (ρ₁ := ρ₁) (ρ₂ := ρ₂) (fun x hx => ?_)]
  ·exact h
  ·obtain ⟨a, ha⟩ := Option.isSome_iff_exists.1 (hs x hx)
   rw [ha, hρ x a ha]
 ·have : ∃ c a b, o.op = .pick c a b := by
   cases hop : o.op with
   | pick c a b => exact ⟨c, a, b, rfl⟩
   | _ => exact absurd (fun c a b h => by rw [hop] at h; cases h) hp
  obtain ⟨c, a, b, hop⟩ := this
  simp only [op, hop] at h ⊢
  split at h
  case h_2 => cases h
  rename_i t hc
  rw [hρ _ _ hc]
  simp only
  obtain ⟨x, h1, rfl⟩ := Ay h
  cases t
  ·simp only [Bool.false_eq_true, if_false] at h1 ⊢
   rw [hρ _ _ h1]; rfl
  ·simp only [if_true] at h1 ⊢
   rw [hρ _ _ h1]; rfl
theorem Iv (hρ : ∀ x a, ρ₁ x = some a → ρ₂ x = some a) {x : A} (h : opQ C ρ₁ o σ = some x) : opQ C ρ₂ o σ = some x := by
 have key : ∀ {y : A}, (match op C ρ₁ o σ with | some (.val x _) => some x | _ => none) = some y → (match op C ρ₂ o σ with | some (.val x _) => some x | _ => none) = some y := by
  intro y h
  split at h
  ·rename_i z s hz
   rw [Bm hρ hz]; exact h
  ·cases h
 unfold opQ at h ⊢
 cases hop : o.op <;> simp only [hop] at h ⊢
 case slice t z lo hi mx =>
  have hsome := fun r => Sz (C := C) (ρ₁ := ρ₁) (o := o) (σ := σ) (r := r)
  split at h
  ·cases h
  ·rename_i hne
   have hz : ∃ a, ρ₁ z = some a := by
    split at h
    ·rename_i x' s hx
     exact Option.isSome_iff_exists.1 (hsome _ hx (fun c a b e => by rw [hop] at e; cases e) z (by simp [hop, Op.operands]))
    ·cases h
   obtain ⟨a, ha⟩ := hz
   have ha2 := hρ _ _ ha
   split
   ·rename_i b p l c hms
    rw [ha2] at hms; cases hms
    exact absurd ha (hne _ _ _ _)
   ·exact key h
 case call c =>
  cases hc : c.callee <;> simp only [hc] at h ⊢
  all_goals try (cases h; done)
  rename_i b
  cases b <;> first | (cases h; done) | exact key h
 case buildSlice t len parts =>
  split at h
  ·cases h
  ·rename_i hm; rw [if_neg hm]; exact key h
 all_goals first | (cases h; done) | exact key h

variable {φ ψ : Fr} {ops : Array Oper} {n : Nat} {callF callG : CallF}
theorem Bf (h : φ.le ψ) : ∀ x a, ev C φ x = some a → ev C ψ x = some a := by
 intro x a hx
 cases x with
 | tmp t => exact h.1 t a hx
 | _ => exact hx
theorem Bk (h : φ.le ψ) {b : Bool} (hw : Ae ops φ o = some b) : Ae ops ψ o = some b := by
 unfold Ae at hw ⊢
 split at hw
 ·exact hw
 ·rename_i j want hg
  split at hw
  ·rename_i y hy
   suffices C8 ops ψ j = some y by rw [this]; exact hw
   unfold C8 at hy ⊢
   split at hy
   ·rename_i d hd
    cases hq : φ.s.get d with
    | none => rw [hq] at hy; cases hy
    | some q => rw [h.1 d q hq]; rw [hq] at hy; exact hy
   ·exact hy
  ·cases hw
theorem Ll (h : φ.le ψ) (t : Nat) (x : A) : (φ.set t x).le (ψ.set t x) := by
 refine ⟨fun u y hu => ?_, h.2⟩
 simp only [Fr.set, Tr.get_set] at hu ⊢
 split at hu
 ·rename_i hh; rw [if_pos hh]; exact hu
 ·rename_i hh; rw [if_neg hh]; exact h.1 u y hu
theorem A1 (h : φ.le ψ) {d : Option Tmp} {x : A} {φ' : Fr} (hp : Bb n φ d x = some φ') : ∃ ψ', Bb n ψ d x = some ψ' ∧ φ'.le ψ' := by
 unfold Bb at hp ⊢
 split at hp
 ·cases hp; exact ⟨ψ, rfl, h⟩
 ·split at hp
  ·rename_i t ht
   cases hp
   rw [if_pos ht]
   exact ⟨_, rfl, Ll h t x⟩
  ·cases hp

theorem Bt (hc : callF.le callG) : ∀ {l : List Oper} {φ ψ : Fr} {σ : St} {x : X} {φ' : Fr} {σ' : St}, φ.le ψ → Aw C callF n ops l φ σ = some (x, φ', σ') → ∃ ψ', Aw C callG n ops l ψ σ = some (x, ψ', σ') ∧ φ'.le ψ'
 | [], φ, ψ, σ, x, φ', σ', h, hr => by
  simp only [Aw] at hr ⊢; cases hr; exact ⟨ψ, rfl, h⟩
 | o :: l, φ, ψ, σ, x, φ', σ', h, hr => by
  simp only [Aw] at hr ⊢
  split at hr
  ·rename_i hw
   rw [Bk h hw]
   simp only
   split at hr
   ·rename_i y s ho
    rw [Bm (Bf h) ho]
    simp only
    split at hr
    case h_2 => cases hr
    rename_i φ2 hp
    obtain ⟨ψ2, h1, h2⟩ := A1 h hp
    rw [h1]
    exact Bt hc h2 hr
   ·rename_i s ho
    rw [Bm (Bf h) ho]
    simp only
    split at hr
    case h_2 => cases hr
    rename_i φ2 hp
    obtain ⟨ψ2, h1, h2⟩ := A1 h hp
    rw [h1]
    exact Bt hc h2 hr
   ·rename_i f args s ho
    rw [Bm (Bf h) ho]
    simp only
    split at hr
    ·rename_i y s2 hf
     rw [hc _ _ _ _ hf]
     simp only
     split at hr
     case h_2 => cases hr
     rename_i φ2 hp
     obtain ⟨ψ2, h1, h2⟩ := A1 h hp
     rw [h1]
     exact Bt hc h2 hr
    ·rename_i y s2 hf
     rw [hc _ _ _ _ hf]
     cases hr
     exact ⟨ψ, rfl, h⟩
    ·cases hr
   ·rename_i f args s ho
    rw [Bm (Bf h) ho]
    simp only
    split at hr
    case h_2 => cases hr
    rename_i φ2 hp
    have h' : Fr.le { φ with ds := (f, args) :: φ.ds } { ψ with ds := (f, args) :: ψ.ds } := ⟨h.1, by simp [h.2]⟩
    obtain ⟨ψ2, h1, h2⟩ := A1 h' hp
    rw [h1]
    exact Bt hc h2 hr
   ·rename_i y s ho
    rw [Bm (Bf h) ho]
    cases hr
    exact ⟨ψ, rfl, h⟩
   ·cases hr
  ·rename_i hw
   rw [Bk h hw]
   simp only
   split at hr
   case h_2 => cases hr
   rename_i φ2 hp
   obtain ⟨ψ2, h1, h2⟩ := A1 h hp
   rw [h1]
   exact Bt hc h2 hr
  ·cases hr

inductive H1 : List (Nat × Fr × Oper × A) → List (Nat × Fr × Oper × A) → Prop
 | nil : H1 [] []
 | cons {j : Nat} {φ ψ : Fr} {o : Oper} {x : A} {l m : List (Nat × Fr × Oper × A)} : φ.le ψ → H1 l m → H1 ((j, φ, o, x) :: l) ((j, ψ, o, x) :: m)
theorem Rs {ρ ρ' : Operand → Option A} (h : ∀ x a, ρ x = some a → ρ' x = some a) (hs : Gg C ρ o = true) : Gg C ρ' o = true := by
 unfold Gg at hs ⊢
 split at hs <;> first | rfl | skip
 ·exact hs
 ·rename_i t a hop
  split at hs
  ·rename_i hx; rw [h _ _ hx]
  ·cases hs
 ·split at hs
  ·split at hs
   ·rename_i hx; rw [h _ _ hx]
   ·rename_i hx; rw [h _ _ hx]
   ·rename_i hx; rw [h _ _ hx]
   ·cases hs
  ·cases hs
 ·cases hs
theorem Mz (h : φ.le ψ) {x : A} (hs : sameA C φ o σ x = true) : sameA C ψ o σ x = true := by
 unfold sameA at hs ⊢
 rw [Bool.or_eq_true] at hs ⊢
 rcases hs with hs | hs
 ·exact .inl (Rs (Bf h) hs)
 ·refine .inr ?_
  split at hs
  ·rename_i y hy
   rw [Iv (Bf h) hy]; exact hs
  ·cases hs
theorem F5 (h : φ.le ψ) {bef : Array Nat} {j : Nat} {x : A} {l : List (Nat × St)} (hs : Da C bef φ o j x l = true) : Da C bef ψ o j x l = true := by
 unfold Da at hs ⊢
 rw [List.all_eq_true] at hs ⊢
 intro y hy
 have := hs y hy
 simp only [Bool.or_eq_true] at this ⊢
 exact this.imp id (Mz h)
theorem Iw {bef : Array Nat} {i : Nat} {σ : St} {l m : List (Nat × Fr × Oper × A)} (h : H1 l m) (hs : Dz C bef i σ l = true) : Dz C bef i σ m = true := by
 unfold Dz at hs ⊢
 induction h with
 | nil => rfl
 | cons hf _ ih =>
  simp only [List.all_cons, Bool.and_eq_true, Bool.or_eq_true] at hs ⊢
  exact ⟨hs.1.imp id (Mz hf), ih hs.2⟩
theorem M0 (hc : callF.le callG) (h : φ.le ψ) {p : A × St} (hs : A5 C callF φ o σ = some p) : A5 C callG ψ o σ = some p := by
 unfold A5 at hs ⊢
 split at hs
 ·rename_i y s ho; rw [Bm (Bf h) ho]; exact hs
 ·rename_i s ho; rw [Bm (Bf h) ho]; exact hs
 ·rename_i f args s ho
  rw [Bm (Bf h) ho]
  simp only
  split at hs
  ·rename_i y s2 hf; rw [hc _ _ _ _ hf]; exact hs
  ·cases hs
 ·cases hs
theorem F7 (hc : callF.le callG) {bef : Array Nat} : ∀ {l : List Oper} {j : Nat} {φ ψ : Fr} {σ : St} {past : List (Nat × St)} {pend pend' : List (Nat × Fr × Oper × A)} {x : X} {φ' : Fr} {σ' : St}, φ.le ψ → H1 pend pend' →
  Gs C callF n ops bef l j φ σ past pend = some (x, φ', σ') → ∃ ψ', Gs C callG n ops bef l j ψ σ past pend' = some (x, ψ', σ') ∧ φ'.le ψ'
 | [], j, φ, ψ, σ, past, pend, pend', x, φ', σ', h, hq, hr => by
  simp only [Gs] at hr ⊢; cases hr; exact ⟨ψ, rfl, h⟩
 | o :: l, j, φ, ψ, σ, past, pend, pend', x, φ', σ', h, hq, hr => by
  simp only [Gs] at hr ⊢
  split at hr
  ·rename_i hw
   rw [Bk h hw]
   simp only
   split at hr
   ·rename_i hqt
    rw [if_pos hqt]
    split at hr
    case h_2 => cases hr
    rename_i y hy
    rw [Iv (Bf h) hy]
    simp only
    split at hr
    case isFalse => cases hr
    rename_i hst
    rw [if_pos (F5 h hst)]
    split at hr
    case h_2 => cases hr
    rename_i φ2 hp
    obtain ⟨ψ2, h1, h2⟩ := A1 h hp
    rw [h1]
    exact F7 hc h2 (.cons h hq) hr
   ·rename_i hqt
    rw [if_neg hqt]
    split at hr
    case h_2 => cases hr
    rename_i y s hy
    rw [M0 hc h hy]
    simp only
    split at hr
    case isFalse => cases hr
    rename_i hst
    rw [if_pos (Iw hq hst)]
    split at hr
    case h_2 => cases hr
    rename_i φ2 hp
    obtain ⟨ψ2, h1, h2⟩ := A1 h hp
    rw [h1]
    exact F7 hc h2 hq hr
  ·rename_i hw
   rw [Bk h hw]
   simp only
   split at hr
   case h_2 => cases hr
   rename_i φ2 hp
   obtain ⟨ψ2, h1, h2⟩ := A1 h hp
   rw [h1]
   exact F7 hc h2 hq hr
  ·cases hr

theorem Vi (hc : callF.le callG) (h : φ.le ψ) {p : A × St} (hs : Fu C callF φ o σ = some p) : A5 C callG ψ o σ = none ∧ Fu C callG ψ o σ = some p := by
 unfold Fu at hs
 split at hs
 ·rename_i f args s ho
  split at hs
  ·rename_i v s2 hf
   unfold A5 Fu
   rw [Bm (Bf h) ho]
   simp only [hc _ _ _ _ hf]
   exact ⟨trivial, hs⟩
  ·cases hs
 ·cases hs
theorem P2 : ∀ {l : List Oper} {φ ψ : Fr}, φ.le ψ → (Hn l φ).le (Hn l ψ)
 | [], _, _, h => h
 | o :: l, φ, ψ, h => P2 (l := l) (by
   unfold J2
   split
   ·exact Ll h _ _
   ·exact h)
theorem Ej {bef : Array Nat} {p : Nat} : ∀ {l : List Oper} {j : Nat} {φ ψ : Fr} {σ : St} {past : List (Nat × St)}, φ.le ψ → Gt C n ops bef p l j φ σ past = true → Gt C n ops bef p l j ψ σ past = true
 | [], j, φ, ψ, σ, past, h, hr => by simp only [Gt]
 | o :: l, j, φ, ψ, σ, past, h, hr => by
  simp only [Gt] at hr ⊢
  split at hr
  ·rename_i hb
   rw [if_pos hb]
   split at hr
   case h_2 => cases hr
   rename_i φ2 hp
   obtain ⟨ψ2, h1, h2⟩ := A1 h hp
   rw [h1]
   exact Ej h2 hr
  ·rename_i hb
   rw [if_neg hb]
   split at hr
   ·rename_i hw
    rw [Bk h hw]
    simp only
    split at hr
    case isFalse =>
     rename_i hqt
     rw [if_neg hqt]
     split at hr
     case isFalse => cases hr
     rename_i haz
     rw [if_pos haz]
     split at hr
     case h_2 => cases hr
     rename_i φ2 hp
     obtain ⟨ψ2, h1, h2⟩ := A1 h hp
     rw [h1]
     exact Ej h2 hr
    rename_i hqt
    rw [if_pos hqt]
    split at hr
    case h_2 => cases hr
    rename_i y hy
    rw [Iv (Bf h) hy]
    simp only
    split at hr
    case isFalse => cases hr
    rename_i hst
    rw [if_pos (F5 h hst)]
    split at hr
    case h_2 => cases hr
    rename_i φ2 hp
    obtain ⟨ψ2, h1, h2⟩ := A1 h hp
    rw [h1]
    exact Ej h2 hr
   ·rename_i hw
    rw [Bk h hw]
    simp only
    split at hr
    case h_2 => cases hr
    rename_i φ2 hp
    obtain ⟨ψ2, h1, h2⟩ := A1 h hp
    rw [h1]
    exact Ej h2 hr
   ·cases hr
theorem Cn (hc : callF.le callG) {bef : Array Nat} : ∀ {l : List Oper} {j : Nat} {φ ψ : Fr} {σ : St} {past : List (Nat × St)} {pend pend' : List (Nat × Fr × Oper × A)} {x : X} {φ' : Fr} {σ' : St}, φ.le ψ → H1 pend pend' →
  B9 C callF n ops bef l j φ σ past pend = some (x, φ', σ') → ∃ ψ', B9 C callG n ops bef l j ψ σ past pend' = some (x, ψ', σ') ∧ φ'.le ψ'
 | [], j, φ, ψ, σ, past, pend, pend', x, φ', σ', h, hq, hr => by
  simp only [B9] at hr ⊢; cases hr; exact ⟨ψ, rfl, h⟩
 | o :: l, j, φ, ψ, σ, past, pend, pend', x, φ', σ', h, hq, hr => by
  simp only [B9] at hr ⊢
  split at hr
  ·rename_i hw
   rw [Bk h hw]
   simp only
   split at hr
   ·rename_i hqt
    rw [if_pos hqt]
    split at hr
    case h_2 => cases hr
    rename_i y hy
    rw [Iv (Bf h) hy]
    simp only
    split at hr
    case isFalse => cases hr
    rename_i hst
    rw [if_pos (F5 h hst)]
    split at hr
    case h_2 => cases hr
    rename_i φ2 hp
    obtain ⟨ψ2, h1, h2⟩ := A1 h hp
    rw [h1]
    exact Cn hc h2 (.cons h hq) hr
   ·rename_i hqt
    rw [if_neg hqt]
    split at hr
    ·rename_i y s hy
     rw [M0 hc h hy]
     simp only
     split at hr
     case isFalse => cases hr
     rename_i hst
     rw [if_pos (Iw hq hst)]
     split at hr
     case h_2 => cases hr
     rename_i φ2 hp
     obtain ⟨ψ2, h1, h2⟩ := A1 h hp
     rw [h1]
     exact Cn hc h2 hq hr
    ·split at hr
     case h_2 => cases hr
     rename_i v s hy
     obtain ⟨e1, e2⟩ := Vi hc h hy
     rw [e1, e2]
     simp only
     split at hr
     case h_2 => cases hr
     rename_i φ2 hp
     obtain ⟨ψ2, h1, h2⟩ := A1 h hp
     rw [h1]
     simp only
     split at hr
     case isFalse => cases hr
     rename_i hdv
     rw [if_pos (Ej h2 hdv)]
     cases hr
     exact ⟨_, rfl, P2 h⟩
  ·rename_i hw
   rw [Bk h hw]
   simp only
   split at hr
   case h_2 => cases hr
   rename_i φ2 hp
   obtain ⟨ψ2, h1, h2⟩ := A1 h hp
   rw [h1]
   exact Cn hc h2 hq hr
  ·cases hr

theorem Mm (h : φ.le ψ) {p : Pc} {x : X} {φ' : Fr} {σ' : St} (hr : Eh C n p φ σ = some (x, φ', σ')) : ∃ ψ', Eh C n p ψ σ = some (x, ψ', σ') ∧ φ'.le ψ' := by
 unfold Eh at hr ⊢
 split at hr
 case h_2 => cases hr
 rename_i s z ti v x' h1 h2 h3 h4 h5
 rw [h.1 _ _ h1, h.1 _ _ h2, h.1 _ _ h3, h.1 _ _ h4, h.1 _ _ h5]
 simp only
 split at hr
 case h_2 => cases hr
 rename_i a y σ3 hv
 cases hr
 exact ⟨_, rfl, Ll (Ll (Ll h _ _) _ _) _ _⟩
theorem Ix (hc : callF.le callG) (h : φ.le ψ) {x : X} {φ' : Fr} {σ' : St} (hr : Db C callF n ops φ σ = some (x, φ', σ')) : ∃ ψ', Db C callG n ops ψ σ = some (x, ψ', σ') ∧ φ'.le ψ' := by
 unfold Db at hr ⊢
 split at hr
 ·rename_i hd; rw [if_pos hd]; exact Cn hc h .nil hr
 ·rename_i hd
  rw [if_neg hd]
  unfold Ny at hr ⊢
  split at hr
  case h_2 =>
   unfold Nx at hr ⊢
   split at hr
   case h_2 =>
    simp only [Km] at hr ⊢
    split at hr
    case isFalse => cases hr
    rename_i hd
    rw [if_pos hd]
    split at hr
    case h_2 => cases hr
    rename_i φ1 σ1 hrun
    cases hr
    obtain ⟨ψ1, g1, g2⟩ := Cn hc h .nil hrun
    rw [g1]
    exact ⟨ψ1, rfl, g2⟩
   exact Cn hc h .nil hr
  rename_i p hp
  split at hr
  case isFalse => cases hr
  rename_i hst
  rw [if_pos hst]
  split at hr
  case h_2 => cases hr
  rename_i φ1 σ1 h1
  obtain ⟨ψ1, g1, g2⟩ := F7 hc h .nil h1
  rw [g1]
  exact Mm g2 hr
theorem A8 (hc : callF.le callG) : ∀ {k m : Nat} {c : Code} {φ ψ : Fr} {σ : St} {x : X} {φ' : Fr} {σ' : St}, k ≤ m → φ.le ψ → A3 C callF n k c φ σ = some (x, φ', σ') → ∃ ψ', A3 C callG n m c ψ σ = some (x, ψ', σ') ∧ φ'.le ψ'
 | 0, m, c, φ, ψ, σ, x, φ', σ', hk, h, hr => by simp [A3] at hr
 | k + 1, 0, c, φ, ψ, σ, x, φ', σ', hk, h, hr => by omega
 | k + 1, m + 1, c, φ, ψ, σ, x, φ', σ', hk, h, hr => by
  have ih := @A8 hc k m
  have hk' : k ≤ m := by omega
  cases c with
  | skip => simp only [A3] at hr ⊢; cases hr; exact ⟨ψ, rfl, h⟩
  | exit id => simp only [A3] at hr ⊢; cases hr; exact ⟨ψ, rfl, h⟩
  | ret => simp only [A3] at hr ⊢; cases hr; exact ⟨ψ, rfl, h⟩
  | region id ops draw =>
   cases draw with
   | false => simp only [A3] at hr ⊢; exact Bt hc h hr
   | true =>
    simp only [A3] at hr ⊢
    exact Ix hc h hr
  | seq a b =>
   simp only [A3] at hr ⊢
   split at hr
   ·rename_i φ1 σ1 h1
    obtain ⟨ψ1, g1, g2⟩ := ih hk' h h1
    rw [g1]
    exact ih hk' g2 hr
   ·rename_i hne
    obtain ⟨ψ1, g1, g2⟩ := ih hk' h hr
    rw [g1]
    cases x with
    | normal => exact absurd hr (hne _ _)
    | _ => exact ⟨ψ1, rfl, g2⟩
  | cond y a b =>
   simp only [A3] at hr ⊢
   split at hr
   ·rename_i t ht
    rw [Bf h _ _ ht]
    exact ih hk' h hr
   ·cases hr
  | block id a =>
   simp only [A3] at hr ⊢
   split at hr
   ·rename_i j φ1 σ1 h1
    obtain ⟨ψ1, g1, g2⟩ := ih hk' h h1
    rw [g1]
    simp only
    split at hr
    ·rename_i hj; rw [if_pos hj]; cases hr; exact ⟨ψ1, rfl, g2⟩
    ·rename_i hj; rw [if_neg hj]; cases hr; exact ⟨ψ1, rfl, g2⟩
   ·rename_i hne
    obtain ⟨ψ1, g1, g2⟩ := ih hk' h hr
    rw [g1]
    cases x with
    | exit j => exact absurd hr (hne _ _ _)
    | _ => exact ⟨ψ1, rfl, g2⟩
  | loop a =>
   simp only [A3] at hr ⊢
   split at hr
   ·rename_i φ1 σ1 h1
    obtain ⟨ψ1, g1, g2⟩ := ih hk' h h1
    rw [g1]
    exact ih hk' g2 hr
   ·rename_i hne
    obtain ⟨ψ1, g1, g2⟩ := ih hk' h hr
    rw [g1]
    cases x with
    | normal => exact absurd hr (hne _ _)
    | _ => exact ⟨ψ1, rfl, g2⟩
  | _ => simp only [A3] at hr; cases hr
end
end Go.DM
namespace Go.DM
open Go Go.RowKit

section
variable {C : Cfg} {o : Oper} {φ ψ : Fr} {ops : Array Oper} {n : Nat} {callF callG : CallF}

theorem Cp (hc : callF.le callG) : ∀ {l : List Oper} {φ ψ : Fr} {σ : St} {p : Option A} {x : X} {φ' : Fr} {σ' : St} {p' : Option A}, φ.le ψ → Ce C callF n ops l φ σ p = some (x, φ', σ', p') → ∃ ψ', Ce C callG n ops l ψ σ p = some (x, ψ', σ', p') ∧ φ'.le ψ'
 | [], φ, ψ, σ, p, x, φ', σ', p', h, hr => by
  simp only [Ce] at hr ⊢; cases hr; exact ⟨ψ, rfl, h⟩
 | o :: l, φ, ψ, σ, p, x, φ', σ', p', h, hr => by
  simp only [Ce] at hr ⊢
  split at hr
  ·rename_i hw
   rw [Bk h hw]
   simp only
   split at hr
   ·rename_i y s ho
    rw [Bm (Bf h) ho]
    simp only
    split at hr
    case h_2 => cases hr
    rename_i φ2 hp
    obtain ⟨ψ2, h1, h2⟩ := A1 h hp
    rw [h1]
    exact Cp hc h2 hr
   ·rename_i s ho
    rw [Bm (Bf h) ho]
    simp only
    split at hr
    case h_2 => cases hr
    rename_i φ2 hp
    obtain ⟨ψ2, h1, h2⟩ := A1 h hp
    rw [h1]
    exact Cp hc h2 hr
   ·rename_i f args s ho
    rw [Bm (Bf h) ho]
    simp only
    split at hr
    case h_2 => cases hr
    rename_i y s2 hf
    rw [hc _ _ _ _ hf]
    simp only
    split at hr
    case h_2 => cases hr
    rename_i φ2 hp
    obtain ⟨ψ2, h1, h2⟩ := A1 h hp
    rw [h1]
    exact Cp hc h2 hr
   ·rename_i s ho
    rw [Bm (Bf h) ho]
    simp only
    split at hr
    case h_2 => cases hr
    rename_i φ2 hp
    obtain ⟨ψ2, h1, h2⟩ := A1 h hp
    rw [h1]
    exact Cp hc h2 hr
   ·cases hr
  ·rename_i hw
   rw [Bk h hw]
   simp only
   split at hr
   case h_2 => cases hr
   rename_i φ2 hp
   obtain ⟨ψ2, h1, h2⟩ := A1 h hp
   rw [h1]
   exact Cp hc h2 hr
  ·cases hr

theorem Vj {k : Nat} {c : Code} {σ : St} {p : Option A} (h1 : ∀ i ops, c ≠ .region i ops false) (h2 : ∀ a b, c ≠ .seq a b) (h3 : ∀ x a b, c ≠ .cond x a b) :
  Dp C callF n (k + 1) c φ σ p = match A3 C callF n (k + 1) c φ σ with
   | some (.normal, φ', σ') => some (.normal, φ', σ', p)
   | some (.ret, φ', σ') => some (.ret, φ', σ', p)
   | _ => none := by
 cases c with
 | region i ops d => cases d with
  | false => exact absurd rfl (h1 i ops)
  | true => rfl
 | seq a b => exact absurd rfl (h2 a b)
 | cond x a b => exact absurd rfl (h3 x a b)
 | _ => rfl
theorem H2 (hc : callF.le callG) : ∀ {k m : Nat} {c : Code} {φ ψ : Fr} {σ : St} {p : Option A} {x : X} {φ' : Fr} {σ' : St} {p' : Option A}, k ≤ m → φ.le ψ → Dp C callF n k c φ σ p = some (x, φ', σ', p') → ∃ ψ', Dp C callG n m c ψ σ p = some (x, ψ', σ', p') ∧ φ'.le ψ'
 | 0, m, c, φ, ψ, σ, p, x, φ', σ', p', hk, h, hr => by simp [Dp] at hr
 | k + 1, 0, c, φ, ψ, σ, p, x, φ', σ', p', hk, h, hr => by omega
 | k + 1, m + 1, c, φ, ψ, σ, p, x, φ', σ', p', hk, h, hr => by
  have ih := @H2 hc k m
  have hk' : k ≤ m := by omega
  have other : (∀ i ops, c ≠ .region i ops false) → (∀ a b, c ≠ .seq a b) → (∀ x a b, c ≠ .cond x a b) → ∃ ψ', Dp C callG n (m + 1) c ψ σ p = some (x, ψ', σ', p') ∧ φ'.le ψ' := by
   intro h1 h2 h3
   rw [Vj h1 h2 h3] at hr ⊢
   split at hr
   ·rename_i φ1 σ1 he
    obtain ⟨ψ1, g1, g2⟩ := A8 hc hk h he
    rw [g1]; cases hr; exact ⟨ψ1, rfl, g2⟩
   ·rename_i φ1 σ1 he
    obtain ⟨ψ1, g1, g2⟩ := A8 hc hk h he
    rw [g1]; cases hr; exact ⟨ψ1, rfl, g2⟩
   ·cases hr
  cases c with
  | region i ops d =>
   cases d with
   | false => simp only [Dp] at hr ⊢; exact Cp hc h hr
   | true => exact other (by simp) (by simp) (by simp)
  | seq a b =>
   simp only [Dp] at hr ⊢
   split at hr
   ·rename_i φ1 σ1 p1 h1
    obtain ⟨ψ1, g1, g2⟩ := ih hk' h h1
    rw [g1]
    exact ih hk' g2 hr
   ·rename_i hne
    obtain ⟨ψ1, g1, g2⟩ := ih hk' h hr
    rw [g1]
    cases x with
    | normal => exact absurd hr (hne _ _ _)
    | _ => exact ⟨ψ1, rfl, g2⟩
  | cond y a b =>
   simp only [Dp] at hr ⊢
   split at hr
   ·rename_i t ht
    rw [Bf h _ _ ht]
    exact ih hk' h hr
   ·cases hr
  | _ => exact other (by simp) (by simp) (by simp)

theorem Eb (h : φ.le ψ) {σ : St} : ∀ {l : List ResultVar} {xs : List A}, B0 C φ σ l = some xs → B0 C ψ σ l = some xs
 | [], xs, hr => by simp only [B0] at hr ⊢; exact hr
 | .tmp t :: l, xs, hr => by
  simp only [B0] at hr ⊢
  split at hr
  ·rename_i x ys h1 h2
   rw [h.1 t x h1, Eb h h2]; exact hr
  ·cases hr
 | .cell a t :: l, xs, hr => by
  simp only [B0] at hr ⊢
  split at hr
  ·rename_i p h1
   rw [h.1 a p h1]
   simp only
   split at hr
   ·rename_i x ys h2 h3
    rw [h2, Eb h h3]; exact hr
   ·cases hr
  ·cases hr

theorem Rt (hc : callF.le callG) {k m : Nat} (hk : k ≤ m) {f : FuncId} {args : List A} {σ : St} {p : Option A} {r : St × Option A} (hr : Mq C callF k f args σ p = some r) : Mq C callG m f args σ p = some r := by
 unfold Mq at hr ⊢
 split at hr
 case h_2 => cases hr
 rename_i fn hf
 split at hr
 case h_2 => cases hr
 rename_i c hb
 split at hr
 case isFalse => cases hr
 rename_i hl
 have fin : ∀ (φ1 ψ1 : Fr) (σ1 : St) (p1 : Option A), φ1.le ψ1 → (match φ1.ds, B0 C φ1 σ1 fn.results.toList with
     | [], some _ => some (σ1, p1)
     | _, _ => none) = some r → (match ψ1.ds, B0 C ψ1 σ1 fn.results.toList with
     | [], some _ => some (σ1, p1)
     | _, _ => none) = some r := by
  intro φ1 ψ1 σ1 p1 hle h
  split at h
  ·rename_i xs hds hres
   rw [hle.2, hds, Eb hle hres]; exact h
  ·cases h
 simp only [if_pos hl]
 split at hr
 ·rename_i φ1 σ1 p1 he
  obtain ⟨ψ1, g1, g2⟩ := H2 hc hk (Fr.le.refl _) he
  rw [g1]; exact fin _ _ _ _ g2 hr
 ·rename_i φ1 σ1 p1 he
  obtain ⟨ψ1, g1, g2⟩ := H2 hc hk (Fr.le.refl _) he
  rw [g1]; exact fin _ _ _ _ g2 hr
 ·cases hr
theorem C1 (hc : callF.le callG) {k m : Nat} (hk : k ≤ m) : ∀ {ds : List (FuncId × List A)} {σ : St} {p : Option A} {r : St × Option A}, Bx C callF k ds σ p = some r → Bx C callG m ds σ p = some r
 | [], σ, p, r, hr => by simp only [Bx] at hr ⊢; exact hr
 | (f, args) :: ds, σ, p, r, hr => by
  simp only [Bx] at hr ⊢
  split at hr
  ·rename_i σ1 p1 h1
   rw [Rt hc hk h1]
   exact C1 hc hk hr
  ·cases hr

theorem Js : ∀ {k m : Nat} {f : FuncId} {args : List A} {σ : St} {r : Out × St}, k ≤ m → call C k f args σ = some r → call C m f args σ = some r
 | 0, m, f, args, σ, r, hk, hr => by simp [call] at hr
 | k + 1, 0, f, args, σ, r, hk, hr => by omega
 | k + 1, m + 1, f, args, σ, r, hk, hr => by
  have hc : CallF.le (call C k) (call C m) := fun a b c r h => Js (by omega) h
  simp only [call] at hr ⊢
  split at hr
  ·rename_i g hg
   exact hr
  split at hr
  case h_2 => cases hr
  rename_i fn hf
  split at hr
  case h_2 => cases hr
  rename_i c hb
  split at hr
  case isFalse => cases hr
  rename_i hl
  simp only [if_pos hl]
  have fin1 : ∀ (φ1 ψ1 : Fr) (σ1 : St), φ1.le ψ1 → (match Bx C (call C k) (k + 1) φ1.ds σ1 none with
       | some (σ'', none) => match B0 C φ1 σ'' fn.results.toList with
        | some l => some (Out.ret (An l), σ'')
        | none => none
       | _ => none) = some r → (match Bx C (call C m) (m + 1) ψ1.ds σ1 none with
       | some (σ'', none) => match B0 C ψ1 σ'' fn.results.toList with
        | some l => some (Out.ret (An l), σ'')
        | none => none
       | _ => none) = some r := by
   intro φ1 ψ1 σ1 hle h
   rw [hle.2]
   split at h
   ·rename_i σ2 hlv
    rw [C1 hc hk hlv]
    simp only
    split at h
    ·rename_i l hres; rw [Eb hle hres]; exact h
    ·cases h
   ·cases h
  split at hr
  ·rename_i φ1 σ1 he
   obtain ⟨ψ1, g1, g2⟩ := A8 hc hk (Fr.le.refl _) he
   rw [g1]; exact fin1 _ _ _ g2 hr
  ·rename_i φ1 σ1 he
   obtain ⟨ψ1, g1, g2⟩ := A8 hc hk (Fr.le.refl _) he
   rw [g1]; exact fin1 _ _ _ g2 hr
  ·rename_i x φ1 σ1 he
   obtain ⟨ψ1, g1, g2⟩ := A8 hc hk (Fr.le.refl _) he
   rw [g1]
   simp only
   rw [g2.2]
   split at hr
   ·rename_i σ2 hlv
    rw [C1 hc hk hlv]
    simp only
    split at hr
    ·rename_i l hres; rw [Eb g2 hres]; exact hr
    ·cases hr
   ·rename_i σ2 y hlv
    rw [C1 hc hk hlv]
    exact hr
   ·cases hr
  ·cases hr
end

def Cl (C : Cfg) (f : FuncId) (args : List A) (σ : St) (out : Out) (σ' : St) : Prop := ∃ N, ∀ k, N ≤ k → call C k f args σ = some (out, σ')
theorem Cl.of {C : Cfg} {f : FuncId} {args : List A} {σ σ' : St} {out : Out} {k : Nat} (h : call C k f args σ = some (out, σ')) : Cl C f args σ out σ' := ⟨k, fun _m hm => Js hm h⟩
end Go.DM
namespace Go.DM
open Go Go.RowKit

def Ex (C : Cfg) (n : Nat) (c : Code) (φ : Fr) (σ : St) (Q : X → Fr → St → Prop) : Prop :=
 ∃ N x φ0 φ' σ', Q x φ0 σ' ∧ φ0.le φ' ∧ A3 C (call C N) n N c φ σ = some (x, φ', σ')
def ExO (C : Cfg) (n : Nat) (ops : Array Oper) (l : List Oper) (φ : Fr) (σ : St) (Q : X → Fr → St → Prop) : Prop :=
 ∃ N x φ0 φ' σ', Q x φ0 σ' ∧ φ0.le φ' ∧ Aw C (call C N) n ops l φ σ = some (x, φ', σ')

section
variable {C : Cfg} {n : Nat} {ops : Array Oper} {Q Q' : X → Fr → St → Prop} {φ ψ : Fr} {σ : St} {c a b : Code}

theorem Df {k m : Nat} (h : k ≤ m) : CallF.le (call C k) (call C m) := fun _ _ _ _ hr => Js h hr
theorem Ex.up (h : φ.le ψ) (he : Ex C n c φ σ Q) : Ex C n c ψ σ Q := by
 obtain ⟨N, x, φ0, φ', σ', h1, h2, h3⟩ := he
 obtain ⟨ψ', g1, g2⟩ := A8 (Df (Nat.le_refl N)) (Nat.le_refl N) h h3
 exact ⟨N, x, φ0, ψ', σ', h1, h2.trans g2, g1⟩
theorem Ex.imp (hq : ∀ x φ σ, Q x φ σ → Q' x φ σ) (he : Ex C n c φ σ Q) : Ex C n c φ σ Q' := by
 obtain ⟨N, x, φ0, φ', σ', h1, h2⟩ := he
 exact ⟨N, x, φ0, φ', σ', hq _ _ _ h1, h2⟩
theorem Ex.skip (h : Q .normal φ σ) : Ex C n .skip φ σ Q := ⟨1, _, φ, φ, σ, h, Fr.le.refl _, rfl⟩
theorem Ex.exit {id : Nat} (h : Q (.exit id) φ σ) : Ex C n (.exit id) φ σ Q := ⟨1, _, φ, φ, σ, h, Fr.le.refl _, rfl⟩
theorem Ex.ret (h : Q .ret φ σ) : Ex C n .ret φ σ Q := ⟨1, _, φ, φ, σ, h, Fr.le.refl _, rfl⟩
theorem Ex.region {id : Nat} {ops : Array Oper} (h : ExO C n ops ops.toList φ σ Q) : Ex C n (.region id ops false) φ σ Q := by
 obtain ⟨N, x, φ0, φ', σ', h1, h2, h3⟩ := h
 obtain ⟨ψ', g1, g2⟩ := Bt (Df (Nat.le_succ N)) (Fr.le.refl φ) h3
 exact ⟨N + 1, x, φ0, ψ', σ', h1, h2.trans g2, g1⟩
def Mn (K : Fr → St → Prop) (Q : X → Fr → St → Prop) : X → Fr → St → Prop
 | .normal, φ, σ => K φ σ
 | x, φ, σ => Q x φ σ
theorem Ex.seq (h : Ex C n a φ σ (Mn (fun φ' σ' => Ex C n b φ' σ' Q) Q)) : Ex C n (.seq a b) φ σ Q := by
 obtain ⟨N, x, φ0, φ', σ', h1, h2, h3⟩ := h
 cases x with
 | normal =>
  obtain ⟨M, y, φ1, φ2, σ2, g1, g2, g3⟩ := Ex.up h2 h1
  obtain ⟨ψ1, e1, e2⟩ := A8 (m := N + M) (Df (m := N + M + 1) (by omega)) (by omega) (Fr.le.refl φ) h3
  obtain ⟨ψ2, e3, e4⟩ := A8 (m := N + M) (Df (m := N + M + 1) (by omega)) (by omega) e2 g3
  refine ⟨N + M + 1, y, φ1, ψ2, σ2, g1, g2.trans e4, ?_⟩
  simp only [A3, e1, e3]
 | _ =>
  obtain ⟨ψ1, e1, e2⟩ := A8 (m := N) (Df (m := N + 1) (by omega)) (by omega) (Fr.le.refl φ) h3
  refine ⟨N + 1, _, φ0, ψ1, σ', h1, h2.trans e2, ?_⟩
  simp only [A3, e1]
theorem Ex.cond {x : Operand} {t : Bool} (hx : ev C φ x = some (.v (.bool t))) (h : Ex C n (if t then a else b) φ σ Q) : Ex C n (.cond x a b) φ σ Q := by
 obtain ⟨N, y, φ0, φ', σ', h1, h2, h3⟩ := h
 obtain ⟨ψ1, e1, e2⟩ := A8 (m := N) (Df (m := N + 1) (by omega)) (by omega) (Fr.le.refl φ) h3
 refine ⟨N + 1, y, φ0, ψ1, σ', h1, h2.trans e2, ?_⟩
 simp only [A3, hx]
 exact e1
theorem Ek {x : Operand} {t : Bool} (hx : ev C φ x = some (.v (.bool t))) (ht : t = true → Ex C n a φ σ Q) (hf : t = false → Ex C n b φ σ Q) : Ex C n (.cond x a b) φ σ Q := by
 refine Ex.cond hx ?_
 cases t
 ·exact hf rfl
 ·exact ht rfl
def Aci (id : Nat) (Q : X → Fr → St → Prop) : X → Fr → St → Prop
 | .exit j, φ, σ => if j = id then Q .normal φ σ else Q (.exit j) φ σ
 | x, φ, σ => Q x φ σ
theorem Ex.block {id : Nat} (h : Ex C n a φ σ (Aci id Q)) : Ex C n (.block id a) φ σ Q := by
 obtain ⟨N, x, φ0, φ', σ', h1, h2, h3⟩ := h
 obtain ⟨ψ1, e1, e2⟩ := A8 (m := N) (Df (m := N + 1) (by omega)) (by omega) (Fr.le.refl φ) h3
 cases x with
 | exit j =>
  simp only [Aci] at h1
  by_cases hj : j = id
  ·rw [if_pos hj] at h1
   exact ⟨N + 1, _, φ0, ψ1, σ', h1, h2.trans e2, by simp only [A3, e1, if_pos hj]⟩
  ·rw [if_neg hj] at h1
   exact ⟨N + 1, _, φ0, ψ1, σ', h1, h2.trans e2, by simp only [A3, e1, if_neg hj]⟩
 | _ => exact ⟨N + 1, _, φ0, ψ1, σ', h1, h2.trans e2, by simp only [A3, e1]⟩
theorem Lm (h : Ex C n a φ σ (Mn (fun φ' σ' => Ex C n (.loop a) φ' σ' Q) Q)) : Ex C n (.loop a) φ σ Q := by
 obtain ⟨N, x, φ0, φ', σ', h1, h2, h3⟩ := h
 cases x with
 | normal =>
  obtain ⟨M, y, φ1, φ2, σ2, g1, g2, g3⟩ := Ex.up h2 h1
  obtain ⟨ψ1, e1, e2⟩ := A8 (m := N + M) (Df (m := N + M + 1) (by omega)) (by omega) (Fr.le.refl φ) h3
  obtain ⟨ψ2, e3, e4⟩ := A8 (m := N + M) (Df (m := N + M + 1) (by omega)) (by omega) e2 g3
  refine ⟨N + M + 1, y, φ1, ψ2, σ2, g1, g2.trans e4, ?_⟩
  simp only [A3, e1, e3]
 | _ =>
  obtain ⟨ψ1, e1, e2⟩ := A8 (m := N) (Df (m := N + 1) (by omega)) (by omega) (Fr.le.refl φ) h3
  refine ⟨N + 1, _, φ0, ψ1, σ', h1, h2.trans e2, ?_⟩
  simp only [A3, e1]
theorem Ex.loop {ι : Type} (F : ι → Fr) (S : ι → St) (μ : ι → Nat) (step : ∀ i, Ex C n a (F i) (S i) (Mn (fun φ' σ' => ∃ j, μ j < μ i ∧ (F j).le φ' ∧ σ' = S j) Q)) : ∀ i, Ex C n (.loop a) (F i) (S i) Q := by
 have key : ∀ m i, μ i < m → Ex C n (.loop a) (F i) (S i) Q := by
  intro m
  induction m with
  | zero => intro i hi; omega
  | succ m ih =>
   intro i hi
   refine Lm ((step i).imp (fun x φ' σ' h => ?_))
   cases x with
   | normal =>
    obtain ⟨j, h1, h2, rfl⟩ := h
    exact Ex.up h2 (ih j (by omega))
   | _ => exact h
 intro i
 exact key (μ i + 1) i (by omega)

theorem ExO.nil (h : Q .normal φ σ) : ExO C n ops [] φ σ Q := ⟨0, _, φ, φ, σ, h, Fr.le.refl _, rfl⟩
theorem ExO.val {o : Oper} {l : List Oper} {x : A} {σ' : St} {φ' : Fr} (hw : Ae ops φ o = some true) (ho : op C (ev C φ) o σ = some (.val x σ')) (hp : Bb n φ o.dst x = some φ') (h : ExO C n ops l φ' σ' Q) : ExO C n ops (o :: l) φ σ Q := by
 obtain ⟨N, y, φ0, φ2, σ2, h1, h2, h3⟩ := h
 exact ⟨N, y, φ0, φ2, σ2, h1, h2, by simp only [Aw, hw, ho, hp]; exact h3⟩
theorem ExO.skip {o : Oper} {l : List Oper} {σ' : St} {φ' : Fr} (hw : Ae ops φ o = some true) (ho : op C (ev C φ) o σ = some (.skip σ')) (hp : Bb n φ o.dst und = some φ') (h : ExO C n ops l φ' σ' Q) : ExO C n ops (o :: l) φ σ Q := by
 obtain ⟨N, y, φ0, φ2, σ2, h1, h2, h3⟩ := h
 exact ⟨N, y, φ0, φ2, σ2, h1, h2, by simp only [Aw, hw, ho, hp]; exact h3⟩
theorem ExO.off {o : Oper} {l : List Oper} {φ' : Fr} (hw : Ae ops φ o = some false) (hp : Bb n φ o.dst und = some φ') (h : ExO C n ops l φ' σ Q) : ExO C n ops (o :: l) φ σ Q := by
 obtain ⟨N, y, φ0, φ2, σ2, h1, h2, h3⟩ := h
 exact ⟨N, y, φ0, φ2, σ2, h1, h2, by simp only [Aw, hw, hp]; exact h3⟩
theorem ExO.call {o : Oper} {l : List Oper} {f : FuncId} {args : List A} {x : A} {σ' σ'' : St} {φ' : Fr} (hw : Ae ops φ o = some true) (ho : op C (ev C φ) o σ = some (.call f args σ')) (hcl : Cl C f args σ' (.ret x) σ'')
  (hp : Bb n φ o.dst x = some φ') (h : ExO C n ops l φ' σ'' Q) : ExO C n ops (o :: l) φ σ Q := by
 obtain ⟨N, y, φ0, φ2, σ2, h1, h2, h3⟩ := h
 obtain ⟨M, hM⟩ := hcl
 obtain ⟨ψ2, g1, g2⟩ := Bt (Df (m := N + M) (by omega)) (Fr.le.refl φ') h3
 exact ⟨N + M, y, φ0, ψ2, σ2, h1, h2.trans g2, by simp only [Aw, hw, ho, hM (N + M) (by omega), hp]; exact g1⟩

def ExD (C : Cfg) (n : Nat) (ops : Array Oper) (l : List Oper) (j : Nat) (φ : Fr) (σ : St) (past : List (Nat × St)) (pend : List (Nat × Fr × Oper × A)) (Q : X → Fr → St → Prop) : Prop :=
 ∃ N x φ0 φ' σ', Q x φ0 σ' ∧ φ0.le φ' ∧ B9 C (call C N) n ops (Region.before ops) l j φ σ past pend = some (x, φ', σ')
theorem Ex.drawn {id : Nat} {ops : Array Oper} (hd : C9 C ops (Region.before ops) = true) (h : ExD C n ops ops.toList 0 φ σ [] [] Q) : Ex C n (.region id ops true) φ σ Q := by
 obtain ⟨N, x, φ0, φ', σ', h1, h2, h3⟩ := h
 obtain ⟨ψ', g1, g2⟩ := Cn (Df (Nat.le_succ N)) (Fr.le.refl φ) .nil h3
 exact ⟨N + 1, x, φ0, ψ', σ', h1, h2.trans g2, by simp only [A3, Db, if_pos hd]; exact g1⟩
section
variable {l : List Oper} {j : Nat} {past : List (Nat × St)} {pend : List (Nat × Fr × Oper × A)} {o : Oper} {x : A} {φ' : Fr} {σ' σ'' : St}
theorem ExD.nil (h : Q .normal φ σ) : ExD C n ops [] j φ σ past pend Q := ⟨0, _, φ, φ, σ, h, Fr.le.refl _, rfl⟩
theorem ExD.val (hw : Ae ops φ o = some true) (hq : isQuiet C o = true) (ho : opQ C (ev C φ) o σ = some x) (hs : Da C (Region.before ops) φ o j x past = true) (hp : Bb n φ o.dst x = some φ')
  (h : ExD C n ops l (j + 1) φ' σ past ((j, φ, o, x) :: pend) Q) : ExD C n ops (o :: l) j φ σ past pend Q := by
 obtain ⟨N, y, φ0, φ2, σ2, h1, h2, h3⟩ := h
 exact ⟨N, y, φ0, φ2, σ2, h1, h2, by simp only [B9, hw, hq, ho, hs, hp, if_true]; exact h3⟩
theorem ExD.loud (hw : Ae ops φ o = some true) (hq : isQuiet C o = false) (ho : op C (ev C φ) o σ = some (.val x σ') ∨ (op C (ev C φ) o σ = some (.skip σ') ∧ x = und)) (hs : Dz C (Region.before ops) j σ' pend = true) (hp : Bb n φ o.dst x = some φ')
  (h : ExD C n ops l (j + 1) φ' σ' ((j, σ) :: past) pend Q) : ExD C n ops (o :: l) j φ σ past pend Q := by
 obtain ⟨N, y, φ0, φ2, σ2, h1, h2, h3⟩ := h
 have hl : A5 C (DM.call C N) φ o σ = some (x, σ') := by
  unfold A5
  rcases ho with ho | ⟨ho, rfl⟩ <;> rw [ho]
 exact ⟨N, y, φ0, φ2, σ2, h1, h2, by simp only [B9, hw, hq, hl, hs, hp, if_true, Bool.false_eq_true, if_false]; exact h3⟩
theorem ExD.call {f : FuncId} {args : List A} (hw : Ae ops φ o = some true) (hq : isQuiet C o = false) (ho : op C (ev C φ) o σ = some (.call f args σ')) (hcl : Cl C f args σ' (.ret x) σ'') (hs : Dz C (Region.before ops) j σ'' pend = true)
  (hp : Bb n φ o.dst x = some φ') (h : ExD C n ops l (j + 1) φ' σ'' ((j, σ) :: past) pend Q) : ExD C n ops (o :: l) j φ σ past pend Q := by
 obtain ⟨N, y, φ0, φ2, σ2, h1, h2, h3⟩ := h
 obtain ⟨M, hM⟩ := hcl
 have hpend : ∀ l : List (Nat × Fr × Oper × A), H1 l l := by
  intro l
  induction l with
  | nil => exact .nil
  | cons a l ih => obtain ⟨i, f, o, x⟩ := a; exact .cons (Fr.le.refl _) ih
 obtain ⟨ψ2, g1, g2⟩ := Cn (Df (m := N + M) (by omega)) (Fr.le.refl φ') (hpend _) h3
 have hl : A5 C (DM.call C (N + M)) φ o σ = some (x, σ'') := by
  unfold A5
  rw [ho]; simp only [hM (N + M) (by omega)]
 exact ⟨N + M, y, φ0, ψ2, σ2, h1, h2.trans g2, by simp only [B9, hw, hq, hl, hs, hp, if_true, Bool.false_eq_true, if_false]; exact g1⟩
end

def Rets (C : Cfg) (fn : Func) (x : A) (σ1 : St) : X → Fr → St → Prop := fun e φ σ' => (e = .normal ∨ e = .ret) ∧ φ.ds = [] ∧ σ' = σ1 ∧ ∃ l, B0 C φ σ' fn.results.toList = some l ∧ An l = x
theorem Cl.enter {f : FuncId} {fn : Func} {args : List A} {x : A} {σ1 : St} (hf : C.P.funcs[f]? = some fn) (hb : fn.body = some c) (hp : C.prim f = none) (hl : args.length ≤ fn.ntmps)
  (h : Ex C fn.ntmps c ⟨E6 0 args, []⟩ σ (Rets C fn x σ1)) : Cl C f args σ (.ret x) σ1 := by
 obtain ⟨N, e, φ0, φ', σ', ⟨h1, hds, rfl, l, hres, rfl⟩, h2, h3⟩ := h
 obtain ⟨ψ1, e1, e2⟩ := A8 (m := N + 1) (Df (Nat.le_refl N)) (by omega) (Fr.le.refl _) h3
 have hle := h2.trans e2
 refine Cl.of (k := N + 1) ?_
 simp only [DM.call, hp, hf, hb, if_pos hl, e1]
 have hd : ψ1.ds = [] := by rw [hle.2, hds]
 rcases h1 with rfl | rfl <;> simp only [hd, Bx, Eb hle hres]
end
end Go.DM
namespace Go.DM
open Go Go.RowKit

theorem Bz {α β : Type} (P : Program) (s : Sem α) (f : α → Sem β) : det P (s >>= f) = (det P s).bind fun a => det P (f a) := by
 induction s with
 | pure a => rfl
 | program k ih => exact ih P
 | mark m k ih => exact ih
 | _ => rfl
theorem Cu {α : Type} (P : Program) (a : α) : det P (pure a : Sem α) = some a := rfl
theorem Hc {α β : Type} (P : Program) (s : Sem α) (f : α → β) : det P (f <$> s) = (det P s).map f := by
 rw [map_eq_pure_bind, Bz]
 cases det P s <;> rfl
theorem A7 {P : Program} {t : TypeId} {d : TypeDesc} (h : P.underlying t = some d) : det P (underlying t) = some d := by
 unfold underlying
 rw [Bz]
 show (det P (match P.underlying t with | some d => pure d | none => stuck "no such type")) = _
 rw [h]; rfl

theorem wrap_i64 {n : Int} (h0 : -9223372036854775808 ≤ n) (h1 : n < 9223372036854775808) : IntKind.i64.wrap n = n := by
 have : IntKind.i64.wrap n = if (true && decide (n % 18446744073709551616 ≥ 9223372036854775808)) = true then n % 18446744073709551616 - 18446744073709551616 else n % 18446744073709551616 := rfl
 rw [this]
 simp only [Bool.true_and, decide_eq_true_eq]
 split <;> omega
section
variable {C : Cfg} {ρ : Operand → Option A} {o : Oper} {σ : St}

theorem Cb {u : Value} {a : A} (hp : Az ρ o.op.operands.toList = true) (hd : det C.P (execOp (Gf ρ) o) = some (.value u)) (ha : Ee u = some a) : Ao C ρ o σ = some (.val a σ) := by
 unfold Ao Kz
 rw [if_pos hp, hd]
 simp only [ha]
theorem Bg {x : Operand} {u : Value} (h : ρ x = some (.v u)) : Gf ρ x = u := by simp [Gf, h, Bo]

theorem Cg {r : Option R} {k : IntKind} {m n : Int} (h : r = some (.val (.v (.int k m)) σ)) (e : m = n) : r = some (.val (.v (.int k n)) σ) := e ▸ h
theorem Xb {t : TypeId} {x ix : Operand} {s : ByteArray} {k : IntKind} {i : Int} {b : UInt8} (hop : o.op = .index t x ix) (hx : ρ x = some (.v (.string s))) (hi : ρ ix = some (.v (.int k i))) (ht : C.P.underlying t = some .string)
  (h0 : 0 ≤ i) (hb : s[i.toNat]? = some b) : op C ρ o σ = some (.val (.v (.int .u8 b.toNat)) σ) := by
 have hd : Ao C ρ o σ = some (.val (.v (.int .u8 b.toNat)) σ) := by
  refine Cb (u := .int .u8 b.toNat) ?_ ?_ rfl
  ·simp [hop, Op.operands, Az, hx, hi, Bo]
  ·simp only [execOp, hop, Bg hx, Bg hi, Instr.index, asIntOf, Bz, Cu, Option.bind_some, A7 ht, if_pos h0, hb]
 simp only [op, hop, hx, hi, Ie, ht]
 exact hd
theorem Xc {t : TypeId} {x : Operand} {lo hi : Option Operand} {s : ByteArray} {l h : Nat} (hop : o.op = .slice t x lo hi none) (hx : ρ x = some (.v (.string s))) (ht : C.P.underlying t = some .string)
  (hlo : (lo = none ∧ l = 0) ∨ ∃ y k, lo = some y ∧ ρ y = some (.v (.int k (l : Nat)))) (hhi : (hi = none ∧ h = s.size) ∨ ∃ y k, hi = some y ∧ ρ y = some (.v (.int k (h : Nat)))) (hlh : l ≤ h) (hs : h ≤ s.size) :
  op C ρ o σ = some (.val (.v (.string (s.extract l h))) σ) := by
 have hb : ∀ (k : IntKind) (n y : Nat) (code : BoundsCode), n ≤ y → det C.P (Instr.sliceBound (.int k (n : Nat)) y code) = some n := by
  intro k n y code hn
  have h1 : (0 : Int) ≤ (n : Int) ∧ (n : Int) ≤ (y : Int) := ⟨by omega, by omega⟩
  simp only [Instr.sliceBound, asIntOf, Bz, Cu, Option.bind_some]
  rw [if_pos h1]
  simp [Cu]
 rcases hlo with ⟨rfl, rfl⟩ | ⟨y, k, rfl, hy⟩ <;> rcases hhi with ⟨rfl, rfl⟩ | ⟨z, k', rfl, hz⟩
 ·have hd : Ao C ρ o σ = some (.val (.v (.string (s.extract 0 s.size))) σ) := by
   refine Cb (u := .string (s.extract 0 s.size)) ?_ ?_ rfl
   ·simp [hop, Op.operands, Az, hx, Bo]
   ·simp [execOp, hop, Bg hx, Instr.sliceAt, Instr.slice, Instr.sliceBounds, Bz, Hc, Cu, A7 ht]
  simp only [op, hop, hx, E4, Dw, ht]
  exact hd
 ·have hd : Ao C ρ o σ = some (.val (.v (.string (s.extract 0 h))) σ) := by
   refine Cb (u := .string (s.extract 0 h)) ?_ ?_ rfl
   ·simp [hop, Op.operands, Az, hx, hz, Bo]
   ·simp [execOp, hop, Bg hx, Bg hz, Instr.sliceAt, Instr.slice, Instr.sliceBounds, Bz, Hc, A7 ht, hb k' h s.size _ hs]
  simp only [op, hop, hx, hz, E4, Dw, ht]
  exact hd
 ·have hd : Ao C ρ o σ = some (.val (.v (.string (s.extract l s.size))) σ) := by
   refine Cb (u := .string (s.extract l s.size)) ?_ ?_ rfl
   ·simp [hop, Op.operands, Az, hx, hy, Bo]
   ·simp [execOp, hop, Bg hx, Bg hy, Instr.sliceAt, Instr.slice, Instr.sliceBounds, Bz, Hc, A7 ht, hb k l s.size _ hlh]
  simp only [op, hop, hx, hy, E4, Dw, ht]
  exact hd
 ·have hd : Ao C ρ o σ = some (.val (.v (.string (s.extract l h))) σ) := by
   refine Cb (u := .string (s.extract l h)) ?_ ?_ rfl
   ·simp [hop, Op.operands, Az, hx, hy, hz, Bo]
   ·simp [execOp, hop, Bg hx, Bg hy, Bg hz, Instr.sliceAt, Instr.slice, Instr.sliceBounds, Bz, Hc, A7 ht, hb k' h s.size _ hs, hb k l h _ hlh]
  simp only [op, hop, hx, hy, hz, E4, Dw, ht]
  exact hd
theorem Acj {c : Call} {x : Operand} {s : ByteArray} {t : TypeId} (hop : o.op = .call c) (hc : c.callee = .builtin .len) (ha : c.args.toList = [x]) (h0 : c.argTypes[0]? = some t) (hx : ρ x = some (.v (.string s))) (ht : C.P.underlying t = some .string) :
  op C ρ o σ = some (.val (.v (.int .i64 (s.size : Nat))) σ) := by
 have hd : Ao C ρ o σ = some (.val (.v (.int .i64 (s.size : Nat))) σ) := by
  refine Cb (u := .int .i64 (s.size : Nat)) ?_ ?_ rfl
  ·have : o.op.operands.toList = [x] := by simp [hop, Op.operands, Call.operands, hc, ha]
   rw [this]; simp [Az, hx, Bo]
  ·rw [A2 hop hc, U3 ha, Bg hx]
   simp [builtin, Builtin.len_, h0, Bz, Hc, Cu, A7 ht, goInt]
 simp only [op, hop, hc, Bd, ha, hx, h0, Ku, ht]
 exact hd
theorem Xd {c : Call} {x : Operand} {cs : List A} {sz : Nat} {ap : Ap} {t e : TypeId} (hop : o.op = .call c) (hc : c.callee = .builtin .len) (ha : c.args.toList = [x]) (h0 : c.argTypes[0]? = some t) (hx : ρ x = some (.sl sz cs ap)) (ht : C.P.underlying t = some (.slice e)) :
  op C ρ o σ = some (.val (.v (.int .i64 ((cs.length / sz : Nat) : Int))) σ) := by
 simp only [op, hop, hc, Bd, ha, hx, h0, Ku, ht]
theorem Ad2 {t e : TypeId} {x ix : Operand} {cs : List A} {sz : Nat} {ap : Ap} {k : IntKind} {n : Int} (hop : o.op = .indexAddr t x ix) (hx : ρ x = some (.sl sz cs ap)) (hi : ρ ix = some (.v (.int k n))) (ht : C.P.underlying t = some (.slice e)) (hs : Al C.P e = some sz)
  (h0 : 0 < sz) (hn : 0 ≤ n) (hl : n < ((cs.length / sz : Nat) : Int)) : op C ρ o σ = some (.val (.sp cs (n.toNat * sz) .no) σ) := by
 simp only [op, hop, hx, hi, B1, ht, hs]
 rw [if_pos ⟨trivial, h0, hn, hl⟩]; rfl
theorem Ko {t : TypeId} {a : Operand} {cs : List A} {i : Nat} {ap : Ap} {x : A} (hop : o.op = .load t a) (ha : ρ a = some (.sp cs i ap)) (hl : loadAt C.P t cs i = some x) : op C ρ o σ = some (.val x σ) := by
 simp only [op, hop, ha, Ci, hl]; rfl
theorem Ru {P : Program} {t e : TypeId} {i : TypeInfo} {cs new : List A} {id : Nat} {x : A} (ht : P.underlying t = some (.slice e)) (hi : P.info? e = some i) (hx : Ai σ i.size x = some new) (hz : 0 < i.size) (hn : new ≠ []) (h1 : Bh new = true)
  (h2 : i.zero.isSome = true) (h3 : (i.zero.map (·.cells.size)) = some i.size) (h4 : 0 < i.bytes) (hb : (2 * ((cs.length + new.length) / i.size) + 1024) * i.bytes ≤ 281474976710656) (hl : σ.live id = some e) :
  Bp P t (.sl i.size cs (.gr id)) x σ = some (.sl i.size (cs ++ new) (.gr σ.nextT), (σ.untok id).tok e) := by
 simp only [Bp, ht, hi, hx, if_pos hz, if_neg hn]
 rw [if_pos ⟨h1, h2, h3, h4⟩]
 simp only [true_and]
 rw [if_pos hb, if_pos hl]
theorem append_nil {P : Program} {t e : TypeId} {i : TypeInfo} {new : List A} {x : A} (ht : P.underlying t = some (.slice e)) (hi : P.info? e = some i) (hx : Ai σ i.size x = some new) (hz : 0 < i.size) (hn : new ≠ []) (h1 : Bh new = true)
  (h2 : i.zero.isSome = true) (h3 : (i.zero.map (·.cells.size)) = some i.size) (h4 : 0 < i.bytes) (hb : (2 * (new.length / i.size) + 1024) * i.bytes ≤ 281474976710656) :
  Bp P t (.v (.slice none 0 0)) x σ = some (.sl i.size new (.gr σ.nextT), σ.tok e) := by
 simp only [Bp, ht, hi, hx, if_pos hz, if_neg hn]
 rw [if_pos ⟨h1, h2, h3, h4⟩, if_pos hb]
end

structure St.ext (σ σ' : St) : Prop where
 next : σ.next ≤ σ'.next
 nextT : σ.nextT ≤ σ'.nextT
 blks : ∀ b, b < σ.next → σ'.blks.get b = σ.blks.get b
 toks : ∀ t, t < σ.nextT → σ'.toks.get t = σ.toks.get t
def Ca (C : Cfg) (f : FuncId) (args : List A) (σ : St) (Q : A → St → Prop) : Prop := ∃ x σ', Cl C f args σ (.ret x) σ' ∧ Q x σ'
def Ret (C : Cfg) (fn : Func) (Q : A → St → Prop) : X → Fr → St → Prop := fun e φ σ' => (e = .normal ∨ e = .ret) ∧ φ.ds = [] ∧ ∃ l, B0 C φ σ' fn.results.toList = some l ∧ Q (An l) σ'
theorem Ca.enter {C : Cfg} {c : Code} {f : FuncId} {fn : Func} {args : List A} {σ : St} {Q : A → St → Prop} (hf : C.P.funcs[f]? = some fn) (hb : fn.body = some c) (hp : C.prim f = none) (hl : args.length ≤ fn.ntmps)
  (h : Ex C fn.ntmps c ⟨E6 0 args, []⟩ σ (Ret C fn Q)) : Ca C f args σ Q := by
 obtain ⟨N, e, φ0, φ', σ', ⟨h1, hds, l, hres, hq⟩, h2, h3⟩ := h
 exact ⟨An l, σ', Cl.enter hf hb hp hl ⟨N, e, φ0, φ', σ', ⟨h1, hds, rfl, l, hres, rfl⟩, h2, h3⟩, hq⟩
def fr0 : Fr := ⟨.nil, []⟩
theorem H3 {φ : Fr} (hd : φ.ds = []) : fr0.le φ := ⟨fun t x h => by simp [fr0] at h, hd⟩
theorem Aj {φ ψ : Fr} {t : Nat} {x : A} (hx : ψ.s.get t = some x) (h : φ.le ψ) : (φ.set t x).le ψ := by
 refine ⟨fun u y hu => ?_, h.2⟩
 simp only [Fr.set, Tr.get_set] at hu
 split at hu
 ·rename_i hh; cases hu; rw [hh]; exact hx
 ·exact h.1 u y hu
end Go.DM
namespace Go.DM
open Go Go.RowKit
theorem Inv.toBelow {w0 w' : World} {σ : St} {k : K} (h : Inv w0 σ k) (hb : Below k.w.heap.size k.w w') : Inv w0 σ (k.wd w') ∧ k.le (k.wd w') := by
 have hle : k.le (k.wd w') := K.le_of h _ rfl (fun _ _ h => h) (fun _ _ h => h) (fun _ _ h => h) (fun _ _ _ h => h) (fun id c h _ => ⟨id, h⟩) (fun c n hf => hb.block c (h.frz_lt hf)) (fun c o hu => ⟨(hb.block c (Ad hu.1)).trans hu.1, hu.2.1, hu.2.2⟩) (fun c cs e fr hh => ⟨cs, fr, (hb.block c (Ad hh)).trans hh, rfl⟩)
 refine ⟨⟨h.base, h.below.trans (hb.mono h.below.size), fun b x hx => ?_, h.next, fun b c hc => Nat.lt_of_lt_of_le (h.dom b c hc) hb.size, h.inj, fun c n hf => ?_, fun id e ht => ?_, h.tnext, h.odom, h.tinj, h.liv⟩, hle⟩
 ·obtain ⟨c, o, h1, h2, h3, h4, h5⟩ := h.blk b x hx
  exact ⟨c, o, h1, h2, h3, (hb.block c (Ad h4)).trans h4, h5.mono hle⟩
 ·obtain ⟨cs, e, fr, h1, h2⟩ := h.frz c n hf
  exact ⟨cs, e, fr, (hb.block c (Ad h1)).trans h1, h2⟩
 ·obtain ⟨hl, c, m, cs, lo, hi, h1, h2, h3, h4, h5⟩ := h.tok id e ht
  exact ⟨hl, c, m, cs, lo, hi, h1, h2, h3, (hb.block c (Ad h4)).trans h4, h5⟩

section
variable {P : Program} {f : FuncId} {us : Array Value} {k : K} {w0 : World} {σ : St} {v : Value} {x : A}
theorem out_below (hI : Inv w0 σ k) (hs : Tx v = true) (h : Calls P f us k.w fun e w' => e = .returned v ∧ Below k.w.heap.size k.w w') : Calls P f us k.w (OutPost w0 k (.ret (.v v)) σ) :=
 h.mono fun _e w' ⟨he, hb⟩ => ⟨k.wd w', v, he, rfl, (hI.toBelow hb).2, (hI.toBelow hb).1, .v hs⟩
theorem out_same (hI : Inv w0 σ k) (hs : Tx v = true) (h : Calls P f us k.w fun e w' => e = .returned v ∧ w' = k.w) : Calls P f us k.w (OutPost w0 k (.ret (.v v)) σ) :=
 out_below hI hs (h.mono fun e w' ⟨he, hb⟩ => ⟨he, by rw [hb]; exact Below.refl _ _⟩)
def M1 (l : List ByteArray) : List A := l.map fun b => .v (.string b)
theorem out_strs (hI : Inv w0 σ k) {l : List ByteArray} {e : TypeId} {n : Nat} (hn : n = l.length) (h : Calls P f us k.w fun en w' => en = .returned (.slice (some ⟨k.w.heap.size, 0, none⟩) n n) ∧ w' = k.w.alloc (.cells (l.map Value.string).toArray e)) :
  Calls P f us k.w (OutPost w0 k (.ret (.sl 1 (M1 l) .no)) σ) := by
 refine h.mono fun en w' ⟨he, hb⟩ => ?_
 obtain ⟨h1, h2, h3, h4⟩ := hI.lay (us := (l.map Value.string).toArray) (e := e) (fr := (0, 0)) (n := l.length) (by simp)
 refine ⟨_, _, he, ?_, h2, h1, ?_⟩
 ·rw [hb]; rfl
 ·subst hn
  have hc : (M1 l).length = l.length := by simp [M1]
  have := Rel.sl (k := k.lay (.cells (l.map Value.string).toArray e (0, 0)) l.length) (sz := 1) (cs := M1 l) (ap := .no) (c := k.w.heap.size) (i := 0) (n := l.length) (cap := l.length) (fun j => .string (l.getD j .empty)) h3 (by rw [hc]; omega)
   (fun j a hj => by
    have hlt : j < l.length := by have := (List.getElem?_eq_some_iff.1 hj).1; rw [hc] at this; exact this
    show (k.w.alloc _).cell? ⟨k.w.heap.size, 0 + j, none⟩ = _
    rw [Bl (cs := (l.map Value.string).toArray) (e := e) (fr := (0, 0)) (Ag _ _)]
    simp [hlt])
   (fun j a hj => by
    have hlt : j < l.length := by have := (List.getElem?_eq_some_iff.1 hj).1; rw [hc] at this; exact this
    have : a = .v (.string l[j]) := by simp [M1, hlt] at hj; exact hj.symm
    subst this
    simp [hlt]
    exact .v rfl)
   (by omega) (by omega) (by rw [hc]; omega) trivial
  rw [hc, Nat.div_one] at this
  exact this
end

def Vk (l : List UInt8) : Bool := l.all fun b => decide (b.toNat < 128)
def Rv (s : ByteArray) (c : Int) : Option Int := some (Lib.indexByte s.data.toList c.toNat.toUInt8)
def indexByteG : List A → St → Option (A × St)
 | [.v (.string s), .v (.int .u8 c)], σ => (Rv s c).map fun b => (.v (.int .i64 b), σ)
 | _, _ => none
def errA (t : TypeId) (b : Bool) : A := cond b (.ifc t .junk) (.v .nilIface)

def containsRuneT (s : ByteArray) (r : Int) : Option Bool := if 0 ≤ r ∧ r < 128 then some (decide (0 ≤ Lib.indexByte s.data.toList r.toNat.toUInt8)) else none
def containsRuneG : List A → St → Option (A × St)
 | [.v (.string s), .v (.int .i32 r)], σ => (containsRuneT s r).map fun b => (.v (.bool b), σ)
 | _, _ => none
def itoaT (n : Int) : Option ByteArray := if -9223372036854775808 ≤ n ∧ n ≤ 9223372036854775807 then some ⟨(Lib.itoa n).toArray⟩ else none
def itoaG : List A → St → Option (A × St)
 | [.v (.int .i64 n)], σ => (itoaT n).map fun b => (.v (.string b), σ)
 | _, _ => none
def atoiT (s : ByteArray) : Option (Int × Bool) := if s.size ≤ 281474976710656 then match Lib.atoiAll s.data.toList with
  | .ok v => some (v, false)
  | .«syntax» => some (0, true)
  | .range => some (Lib.atoiSat s.data.toList, true)
 else none
def atoiG (t : TypeId) : List A → St → Option (A × St)
 | [.v (.string s)], σ => (atoiT s).map fun b => (.tup [.v (.int .i64 b.1), errA t b.2], σ)
 | _, _ => none

def fieldsT (s : ByteArray) : Option (List ByteArray) := if s.size < 4294967281 ∧ Vk s.data.toList = true then some ((Lib.fields s.data.toList).map fun l => ⟨l.toArray⟩) else none
def fieldsG : List A → St → Option (A × St)
 | [.v (.string s)], σ => (fieldsT s).map fun l => (.sl 1 (M1 l) .no, σ)
 | _, _ => none
def cutT (s t : ByteArray) : Option (ByteArray × ByteArray × Bool) := if s.size < 4294967281 then some (⟨(Lib.cut s.data.toList t.data.toList).1.toArray⟩, ⟨(Lib.cut s.data.toList t.data.toList).2.1.toArray⟩, (Lib.cut s.data.toList t.data.toList).2.2) else none
def cutG : List A → St → Option (A × St)
 | [.v (.string s), .v (.string t)], σ => (cutT s t).map fun r => (.tup [.v (.string r.1), .v (.string r.2.1), .v (.bool r.2.2)], σ)
 | _, _ => none
def trimT (s t : ByteArray) : Option ByteArray := if s.size ≤ 9223372036854775807 ∧ t.size < 4294967281 ∧ Vk t.data.toList = true then some ⟨(Lib.trimS s.data.toList t.data.toList).toArray⟩ else none
def trimG : List A → St → Option (A × St)
 | [.v (.string s), .v (.string t)], σ => (trimT s t).map fun b => (.v (.string b), σ)
 | _, _ => none

end Go.DM
namespace Go.DM
open Go Go.RowKit
def Acl : Ap → Bool
 | .no => true
 | _ => false
mutual
def Dg : A → Bool
 | .v _ => true
 | .sp cs _ ap => Acl ap && pureL cs
 | .sl _ cs ap => Acl ap && pureL cs
 | .ifc _ x => Dg x
 | .agg cs => pureL cs
 | .tup cs => pureL cs
 | .fn _ a c => pureL a && pureL c
 | _ => false
def pureL : List A → Bool
 | [] => true
 | a :: r => Dg a && pureL r
end
theorem C5 : ∀ {l : List A} (_ : pureL l = true) {j : Nat} {a : A}, l[j]? = some a → Dg a = true
 | [], _, j, a, h => by simp at h
 | b :: r, hp, 0, a, h => by
  simp only [pureL, Bool.and_eq_true] at hp
  simp at h; subst h; exact hp.1
 | b :: r, hp, j + 1, a, h => by
  simp only [pureL, Bool.and_eq_true] at hp
  exact C5 hp.2 (by simpa using h)
theorem S0 {ap : Ap} (h : Acl ap = true) : ap = .no := by cases ap <;> first | rfl | cases h
theorem Rel.pure {k k' : K} (hf : ∀ c n, k.frz c = some n → ∃ n', n ≤ n' ∧ k'.frz c = some n') (hc : ∀ c n i, k.frz c = some n → i < n → k'.w.cell? ⟨c, i, none⟩ = k.w.cell? ⟨c, i, none⟩) {a : A} {v : Value} (hr : Rel k a v) (hp : Dg a = true) : Rel k' a v := by
 induction hr with
 | v hs => exact .v hs
 | sp u hfz hl hcell hr hs ih =>
  simp only [Dg, Bool.and_eq_true] at hp
  obtain ⟨n', h1, h2⟩ := hf _ _ hfz
  have := S0 hp.1
  subst this
  exact .sp u h2 (by omega) (fun j a ha => by rw [hc _ _ _ hfz (by have := Be ha; omega)]; exact hcell j a ha) (fun j a ha => ih j a ha (C5 hp.2 ha)) trivial
 | sl u hfz hl hcell hr hz hm hcap hap ih =>
  simp only [Dg, Bool.and_eq_true] at hp
  obtain ⟨n', h1, h2⟩ := hf _ _ hfz
  have := S0 hp.1
  subst this
  exact .sl u h2 (by omega) (fun j a ha => by rw [hc _ _ _ hfz (by have := Be ha; omega)]; exact hcell j a ha) (fun j a ha => ih j a ha (C5 hp.2 ha)) hz hm hcap trivial
 | sl0 hz => exact .sl0 hz
 | fn h1 h2 _ _ ih1 ih2 =>
  simp only [Dg, Bool.and_eq_true] at hp
  exact .fn h1 h2 (fun j a u ha hu => ih1 j a u ha hu (C5 hp.1 ha)) (fun j a u ha hu => ih2 j a u ha hu (C5 hp.2 ha))
 | ifc _ ih => exact .ifc (ih (by simpa only [Dg] using hp))
 | agg h1 _ ih => exact .agg h1 (fun j a u ha hu => ih j a u ha hu (C5 (by simpa only [Dg] using hp) ha))
 | tup h1 _ ih => exact .tup h1 (fun j a u ha hu => ih j a u ha hu (C5 (by simpa only [Dg] using hp) ha))
 | ptr hb => cases hp
 | ms hb hl hx => cases hp
 | mv hb hl hh hs => cases hp
 | mp hb => cases hp
 | raw ho hc hl hm => cases hp
 | junk => cases hp
theorem RelL.pure {k k' : K} (hf : ∀ c n, k.frz c = some n → ∃ n', n ≤ n' ∧ k'.frz c = some n') (hc : ∀ c n i, k.frz c = some n → i < n → k'.w.cell? ⟨c, i, none⟩ = k.w.cell? ⟨c, i, none⟩) {l : List A} {us : List Value} (hr : RelL k l us) (hp : pureL l = true) : RelL k' l us :=
 ⟨hr.1, fun j a u ha hu => (hr.2 j a u ha hu).pure hf hc (C5 hp ha)⟩
mutual
def strip : A → A
 | .sp cs o _ => .sp (stripL cs) o .no
 | .sl sz cs _ => .sl sz (stripL cs) .no
 | .ifc t x => .ifc t (strip x)
 | .agg cs => .agg (stripL cs)
 | .tup cs => .tup (stripL cs)
 | .fn f a c => .fn f (stripL a) (stripL c)
 | .v x => .v x
 | .ptr b o => .ptr b o
 | .ms b o len cap => .ms b o len cap
 | .mp b => .mp b
 | .raw id len => .raw id len
 | .junk => .junk
def stripL : List A → List A
 | [] => []
 | a :: r => strip a :: stripL r
end
theorem F8 : ∀ l : List A, stripL l = l.map strip
 | [] => rfl
 | a :: r => by rw [stripL, F8 r]; rfl
theorem Bv (l : List A) : (stripL l).length = l.length := by rw [F8, List.length_map]
theorem B8 {l : List A} {j : Nat} {a : A} (h : (stripL l)[j]? = some a) : ∃ b, l[j]? = some b ∧ a = strip b := by
 rw [F8, List.getElem?_map] at h
 cases hb : l[j]? with
 | none => rw [hb] at h; cases h
 | some b => rw [hb] at h; cases h; exact ⟨b, rfl, rfl⟩
theorem Rel.strip {k : K} {a : A} {v : Value} (hr : Rel k a v) : Rel k (DM.strip a) v := by
 induction hr with
 | v hs => exact .v hs
 | sp u hfz hl hcell hr hs ih =>
  rw [DM.strip]
  refine .sp u hfz (by rw [Bv]; exact hl) (fun j a ha => ?_) (fun j a ha => ?_) trivial
  ·obtain ⟨b, h1, h2⟩ := B8 ha; exact hcell j b h1
  ·obtain ⟨b, h1, rfl⟩ := B8 ha; exact ih j b h1
 | @sl sz cs ap c i n cap u hfz hl hcell hr hz hm hcap hap ih =>
  rw [DM.strip]
  have := Rel.sl (k := k) (sz := sz) (cs := stripL cs) (ap := .no) (c := c) (i := i) (n := n) (cap := cap) u hfz (by rw [Bv]; exact hl)
   (fun j a ha => by obtain ⟨b, h1, h2⟩ := B8 ha; exact hcell j b h1) (fun j a ha => by obtain ⟨b, h1, rfl⟩ := B8 ha; exact ih j b h1) hz (by rw [Bv]; exact hm) (by rw [Bv]; exact hcap) trivial
  rw [Bv] at this
  exact this
 | sl0 hz => rw [DM.strip, stripL]; exact .sl0 hz
 | fn h1 h2 _ _ ih1 ih2 =>
  rw [DM.strip]
  refine .fn (by rw [Bv]; exact h1) (by rw [Bv]; exact h2) (fun j a u ha hu => ?_) (fun j a u ha hu => ?_)
  ·obtain ⟨b, g1, rfl⟩ := B8 ha; exact ih1 j b u g1 hu
  ·obtain ⟨b, g1, rfl⟩ := B8 ha; exact ih2 j b u g1 hu
 | ifc _ ih => rw [DM.strip]; exact .ifc ih
 | agg h1 _ ih =>
  rw [DM.strip]
  refine .agg (by rw [Bv]; exact h1) (fun j a u ha hu => ?_)
  obtain ⟨b, g1, rfl⟩ := B8 ha; exact ih j b u g1 hu
 | tup h1 _ ih =>
  rw [DM.strip]
  refine .tup (by rw [Bv]; exact h1) (fun j a u ha hu => ?_)
  obtain ⟨b, g1, rfl⟩ := B8 ha; exact ih j b u g1 hu
 | ptr hb => exact .ptr hb
 | ms hb hl hx => exact .ms hb hl hx
 | mv hb hl hh hs => exact .mv hb hl hh hs
 | mp hb => exact .mp hb
 | raw ho hc hl hm => exact .raw ho hc hl hm
 | junk => exact .junk
theorem RelL.strip {k : K} {l : List A} {us : List Value} (hr : RelL k l us) : RelL k (stripL l) us :=
 ⟨by rw [Bv]; exact hr.1, fun j a u ha hu => by obtain ⟨b, h1, rfl⟩ := B8 ha; exact (hr.2 j b u h1 hu).strip⟩
def K.fresh (k : K) : K := { base := k.w.heap.size, w := k.w, blk := fun _ => none, frz := k.frz, own := fun _ => none, live := fun _ => false }
def K.back (k k1 : K) : K := { k with w := k1.w, frz := fun c => if c < k.w.heap.size then k.frz c else k1.frz c }
section
variable {w0 : World} {σ : St} {k : K}
theorem Inv.fresh (h : Inv w0 σ k) : Inv k.w σ0 k.fresh := by
 refine ⟨rfl, Below.refl _ _, fun b x h => ?_, fun b h => rfl, fun b c h => ?_, fun b b' c x x' h => ?_, h.frz, fun id e h => ?_, fun id h => rfl, fun id c h => ?_, fun id id' e e' c h => ?_, fun id c h => ?_⟩
 ·simp [σ0] at h
 ·simp [K.fresh] at h
 ·simp [σ0] at h
 ·simp [σ0] at h
 ·simp [K.fresh] at h
 ·simp [σ0] at h
 ·simp [K.fresh] at h
theorem Inv.back (h : Inv w0 σ k) {σ1 : St} {k1 : K} (h1 : Inv k.w σ1 k1) : Inv w0 σ (k.back k1) ∧ k.le (k.back k1) := by
 have hb := h1.below
 have hlt : ∀ {c n}, k.frz c = some n → (k.back k1).frz c = some n := fun {c n} hf => by simp only [K.back, if_pos (h.frz_lt hf)]; exact hf
 have hle : k.le (k.back k1) := K.le_of h _ rfl (fun _ _ h => h) (fun c n hf => hlt hf) (fun _ _ h => h) (fun _ _ _ h => h) (fun id c h _ => ⟨id, h⟩) (fun c n hf => hb.block c (h.frz_lt hf))
  (fun c o hu => ⟨(hb.block c (Ad hu.1)).trans hu.1, hu.2.1, by simp only [K.back, if_pos (Ad hu.1)]; exact hu.2.2⟩) (fun c cs e fr hh => ⟨cs, fr, (hb.block c (Ad hh)).trans hh, rfl⟩)
 refine ⟨⟨h.base, h.below.trans (hb.mono h.below.size), fun b x hx => ?_, h.next, fun b c hc => Nat.lt_of_lt_of_le (h.dom b c hc) hb.size, h.inj, fun c n hf => ?_, fun id e ht => ?_, h.tnext, fun id c ho => ?_, h.tinj, h.liv⟩, hle⟩
 ·obtain ⟨c, o, g1, g2, g3, g4, g5⟩ := h.blk b x hx
  exact ⟨c, o, g1, g2, by simp only [K.back, if_pos (Ad g4)]; exact g3, (hb.block c (Ad g4)).trans g4, g5.mono hle⟩
 ·simp only [K.back] at hf
  split at hf
  ·obtain ⟨cs, e, fr, g1, g2⟩ := h.frz c n hf
   exact ⟨cs, e, fr, (hb.block c (Ad g1)).trans g1, g2⟩
  ·exact h1.frz c n hf
 ·obtain ⟨hl, c, m, cs, lo, hi, g1, g2, g3, g4, g5⟩ := h.tok id e ht
  exact ⟨hl, c, m, cs, lo, hi, g1, g2, hlt g3, (hb.block c (Ad g4)).trans g4, g5⟩
 ·obtain ⟨n, hn⟩ := h.odom id c ho
  exact ⟨n, hlt hn⟩
theorem Ln (_ : Inv w0 σ k) {k1 : K} (hle : k.fresh.le k1) {c n : Nat} (hf : k1.frz c = some n) : (k.back k1).frz c = some n := by
 simp only [K.back]
 split
 ·rename_i hc
  cases hk : k.frz c with
  | none =>
   have hh : k.w.heap[c]? = some k.w.heap[c] := Array.getElem?_eq_getElem hc
   have := (hle.unk c _ ⟨hh, fun b e => by simp [K.fresh] at e, hk⟩).2.2
   rw [this] at hf; cases hf
  | some m =>
   have := hle.same c m hk (fun id e => by simp [K.fresh] at e)
   rw [this] at hf
   exact hf
 ·exact hf
theorem P3 {C : Cfg} (hm : C.P.follows .mixedOrders = true) (hI : Inv w0 σ k) (hg : GlobOk C k) (hgp : ∀ g a, C.glob g = some a → Dg a = true) (hpr : PrimOk C k.w) {f : FuncId} {args : List A} {us : List Value} {x : A} {σ1 : St} {fuel : Nat}
  (h : call C fuel f (stripL args) σ0 = some (.ret x, σ1)) (ha : pureL (stripL args) = true) (hx : Dg (strip x) = true) (hr : RelL k args us) : Calls C.P f us.toArray k.w (OutPost w0 k (.ret (strip x)) σ) := by
 have same : ∀ c n, k.frz c = some n → ∃ n', n ≤ n' ∧ k.fresh.frz c = some n' := fun c n h => ⟨n, Nat.le_refl _, h⟩
 refine (call_good (drOk hm) hpr fuel f (stripL args) σ0 (.ret x) σ1 k.fresh us h hI.fresh (fun g a e => (hg g a e).pure same (fun _ _ _ _ _ => rfl) (hgp g a e)) (hr.strip.pure same (fun _ _ _ _ _ => rfl) ha)).mono (fun e w' he => ?_)
 obtain ⟨k1, v, h1, h2, h3, h4, h5⟩ := he
 obtain ⟨g1, g2⟩ := hI.back h4
 exact ⟨k.back k1, v, h1, h2, g2, g1, h5.strip.pure (fun c n hf => ⟨n, Nat.le_refl _, Ln hI h3 hf⟩) (fun _ _ _ _ _ => rfl) hx⟩
end
end Go.DM
namespace Go.DM
open Go Go.RowKit
structure Gc (σ σ1 : St) : Prop where
 next : σ1.next = σ.next
 nextT : σ1.nextT = σ.nextT
 blk : ∀ b x, σ1.blks.get b = some x → σ.blks.get b = some x
 tok : ∀ id e, σ1.toks.get id = some e → σ.toks.get id = some e
def K.keep (k : K) (σ1 : St) : K := { k with live := fun id => k.live id && (σ1.toks.get id).isSome }
theorem Inv.gc {w0 : World} {σ σ1 : St} {k : K} (h : Inv w0 σ k) (g : Gc σ σ1) : Inv w0 σ1 (k.keep σ1) ∧ k.le (k.keep σ1) := by
 have hl : ∀ id, (k.keep σ1).live id = true → k.live id = true := fun id h => by
  simp only [K.keep, Bool.and_eq_true] at h; exact h.1
 have hle : k.le (k.keep σ1) := K.le_of h _ rfl (fun _ _ h => h) (fun _ _ h => h) (fun _ _ h => h) (fun id _ _ e => hl id e) (fun x c h _ => ⟨x, h⟩) (fun _ _ _ => rfl) (fun _ _ h => h) (fun _ cs _ fr h => ⟨cs, fr, h, rfl⟩)
 refine ⟨⟨h.base, h.below, fun b x hx => ?_, fun b hb => h.next b (by rw [← g.next]; exact hb), h.dom, fun b b' c x x' h1 h2 => h.inj b b' c x x' (g.blk _ _ h1) (g.blk _ _ h2), h.frz, fun id e ht => ?_, fun id hi => h.tnext id (by rw [← g.nextT]; exact hi), h.odom,
  fun id id' e e' c h1 h2 => h.tinj id id' e e' c (g.tok _ _ h1) (g.tok _ _ h2), fun id c ho hv => ?_⟩, hle⟩
 ·obtain ⟨c, o, h1, h2, h3, h4, h5⟩ := h.blk b x (g.blk _ _ hx)
  exact ⟨c, o, h1, h2, h3, h4, h5.mono hle⟩
 ·obtain ⟨h1, h2⟩ := h.tok id e (g.tok _ _ ht)
  exact ⟨by simp only [K.keep, h1, ht]; rfl, h2⟩
 ·simp only [K.keep, Bool.and_eq_true] at hv
  exact Option.isSome_iff_exists.1 hv.2
inductive ExL (C : Cfg) (callF : CallF) (n : Nat) (a : Code) : Nat → Fr → St → X × Fr × St → Prop
 | of {k : Nat} {φ : Fr} {σ : St} {r : X × Fr × St} : A3 C callF n k (.loop a) φ σ = some r → ExL C callF n a k φ σ r
 | gc {m : Nat} {φ : Fr} {σ σ1 : St} {r : X × Fr × St} : Gc σ σ1 → ExL C callF n a m φ σ1 r → ExL C callF n a m φ σ r
 | next {m k : Nat} {φ φ1 : Fr} {σ σ1 : St} {r : X × Fr × St} : A3 C callF n k a φ σ = some (.normal, φ1, σ1) → ExL C callF n a m φ1 σ1 r → ExL C callF n a (m + 1) φ σ r
 | nextS {m : Nat} {φ φ1 : Fr} {σ σ1 : St} {r : X × Fr × St} : (∀ (w0 : World), Io C w0 → Bi C w0 callF → ∀ {k : K} {act : Act}, Inv w0 σ k → GlobOk C k → FrRel k n φ act → ∀ (Q : Exit → Act → World → Prop), (∀ e a' w', Ends w0 k n (.normal, φ1, σ1) e a' w' → Q e a' w') → a.wp C.P Q act k.w) → ExL C callF n a m φ1 σ1 r → ExL C callF n a (m + 1) φ σ r
inductive ExG (C : Cfg) (callF : CallF) (n : Nat) : Code → Fr → St → X × Fr × St → Prop
 | of {k : Nat} {c : Code} {φ : Fr} {σ : St} {r : X × Fr × St} : A3 C callF n k c φ σ = some r → ExG C callF n c φ σ r
 | gc {c : Code} {φ : Fr} {σ σ1 : St} {r : X × Fr × St} : Gc σ σ1 → ExG C callF n c φ σ1 r → ExG C callF n c φ σ r
 | seq {a b : Code} {φ φ1 : Fr} {σ σ1 : St} {r : X × Fr × St} : ExG C callF n a φ σ (.normal, φ1, σ1) → ExG C callF n b φ1 σ1 r → ExG C callF n (.seq a b) φ σ r
 | seqX {a b : Code} {φ φ1 : Fr} {σ σ1 : St} {x : X} : x ≠ .normal → ExG C callF n a φ σ (x, φ1, σ1) → ExG C callF n (.seq a b) φ σ (x, φ1, σ1)
 | loop {a : Code} {m : Nat} {φ : Fr} {σ : St} {r : X × Fr × St} : ExL C callF n a m φ σ r → ExG C callF n (.loop a) φ σ r
 | blockX {a : Code} {id : Nat} {φ φ1 : Fr} {σ σ1 : St} : ExG C callF n a φ σ (.exit id, φ1, σ1) → ExG C callF n (.block id a) φ σ (.normal, φ1, σ1)
 | blockN {a : Code} {id : Nat} {φ φ1 : Fr} {σ σ1 : St} {x : X} : x ≠ .exit id → ExG C callF n a φ σ (x, φ1, σ1) → ExG C callF n (.block id a) φ σ (x, φ1, σ1)
section
variable {C : Cfg} {w0 : World} {callF : CallF} {n : Nat}
theorem M2 {k : K} {x : X} {φ : Fr} {σ : St} {e : Exit} {a : Act} {w : World} (h : Ends w0 k n (x, φ, σ) e a w) : (e = .normal → x = .normal) ∧ (∀ j, e = .exit j → x = .exit j) := by
 cases x with
 | normal => obtain ⟨rfl, _⟩ := h; exact ⟨fun _ => rfl, fun j e => (by cases e)⟩
 | exit id => obtain ⟨rfl, _⟩ := h; exact ⟨fun e => (by cases e), fun j e => (by cases e; rfl)⟩
 | ret => obtain ⟨rfl, _⟩ := h; exact ⟨fun e => (by cases e), fun j e => (by cases e)⟩
 | pan x => obtain ⟨v, k', rfl, _⟩ := h; exact ⟨fun e => (by cases e), fun j e => (by cases e)⟩
theorem ExL.good (hd : Io C w0) (hc : Bi C w0 callF) {a : Code} {m : Nat} {φ : Fr} {σ : St} {r : X × Fr × St} (h : ExL C callF n a m φ σ r) : ∀ {k : K} {act : Act}, Inv w0 σ k → GlobOk C k → FrRel k n φ act →
  ∀ (Q : Exit → Act → World → Prop), (∀ e a' w', Ends w0 k n r e a' w' → Q e a' w') → Code.rounds C.P a Q m act k.w := by
 induction h with
 | @of k φ σ r h => intro k' act hI hg hr Q hQ; exact (Bn hd hc k).2 a φ σ k' act r h hI hg hr Q hQ
 | gc g _ ih =>
  intro k act hI hg hr Q hQ
  obtain ⟨h1, h2⟩ := hI.gc g
  exact ih h1 (hg.mono h2) (hr.mono h2) Q (fun e a' w' he => hQ e a' w' (he.mono h2))
 | @next m kk φ φ1 σ σ1 r h _ ih =>
  intro k act hI hg hr Q hQ
  rw [rounds_succ]
  refine (Bn hd hc kk).1 a φ σ k act _ h hI hg hr _ (fun e a' w' he => ?_)
  obtain ⟨rfl, k', rfl, g1, g2, g3⟩ := he
  exact ih g2 (hg.mono g1) g3 Q (fun e a' w' he => hQ e a' w' (he.mono g1))
 | @nextS m φ φ1 σ σ1 r h _ ih =>
  intro k act hI hg hr Q hQ
  rw [rounds_succ]
  refine h w0 hd hc hI hg hr _ (fun e a' w' he => ?_)
  obtain ⟨rfl, k', rfl, g1, g2, g3⟩ := he
  exact ih g2 (hg.mono g1) g3 Q (fun e a' w' he => hQ e a' w' (he.mono g1))
theorem ExG.good (hd : Io C w0) (hc : Bi C w0 callF) {c : Code} {φ : Fr} {σ : St} {r : X × Fr × St} (h : ExG C callF n c φ σ r) : ∀ {k : K} {act : Act}, Inv w0 σ k → GlobOk C k → FrRel k n φ act →
  ∀ (Q : Exit → Act → World → Prop), (∀ e a' w', Ends w0 k n r e a' w' → Q e a' w') → c.wp C.P Q act k.w := by
 induction h with
 | @of k c φ σ r h => intro k' act hI hg hr Q hQ; exact (Bn hd hc k).1 c φ σ k' act r h hI hg hr Q hQ
 | gc g _ ih =>
  intro k act hI hg hr Q hQ
  obtain ⟨h1, h2⟩ := hI.gc g
  exact ih h1 (hg.mono h2) (hr.mono h2) Q (fun e a' w' he => hQ e a' w' (he.mono h2))
 | seq _ _ ih1 ih2 =>
  intro k act hI hg hr Q hQ
  refine wp_seq (ih1 hI hg hr _ (fun e a' w' he => ?_))
  obtain ⟨rfl, k', rfl, g1, g2, g3⟩ := he
  exact ih2 g2 (hg.mono g1) g3 Q (fun e a' w' he => hQ e a' w' (he.mono g1))
 | seqX hx _ ih =>
  intro k act hI hg hr Q hQ
  refine wp_seq (ih hI hg hr _ (fun e a' w' he => ?_))
  have hq := hQ e a' w' he
  cases e with
  | normal => exact absurd ((M2 he).1 rfl) hx
  | _ => exact hq
 | @loop a m φ σ r h => intro k act hI hg hr Q hQ; exact wp_loop_rounds m (h.good hd hc hI hg hr Q hQ)
 | blockX _ ih =>
  intro k act hI hg hr Q hQ
  refine wp_block (ih hI hg hr _ (fun e a' w' he => ?_))
  obtain ⟨rfl, he⟩ := he
  simp only [Exit.inBlock, if_true]
  exact hQ _ _ _ ⟨rfl, he⟩
 | @blockN a id φ φ1 σ σ1 x hx _ ih =>
  intro k act hI hg hr Q hQ
  refine wp_block (ih hI hg hr _ (fun e a' w' he => ?_))
  have hq := hQ e a' w' he
  cases e with
  | exit j =>
   have := (M2 he).2 j rfl
   have hj : j ≠ id := by rintro rfl; exact hx this
   simp only [Exit.inBlock, if_neg hj]
   exact hq
  | _ => exact hq
def CallPt (C : Cfg) (w0 : World) (f : FuncId) (args : List A) (σ : St) (out : Out) (σ' : St) : Prop := ∀ (k : K) (us : List Value), Inv w0 σ k → GlobOk C k → RelL k args us → Calls C.P f us.toArray k.w (OutPost w0 k out σ')
theorem CallPt.gc {f : FuncId} {args : List A} {σ σ' σ1 : St} {x : A} (h : CallPt C w0 f args σ (.ret x) σ') (g : Gc σ' σ1) : CallPt C w0 f args σ (.ret x) σ1 := by
 intro k us hI hg hr
 refine (h k us hI hg hr).mono (fun e w he => ?_)
 obtain ⟨k', v, h1, h2, h3, h4, h5⟩ := he
 obtain ⟨g1, g2⟩ := h4.gc g
 exact ⟨k'.keep σ1, v, h1, h2, h3.trans g2, g1, h5.mono g2⟩
theorem Uc (hd : Io C w0) (hc : Bi C w0 callF) {f : FuncId} {fn : Func} {c : Code} (hf : C.P.funcs[f]? = some fn) (hb : fn.body = some c) {args : List A} (hl : args.length ≤ fn.ntmps) {σ σ2 : St} {x : X} {φ : Fr} {l : List A}
  (h : ExG C callF fn.ntmps c ⟨E6 0 args, []⟩ σ (x, φ, σ2)) (hx : x = .normal ∨ x = .ret) (hds : φ.ds = []) (hres : B0 C φ σ2 fn.results.toList = some l) : CallPt C w0 f args σ (.ret (An l)) σ2 := by
 intro k us hI hg hr
 refine calls_of_wp_defers hf hb (h.good hd hc hI hg (B7 hr hl) _ (fun e a' w' he => ?_))
 have fin : ∀ (k' : K), k'.w = w' → k.le k' → Inv w0 σ2 k' → FrRel k' fn.ntmps φ a' → Leaves C.P fn a'.tmps (OutPost w0 k (.ret (An l)) σ2) a'.defers .returning w' := by
  rintro k' rfl g1 g2 g3
  refine Dj (p'' := none) hd hc (fuel := 0) [] a'.defers σ2 σ2 none k' .returning rfl g2 (hg.mono g1) (by have := g3.ds; rw [hds] at this; exact this) rfl (fun k2 u2 e1 e2 e3 => ?_)
  have : u2 = .returning := e3
  subst this
  obtain ⟨v, q1, q2⟩ := D4 (C := C) e2 (fun t => (g3.slot t).mono e1) hres
  exact ⟨v, q1, k2, v, rfl, rfl, g1.trans e1, e2, q2⟩
 rcases hx with rfl | rfl
 ·obtain ⟨rfl, k', h1, g1, g2, g3⟩ := he; exact fin k' h1 g1 g2 g3
 ·obtain ⟨rfl, k', h1, g1, g2, g3⟩ := he; exact fin k' h1 g1 g2 g3
end
noncomputable def M3 (C : Cfg) (callF : CallF) (k : Nat) (f : FuncId) (args : List A) (σ : St) : Option (Out × St) :=
  match C.prim f with
  | some g => match g args σ with
   | some (x, σ') => some (.ret x, σ')
   | none => none
  | none => match C.P.funcs[f]? with
   | some fn => match fn.body with
    | some c => if args.length ≤ fn.ntmps then
      match A3 C callF fn.ntmps (k + 1) c ⟨E6 0 args, []⟩ σ with
      | some (.normal, φ, σ') | some (.ret, φ, σ') => match Bx C callF (k + 1) φ.ds σ' none with
       | some (σ'', none) => match B0 C φ σ'' fn.results.toList with
        | some l => some (.ret (An l), σ'')
        | none => none
       | _ => none
      | some (.pan x, φ, σ') => match Bx C callF (k + 1) φ.ds σ' (some x) with
       | some (σ'', none) => match B0 C φ σ'' fn.results.toList with
        | some l => some (.ret (An l), σ'')
        | none => none
       | some (σ'', some y) => some (.pan y, σ'')
       | none => none
      | _ => none
     else none
    | none => none
   | none => none
section
variable {C : Cfg} {w0 : World} {callF : CallF} {n : Nat}
theorem call1_good (hd : Io C w0) (hpr : PrimOk C w0) (hc : Bi C w0 callF) (fuel : Nat) : Bi C w0 (M3 C callF fuel) := by
  intro f args σ out σ' k us h hI hg hr
  simp only [M3] at h
  split at h
  ·rename_i g hgp
   split at h
   ·rename_i x σ2 h1
    cases h
    exact hpr f g args σ _ x k us hgp h1 hI hg hr
   ·cases h
  split at h
  case h_2 => cases h
  rename_i fn hf
  split at h
  case h_2 => cases h
  rename_i c hb
  split at h
  case isFalse => cases h
  rename_i hl
  have fin : ∀ (φ : Fr) (σ2 : St) (p : Option A), (match Bx C callF (fuel + 1) φ.ds σ2 p with
    | some (σ'', none) => match B0 C φ σ'' fn.results.toList with
     | some l => some (Out.ret (An l), σ'')
     | none => none
    | some (σ'', some y) => some (.pan y, σ'')
    | none => none) = some (out, σ') → ∀ (k' : K) (a : Act) (u : FrameMode), k.le k' → Inv w0 σ2 k' → FrRel k' fn.ntmps φ a → PSet k' p u → Leaves C.P fn a.tmps (OutPost w0 k out σ') a.defers u k'.w := by
   intro φ σ2 p h k' a u g1 g2 g3 g4
   split at h
   ·rename_i σ3 hlv
    refine Dj hd hc φ.ds a.defers σ2 σ3 p none k' u hlv g2 (hg.mono g1) g3.ds g4 (fun k2 u2 e1 e2 e3 => ?_)
    have : u2 = .returning := e3
    subst this
    split at h
    ·rename_i l hres
     cases h
     obtain ⟨v, q1, q2⟩ := D4 (C := C) e2 (fun t => (g3.slot t).mono e1) hres
     exact ⟨v, q1, k2, v, rfl, rfl, g1.trans e1, e2, q2⟩
    ·cases h
   ·rename_i σ3 y hlv
    cases h
    refine Dj hd hc φ.ds a.defers σ2 σ' p (some y) k' u hlv g2 (hg.mono g1) g3.ds g4 (fun k2 u2 e1 e2 e3 => ?_)
    obtain ⟨v, rfl, hv⟩ := e3
    exact ⟨k2, v, rfl, rfl, g1.trans e1, e2, hv⟩
   ·cases h
  have weak : ∀ (φ : Fr) (σ2 : St), (match Bx C callF (fuel + 1) φ.ds σ2 none with
    | some (σ'', none) => match B0 C φ σ'' fn.results.toList with
     | some l => some (Out.ret (An l), σ'')
     | none => none
    | _ => none) = some (out, σ') → (match Bx C callF (fuel + 1) φ.ds σ2 none with
    | some (σ'', none) => match B0 C φ σ'' fn.results.toList with
     | some l => some (Out.ret (An l), σ'')
     | none => none
    | some (σ'', some y) => some (.pan y, σ'')
    | none => none) = some (out, σ') := by
   intro φ σ2 h
   split at h
   ·rename_i σ3 hlv; rw [hlv]; exact h
   ·cases h
  refine calls_of_wp_defers hf hb ?_
  split at h
  ·rename_i φ σ2 h1
   refine (Bn hd hc (fuel + 1)).1 c _ σ k _ _ h1 hI hg (B7 hr hl) _ (fun e a' w' he => ?_)
   obtain ⟨rfl, k', rfl, g1, g2, g3⟩ := he
   exact fin φ σ2 none (weak φ σ2 h) k' a' .returning g1 g2 g3 rfl
  ·rename_i φ σ2 h1
   refine (Bn hd hc (fuel + 1)).1 c _ σ k _ _ h1 hI hg (B7 hr hl) _ (fun e a' w' he => ?_)
   obtain ⟨rfl, k', rfl, g1, g2, g3⟩ := he
   exact fin φ σ2 none (weak φ σ2 h) k' a' .returning g1 g2 g3 rfl
  ·rename_i x φ σ2 h1
   refine (Bn hd hc (fuel + 1)).1 c _ σ k _ _ h1 hI hg (B7 hr hl) _ (fun e a' w' he => ?_)
   obtain ⟨v, k', rfl, rfl, g1, g2, g3, g4⟩ := he
   exact fin φ σ2 (some x) h k' a' _ g1 g2 g3 ⟨v, rfl, g4⟩
  ·cases h
structure CallFact where
 f : FuncId
 args : List A
 σ : St
 x : A
 σ' : St
def Acm : Blk → Blk → Bool
 | .cells cs e, .cells cs' e' => beqs cs cs' && Nat.beq e e'
 | _, _ => false
def trB {α : Type} (b : α → α → Bool) : Tr α → Tr α → Bool
 | .nil, .nil => true
 | .node l v r, .node l' v' r' => (match v, v' with | none, none => true | some x, some y => b x y | _, _ => false) && (trB b l l' && trB b r r')
 | _, _ => false
def stB (σ τ : St) : Bool := Nat.beq σ.next τ.next && (Nat.beq σ.nextT τ.nextT && (trB Acm σ.blks τ.blks && trB Nat.beq σ.toks τ.toks))
theorem Ok {α : Type} {b : α → α → Bool} (hb : ∀ x y, b x y = true → x = y) : ∀ {t u : Tr α}, trB b t u = true → t = u
 | .nil, .nil, _ => rfl
 | .nil, .node .., h => by cases h
 | .node .., .nil, h => by cases h
 | .node l v r, .node l' v' r', h => by
  simp only [trB, Bool.and_eq_true] at h
  obtain ⟨h1, h2, h3⟩ := h
  rw [Ok hb h2, Ok hb h3]
  cases v <;> cases v' <;> first | rfl | (cases h1; done) | (rw [hb _ _ h1])
theorem Xe : ∀ x y, Acm x y = true → x = y
 | .cells cs e, .cells cs' e', h => by
  simp only [Acm, Bool.and_eq_true] at h
  rw [beqs_eq _ _ h.1, Nat.eq_of_beq_eq_true h.2]
 | .cells .., .siter .., h => by cases h
 | .cells .., .map .., h => by cases h
 | .siter .., _, h => by cases h
 | .map .., _, h => by cases h
 | .cells .., .miter .., h => by cases h
 | .miter .., _, h => by cases h
theorem Acn {σ τ : St} (h : stB σ τ = true) : σ = τ := by
 simp only [stB, Bool.and_eq_true] at h
 obtain ⟨h1, h2, h3, h4⟩ := h
 cases σ; cases τ
 simp only at h1 h2 h3 h4
 rw [Nat.eq_of_beq_eq_true h1, Nat.eq_of_beq_eq_true h2, Ok Xe h3, Ok (fun x y h => Nat.eq_of_beq_eq_true h) h4]
def callT (T : CallFact) (callF : CallF) : CallF := fun f args σ => bif Nat.beq f T.f && (beqs args T.args && stB σ T.σ) then some (.ret T.x, T.σ') else callF f args σ
theorem callT_ok {T : CallFact} (hT : CallPt C w0 T.f T.args T.σ (.ret T.x) T.σ') (hc : Bi C w0 callF) : Bi C w0 (callT T callF) := by
 intro f args σ out σ' k us h hI hg hr
 unfold callT at h
 cases hb : Nat.beq f T.f && (beqs args T.args && stB σ T.σ) with
 | false => rw [hb] at h; exact hc f args σ out σ' k us h hI hg hr
 | true =>
  rw [hb] at h
  simp only [Bool.and_eq_true] at hb
  cases h
  have e1 := Nat.eq_of_beq_eq_true hb.1
  have e2 := beqs_eq _ _ hb.2.1
  have e3 := Acn hb.2.2
  subst e1; subst e2; subst e3
  exact hT k us hI hg hr
theorem Ud {σ : St} {k : K} (hI : Inv w0 σ k) (hg : GlobOk C k) (hgp : ∀ g a, C.glob g = some a → Dg a = true) {f : FuncId} {args : List A} {us : List Value} {x : A} {σ1 : St}
  (h : CallPt C k.w f (stripL args) σ0 (.ret x) σ1) (ha : pureL (stripL args) = true) (hx : Dg (strip x) = true) (hr : RelL k args us) : Calls C.P f us.toArray k.w (OutPost w0 k (.ret (strip x)) σ) := by
 have same : ∀ c n, k.frz c = some n → ∃ n', n ≤ n' ∧ k.fresh.frz c = some n' := fun c n h => ⟨n, Nat.le_refl _, h⟩
 refine (h k.fresh us hI.fresh (fun g a e => (hg g a e).pure same (fun _ _ _ _ _ => rfl) (hgp g a e)) (hr.strip.pure same (fun _ _ _ _ _ => rfl) ha)).mono (fun e w' he => ?_)
 obtain ⟨k1, v, h1, h2, h3, h4, h5⟩ := he
 obtain ⟨g1, g2⟩ := hI.back h4
 exact ⟨k.back k1, v, h1, h2, g2, g1, h5.strip.pure (fun c n hf => ⟨n, Nat.le_refl _, Ln hI h3 hf⟩) (fun _ _ _ _ _ => rfl) hx⟩
def Cfg.add (C : Cfg) (f : FuncId) (lit : List A) (x : A) : Cfg := { C with prim := fun h => bif Nat.beq h f then some (fun args σ => bif beqs (stripL args) lit then some (x, σ) else none) else C.prim h }
def PrimsOk (C : Cfg) (G : World → Prop) : Prop := ∀ w, G w → PrimOk C w
theorem PrimsOk.add {G : World → Prop} (hG : ∀ w w', G w → Below w.heap.size w w' → G w') (hp : PrimsOk C G) (hgp : ∀ g a, C.glob g = some a → Dg a = true) {f : FuncId} {lit : List A} {x : A} {σ1 : St}
  (h : ∀ w, G w → CallPt C w f lit σ0 (.ret x) σ1) (ha : pureL lit = true) (hx : Dg (strip x) = true) : PrimsOk (C.add f lit (strip x)) G := by
 intro w hw f' g args σ σ' y k us hf hg hI hgl hr
 simp only [Cfg.add] at hf
 cases hb : Nat.beq f' f with
 | false =>
  rw [hb] at hf
  exact hp w hw f' g args σ σ' y k us hf hg hI hgl hr
 | true =>
  rw [hb] at hf
  have e1 := Nat.eq_of_beq_eq_true hb
  subst e1
  cases hf
  have hg : (bif beqs (stripL args) lit then some (strip x, σ) else none) = some (y, σ') := hg
  cases hq : beqs (stripL args) lit with
  | false => rw [hq] at hg; cases hg
  | true =>
   rw [hq] at hg
   cases hg
   have e2 := beqs_eq _ _ hq
   subst e2
   exact Ud (C := C) hI hgl hgp (h k.w (hG w k.w hw hI.below)) ha hx hr
end
end Go.DM
namespace Go.DM
open Go Go.RowKit
mutual
def sh (d : Nat) : A → A
 | .sp cs o _ => .sp (shL d cs) o .no
 | .sl sz cs _ => .sl sz (shL d cs) .no
 | .ifc t x => .ifc t (sh d x)
 | .agg cs => .agg (shL d cs)
 | .tup cs => .tup (shL d cs)
 | .fn f a c => .fn f (shL d a) (shL d c)
 | .v x => .v x
 | .ptr b o => .ptr (Nat.add b d) o
 | .ms b o len cap => .ms (Nat.add b d) o len cap
 | .mp b => .mp (Nat.add b d)
 | .raw _ _ => .junk
 | .junk => .junk
def shL (d : Nat) : List A → List A
 | [] => []
 | a :: r => sh d a :: shL d r
end
theorem Ol (d : Nat) : ∀ l : List A, shL d l = l.map (sh d)
 | [] => rfl
 | a :: r => by rw [shL, Ol d r]; rfl
theorem Dn (d : Nat) (l : List A) : (shL d l).length = l.length := by rw [Ol, List.length_map]
theorem D5 {d : Nat} {l : List A} {j : Nat} {a : A} (h : (shL d l)[j]? = some a) : ∃ b, l[j]? = some b ∧ a = sh d b := by
 rw [Ol, List.getElem?_map] at h
 cases hb : l[j]? with
 | none => rw [hb] at h; cases h
 | some b => rw [hb] at h; cases h; exact ⟨b, rfl, rfl⟩
theorem Rel.sh {k k' : K} {d : Nat} (hw : k'.w = k.w) (hb : ∀ b c, k.blk b = some c → k'.blk (Nat.add b d) = some c) (hf : ∀ c n, k.frz c = some n → k'.frz c = some n) {a : A} {v : Value} (hr : Rel k a v) : Rel k' (DM.sh d a) v := by
 induction hr with
 | v hs => exact .v hs
 | sp u hfz hl hcell hr hs ih =>
  rw [DM.sh]
  refine .sp u (hf _ _ hfz) (by rw [Dn]; exact hl) (fun j a ha => ?_) (fun j a ha => ?_) trivial
  ·obtain ⟨b, h1, h2⟩ := D5 ha; rw [hw]; exact hcell j b h1
  ·obtain ⟨b, h1, rfl⟩ := D5 ha; exact ih j b h1
 | @sl sz cs ap c i n cap u hfz hl hcell hr hz hm hcap hap ih =>
  rw [DM.sh]
  have := Rel.sl (k := k') (sz := sz) (cs := shL d cs) (ap := .no) (c := c) (i := i) (n := n) (cap := cap) u (hf _ _ hfz) (by rw [Dn]; exact hl)
   (fun j a ha => by obtain ⟨b, h1, h2⟩ := D5 ha; rw [hw]; exact hcell j b h1) (fun j a ha => by obtain ⟨b, h1, rfl⟩ := D5 ha; exact ih j b h1) hz (by rw [Dn]; exact hm) (by rw [Dn]; exact hcap) trivial
  rw [Dn] at this
  exact this
 | sl0 hz => rw [DM.sh, shL]; exact .sl0 hz
 | fn h1 h2 _ _ ih1 ih2 =>
  rw [DM.sh]
  refine .fn (by rw [Dn]; exact h1) (by rw [Dn]; exact h2) (fun j a u ha hu => ?_) (fun j a u ha hu => ?_)
  ·obtain ⟨b, g1, rfl⟩ := D5 ha; exact ih1 j b u g1 hu
  ·obtain ⟨b, g1, rfl⟩ := D5 ha; exact ih2 j b u g1 hu
 | ifc _ ih => rw [DM.sh]; exact .ifc ih
 | agg h1 _ ih =>
  rw [DM.sh]
  refine .agg (by rw [Dn]; exact h1) (fun j a u ha hu => ?_)
  obtain ⟨b, g1, rfl⟩ := D5 ha; exact ih j b u g1 hu
 | tup h1 _ ih =>
  rw [DM.sh]
  refine .tup (by rw [Dn]; exact h1) (fun j a u ha hu => ?_)
  obtain ⟨b, g1, rfl⟩ := D5 ha; exact ih j b u g1 hu
 | ptr h => rw [DM.sh]; exact .ptr (hb _ _ h)
 | ms h hl hx => rw [DM.sh]; exact .ms (hb _ _ h) hl hx
 | mv h hl hh hs => rw [DM.sh]; exact .mv (hb _ _ h) hl (by rw [hw]; exact hh) hs
 | mp h => rw [DM.sh]; exact .mp (hb _ _ h)
 | raw ho hc hl hm => rw [DM.sh]; exact .junk
 | junk => rw [DM.sh]; exact .junk
theorem RelL.sh {k k' : K} {d : Nat} (hw : k'.w = k.w) (hb : ∀ b c, k.blk b = some c → k'.blk (Nat.add b d) = some c) (hf : ∀ c n, k.frz c = some n → k'.frz c = some n) {l : List A} {us : List Value} (hr : RelL k l us) : RelL k' (shL d l) us :=
 ⟨by rw [Dn]; exact hr.1, fun j a u ha hu => by obtain ⟨b, h1, rfl⟩ := D5 ha; exact (hr.2 j b u h1 hu).sh hw hb hf⟩
def shE (d : Nat) : List (Value × A × Nat) → List (Value × A × Nat)
 | [] => []
 | e :: r => (e.1, sh d e.2.1, e.2.2) :: shE d r
def shB (d : Nat) : Blk → Blk
 | .cells cs e => .cells (shL d cs) e
 | .siter s p => .siter s p
 | .map es c => .map (shE d es) c
 | .miter m s l c => .miter (Nat.add m d) s l c
theorem S1 (d : Nat) : ∀ l, (shE d l).length = l.length
 | [] => rfl
 | e :: r => by rw [shE, List.length_cons, S1 d r, List.length_cons]
theorem S2 {d : Nat} : ∀ {l : List (Value × A × Nat)} {j : Nat} {e : Value × A × Nat}, (shE d l)[j]? = some e → ∃ e', l[j]? = some e' ∧ e = (e'.1, sh d e'.2.1, e'.2.2)
 | [], j, e, h => by simp [shE] at h
 | a :: r, 0, e, h => by simp [shE] at h; exact ⟨a, rfl, h.symm⟩
 | a :: r, j + 1, e, h => by
  rw [shE, List.getElem?_cons_succ] at h
  obtain ⟨e', h1, h2⟩ := S2 h
  exact ⟨e', by rw [List.getElem?_cons_succ]; exact h1, h2⟩
theorem BlkRel.sh {k k' : K} {d : Nat} (hw : k'.w = k.w) (hb : ∀ b c, k.blk b = some c → k'.blk (Nat.add b d) = some c) (hf : ∀ c n, k.frz c = some n → k'.frz c = some n) {x : Blk} {o : Obj} (hr : BlkRel k x o) : BlkRel k' (shB d x) o := by
 cases x with
 | cells cs e => obtain ⟨us, ws, e', h1, h2, h3⟩ := hr; exact ⟨us, ws, e', h1, h2, h3.sh hw hb hf⟩
 | siter s p => exact hr
 | map es c =>
  obtain ⟨fs, h1, h2, h3⟩ := hr
  refine ⟨fs, h1, by rw [S1]; exact h2, fun j e f he hf' => ?_⟩
  obtain ⟨e', g1, rfl⟩ := S2 he
  obtain ⟨a, b, c⟩ := h3 j e' f g1 hf'
  exact ⟨a, b, c.sh hw hb hf⟩
 | miter m s l c => obtain ⟨c', h1, h2⟩ := hr; exact ⟨c', hb _ _ h1, h2⟩
def Lp (d : Nat) (t1 : Tr Blk) : List Nat → Tr Blk → Tr Blk
 | [], t => t
 | b :: r, t => match t1.get b with
  | some x => (Lp d t1 r t).set (Nat.add b d) (shB d x)
  | none => Lp d t1 r t
def Iy (σ σ1 : St) (keys : List Nat) : St := ⟨Lp σ.next σ1.blks keys σ.blks, Nat.add σ.next σ1.next, σ.toks, σ.nextT⟩
theorem Jt {d : Nat} {t1 t : Tr Blk} : ∀ {l : List Nat} {b : Nat} {x : Blk}, (Lp d t1 l t).get b = some x → t.get b = some x ∨ ∃ y, d ≤ b ∧ t1.get (b - d) = some y ∧ x = shB d y
 | [], b, x, h => .inl h
 | a :: r, b, x, h => by
  rw [Lp] at h
  split at h
  ·rename_i y hy
   rw [Tr.get_set] at h
   split at h
   ·rename_i hba
    cases h
    have : Nat.add a d = a + d := rfl
    have hq : b - d = a := by omega
    exact .inr ⟨y, by omega, by rw [hq]; exact hy, rfl⟩
   ·exact Jt h
  ·exact Jt h
theorem Ju {d : Nat} {t1 t : Tr Blk} : ∀ {l : List Nat} {b : Nat}, b < d → (Lp d t1 l t).get b = t.get b
 | [], b, h => rfl
 | a :: r, b, h => by
  rw [Lp]
  split
  ·rw [Tr.get_set, if_neg (by have : Nat.add a d = a + d := rfl; omega)]; exact Ju h
  ·exact Ju h
def K.join (k k1 : K) (n : Nat) : K := { k with w := k1.w, blk := fun b => if b < n then k.blk b else k1.blk (b - n), frz := fun c => if c < k.w.heap.size then k.frz c else k1.frz c }
section
variable {w0 : World} {σ : St} {k : K}
theorem P4 (h : Inv w0 σ k) {k1 : K} (hle : k.fresh.le k1) {c n m : Nat} (hf : k1.frz c = some n) : (k.join k1 m).frz c = some n := Ln h hle hf
theorem Inv.join (h : Inv w0 σ k) {σ1 : St} {k1 : K} (hfl : k.fresh.le k1) (h1 : Inv k.w σ1 k1) (keys : List Nat) : Inv w0 (Iy σ σ1 keys) (k.join k1 σ.next) ∧ k.le (k.join k1 σ.next) := by
 have hb := h1.below
 have hlow : ∀ {b c}, k.blk b = some c → b < σ.next := fun {b c} e => by
  rcases Nat.lt_or_ge b σ.next with g | g
  ·exact g
  ·rw [h.next b g] at e; cases e
 have hlt : ∀ {c n}, k.frz c = some n → (k.join k1 σ.next).frz c = some n := fun {c n} hf => by simp only [K.join, if_pos (h.frz_lt hf)]; exact hf
 have hblk : ∀ {b c}, k.blk b = some c → (k.join k1 σ.next).blk b = some c := fun {b c} e => by simp only [K.join, if_pos (hlow e)]; exact e
 have hunk : ∀ {c o}, k.unk c o → k1.unk c o := fun {c o} hu => hfl.unk c o ⟨hu.1, fun b e => by simp [K.fresh] at e, hu.2.2⟩
 have hnb : ∀ {b c}, k1.blk b = some c → k.w.heap.size ≤ c ∨ ∃ n, k.frz c = some n := fun {b c} e => by
  rcases Nat.lt_or_ge c k.w.heap.size with g | g
  ·right
   cases hk : k.frz c with
   | some n => exact ⟨n, rfl⟩
   | none =>
    have hh : k.w.heap[c]? = some k.w.heap[c] := Array.getElem?_eq_getElem g
    exact absurd e ((hfl.unk c _ ⟨hh, fun b e => by simp [K.fresh] at e, hk⟩).2.1 b)
  ·exact .inl g
 have hle : k.le (k.join k1 σ.next) := K.le_of h _ rfl (fun _ _ e => hblk e) (fun c n hf => hlt hf) (fun _ _ h => h) (fun _ _ _ h => h) (fun id c h _ => ⟨id, h⟩) (fun c n hf => hb.block c (h.frz_lt hf))
  (fun c o hu => ⟨(hb.block c (Ad hu.1)).trans hu.1, fun b => by
   simp only [K.join]
   split
   ·exact hu.2.1 b
   ·exact (hunk hu).2.1 _, by simp only [K.join, if_pos (Ad hu.1)]; exact hu.2.2⟩) (fun c cs e fr hh => ⟨cs, fr, (hb.block c (Ad hh)).trans hh, rfl⟩)
 have hold : ∀ {b x}, (Iy σ σ1 keys).blks.get b = some x → b < σ.next → σ.blks.get b = some x := fun {b x} e hbn => by
  simp only [Iy, Ju hbn] at e; exact e
 have hnew : ∀ {b x}, (Iy σ σ1 keys).blks.get b = some x → ¬ b < σ.next → ∃ y, σ1.blks.get (b - σ.next) = some y ∧ x = shB σ.next y := fun {b x} e hbn => by
  rcases Jt e with g | ⟨y, _, g2, g3⟩
  ·obtain ⟨c, o, g1, _⟩ := h.blk b x g
   exact absurd (hlow g1) hbn
  ·exact ⟨y, g2, g3⟩
 have hsh : ∀ b c, k1.blk b = some c → (k.join k1 σ.next).blk (Nat.add b σ.next) = some c := fun b c e => by
  have : Nat.add b σ.next = b + σ.next := rfl
  simp only [K.join, this]
  rw [if_neg (by omega), Nat.add_sub_cancel]; exact e
 have hfz : ∀ c n, k1.frz c = some n → (k.join k1 σ.next).frz c = some n := fun c n e => P4 h hfl e
 refine ⟨⟨h.base, h.below.trans (hb.mono h.below.size), fun b x hx => ?_, fun b hbn => ?_, fun b c hc => ?_, fun b b' c x x' hx hx' hc hc' => ?_, fun c n hf => ?_, fun id e ht => ?_, h.tnext, fun id c ho => ?_, h.tinj, h.liv⟩, hle⟩
 ·by_cases hbn : b < σ.next
  ·obtain ⟨c, o, g1, g2, g3, g4, g5⟩ := h.blk b x (hold hx hbn)
   exact ⟨c, o, hblk g1, g2, by simp only [K.join, if_pos (Ad g4)]; exact g3, (hb.block c (Ad g4)).trans g4, g5.mono hle⟩
  ·obtain ⟨y, g0, rfl⟩ := hnew hx hbn
   obtain ⟨c, o, g1, g2, g3, g4, g5⟩ := h1.blk _ y g0
   refine ⟨c, o, by simp only [K.join, if_neg hbn]; exact g1, Nat.le_trans h.below.size g2, by simp only [K.join, if_neg (Nat.not_lt.2 g2)]; exact g3, g4, BlkRel.sh (k := k1) (k' := k.join k1 σ.next) rfl hsh hfz g5⟩
 ·have : Nat.add σ.next σ1.next = σ.next + σ1.next := rfl
  simp only [Iy, this] at hbn
  simp only [K.join]
  rw [if_neg (by omega)]
  exact h1.next _ (by omega)
 ·simp only [K.join] at hc
  split at hc
  ·exact Nat.lt_of_lt_of_le (h.dom b c hc) hb.size
  ·exact h1.dom _ c hc
 ·have low : ∀ {b c x}, (Iy σ σ1 keys).blks.get b = some x → ¬ b < σ.next → (k.join k1 σ.next).blk b = some c → k.w.heap.size ≤ c := fun {b c x} hx hbn hc => by
   obtain ⟨y, g0, rfl⟩ := hnew hx hbn
   obtain ⟨c', o, g1, g2, _⟩ := h1.blk _ y g0
   simp only [K.join, if_neg hbn] at hc
   rw [hc] at g1; cases g1; exact g2
  by_cases hbn : b < σ.next <;> by_cases hbn' : b' < σ.next
  ·simp only [K.join, if_pos hbn] at hc
   simp only [K.join, if_pos hbn'] at hc'
   exact h.inj b b' c x x' (hold hx hbn) (hold hx' hbn') hc hc'
  ·have g := low hx' hbn' hc'
   simp only [K.join, if_pos hbn] at hc
   exact absurd (h.dom b c hc) (by omega)
  ·have g := low hx hbn hc
   simp only [K.join, if_pos hbn'] at hc'
   exact absurd (h.dom b' c hc') (by omega)
  ·obtain ⟨y, g0, rfl⟩ := hnew hx hbn
   obtain ⟨y', g0', rfl⟩ := hnew hx' hbn'
   simp only [K.join, if_neg hbn] at hc
   simp only [K.join, if_neg hbn'] at hc'
   have := h1.inj _ _ c y y' g0 g0' hc hc'
   omega
 ·simp only [K.join] at hf
  split at hf
  ·obtain ⟨cs, e, fr, g1, g2⟩ := h.frz c n hf
   exact ⟨cs, e, fr, (hb.block c (Ad g1)).trans g1, g2⟩
  ·exact h1.frz c n hf
 ·obtain ⟨hl, c, m, cs, lo, hi, g1, g2, g3, g4, g5⟩ := h.tok id e ht
  exact ⟨hl, c, m, cs, lo, hi, g1, g2, hlt g3, (hb.block c (Ad g4)).trans g4, g5⟩
 ·obtain ⟨n, hn⟩ := h.odom id c ho
  exact ⟨n, hlt hn⟩
theorem Xf {C : Cfg} (hI : Inv w0 σ k) (hg : GlobOk C k) (hgp : ∀ g a, C.glob g = some a → Dg a = true) {f : FuncId} {args : List A} {us : List Value} {x : A} {σ1 : St} (keys : List Nat)
  (h : CallPt C k.w f (stripL args) σ0 (.ret x) σ1) (ha : pureL (stripL args) = true) (hr : RelL k args us) : Calls C.P f us.toArray k.w (OutPost w0 k (.ret (sh σ.next x)) (Iy σ σ1 keys)) := by
 have same : ∀ c n, k.frz c = some n → ∃ n', n ≤ n' ∧ k.fresh.frz c = some n' := fun c n h => ⟨n, Nat.le_refl _, h⟩
 refine (h k.fresh us hI.fresh (fun g a e => (hg g a e).pure same (fun _ _ _ _ _ => rfl) (hgp g a e)) (hr.strip.pure same (fun _ _ _ _ _ => rfl) ha)).mono (fun e w' he => ?_)
 obtain ⟨k1, v, h1, h2, h3, h4, h5⟩ := he
 obtain ⟨g1, g2⟩ := hI.join h3 h4 keys
 refine ⟨k.join k1 σ.next, v, h1, h2, g2, g1, Rel.sh (k := k1) (k' := k.join k1 σ.next) rfl (fun b c e => ?_) (fun c n e => P4 hI h3 e) h5⟩
 have : Nat.add b σ.next = b + σ.next := rfl
 simp only [K.join, this]
 rw [if_neg (by omega), Nat.add_sub_cancel]; exact e
end
def Cfg.addH (C : Cfg) (f : FuncId) (lit : List A) (x : A) (σ1 : St) (keys : List Nat) : Cfg := { C with prim := fun h => bif Nat.beq h f then some (fun args σ => bif beqs (stripL args) lit then some (sh σ.next x, Iy σ σ1 keys) else none) else C.prim h }
theorem PrimsOk.addH {C : Cfg} {G : World → Prop} (hG : ∀ w w', G w → Below w.heap.size w w' → G w') (hp : PrimsOk C G) (hgp : ∀ g a, C.glob g = some a → Dg a = true) {f : FuncId} {lit : List A} {x : A} {σ1 : St} (keys : List Nat)
  (h : ∀ w, G w → CallPt C w f lit σ0 (.ret x) σ1) (ha : pureL lit = true) : PrimsOk (C.addH f lit x σ1 keys) G := by
 intro w hw f' g args σ σ' y k us hf hg hI hgl hr
 simp only [Cfg.addH] at hf
 cases hb : Nat.beq f' f with
 | false =>
  rw [hb] at hf
  exact hp w hw f' g args σ σ' y k us hf hg hI hgl hr
 | true =>
  rw [hb] at hf
  have e1 := Nat.eq_of_beq_eq_true hb
  subst e1
  cases hf
  have hg : (bif beqs (stripL args) lit then some (sh σ.next x, Iy σ σ1 keys) else none) = some (y, σ') := hg
  cases hq : beqs (stripL args) lit with
  | false => rw [hq] at hg; cases hg
  | true =>
   rw [hq] at hg
   cases hg
   have e2 := beqs_eq _ _ hq
   subst e2
   exact Xf (C := C) hI hgl hgp keys (h k.w (hG w k.w hw hI.below)) ha hr
end Go.DM
