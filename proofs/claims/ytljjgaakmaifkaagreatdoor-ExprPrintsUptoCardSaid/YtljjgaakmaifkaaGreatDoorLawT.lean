/- The plain law of expr: names, normal sums, values. Condition: at most 2^20 values and letters. -/
import Derived.Test.YtljjgaakmaifkaaGreatDoorDmF
import Derived.Test.YtljjgaakmaifkaaGreatDoorWalkT3
import Derived.Lib.AtoiAllCases
import Derived.Lib.ItoaLen
import Derived.Lib.ItoaMem
namespace Go.DM
open Go

/-! strings by order -/
theorem bless_eq : ∀ (x y : List UInt8), Op.bytesLess x y = decide (x < y)
  | [], [] => by simp [Op.bytesLess]
  | _ :: _, [] => by simp [Op.bytesLess]
  | [], _ :: _ => by simp [Op.bytesLess]
  | a :: x, b :: y => by
    rw [Op.bytesLess, bless_eq x y, Bool.eq_iff_iff]
    simp [List.cons_lt_cons_iff]
theorem strLt_eq (s t : ByteArray) : strLt s t = decide (s.data.toList < t.data.toList) := by
  unfold strLt
  rw [bless_eq, Lib.toList_data, Lib.toList_data]
theorem ba_inj {s t : ByteArray} (h : s.data.toList = t.data.toList) : s = t := by
  obtain ⟨⟨a⟩⟩ := s
  obtain ⟨⟨b⟩⟩ := t
  simp at h; subst h; rfl
theorem strLe_not (s t : ByteArray) : strLe s t = !strLt t s := by
  unfold strLe
  rw [strLt_eq, bless_eq, Lib.toList_data, Lib.toList_data]
  by_cases h : t.data.toList < s.data.toList
  · have h1 : ¬ s.data.toList < t.data.toList := fun c => List.lt_asymm h c
    have h2 : s.data.toList ≠ t.data.toList := fun c => by rw [c] at h; exact List.lt_irrefl _ h
    rw [decide_eq_true h, decide_eq_false h1, beq_false_of_ne h2]; rfl
  · rw [decide_eq_false h]
    by_cases h2 : s.data.toList = t.data.toList
    · rw [h2]; simp
    · have : s.data.toList < t.data.toList := by
        have h3 : s.data.toList ≤ t.data.toList := List.not_lt.1 h
        rcases Decidable.em (s.data.toList < t.data.toList) with h4 | h4
        · exact h4
        · exact absurd (List.le_antisymm h3 (List.not_lt.1 h4)) h2
      rw [decide_eq_true this]; rfl
theorem strLt_trans {a b c : ByteArray} (h : strLt a b = true) (g : strLt b c = true) : strLt a c = true := by
  rw [strLt_eq, decide_eq_true_eq] at *
  exact List.lt_trans h g
theorem strLt_irr (a : ByteArray) : strLt a a = false := by
  rw [strLt_eq, decide_eq_false_iff_not]; exact List.lt_irrefl _

/-! loops that look for one -/
theorem any_loop {β : Type} (f : Nat → Int → Option β) (p : Nat → Bool) (len : Nat) (out stop : β)
    (hf : ∀ m y, y ≤ len → f (m + 1) (y : Int) = if y < len then (if p y = true then some stop else f m ((y + 1 : Nat) : Int)) else some out) :
    ∀ (k y m : Nat), len - y ≤ k → k < m → y ≤ len → f m (y : Int) = some (cond ((List.range' y (len - y)).any p) stop out) := by
  intro k
  induction k with
  | zero =>
    intro y m hk hm hy
    obtain ⟨m, rfl⟩ : ∃ m', m = m' + 1 := ⟨m - 1, by omega⟩
    rw [hf m y hy, if_neg (by omega), show len - y = 0 by omega]
    rfl
  | succ k ih =>
    intro y m hk hm hy
    obtain ⟨m, rfl⟩ : ∃ m', m = m' + 1 := ⟨m - 1, by omega⟩
    rw [hf m y hy]
    by_cases hlt : y < len
    · rw [if_pos hlt, show len - y = (len - (y + 1)) + 1 by omega, List.range'_succ, List.any_cons]
      by_cases hp : p y = true
      · rw [if_pos hp, hp]; rfl
      · rw [if_neg hp, ih (y + 1) m (by omega) (by omega) (by omega)]
        have : p y = false := by simpa using hp
        rw [this, Bool.false_or]
    · rw [if_neg hlt, show len - y = 0 by omega]; rfl
theorem any_range {p : Nat → Bool} {y k : Nat} : (List.range' y k).any p = true ↔ ∃ i, y ≤ i ∧ i < y + k ∧ p i = true := by
  rw [List.any_eq_true]
  constructor
  · rintro ⟨i, hi, hp⟩
    rw [List.mem_range'_1] at hi
    exact ⟨i, hi.1, hi.2, hp⟩
  · rintro ⟨i, h1, h2, h3⟩
    exact ⟨i, List.mem_range'_1.2 ⟨h1, h2⟩, h3⟩

/-! names -/
def letB (c : Int) : Bool := (((((decide (c ≥ 65)) && (decide (c ≤ 90))) || ((decide (c ≥ 97)) && (decide (c ≤ 122)))) || (c == 95)) || (c == 46)) || (c == 36)
def digE (c : Int) : Bool := (decide (c ≥ 48)) && (decide (c ≤ 57))
theorem letE_eq (n : Nat) (c : Int) : gexpr_letter n c = some (letB c) := rfl
theorem digE_eq (n : Nat) (c : Int) : gexpr_digit n c = some (digE c) := rfl
theorem letR_eq (n : Nat) (c : Int) : gdovetailref12_Letter n c = some (letB c) := rfl
theorem digR_eq (n : Nat) (c : Int) : gdovetailref12_Digit n c = some (digE c) := rfl
def chr (s : ByteArray) (i : Nat) : Int := (bs s).getD i 0
theorem atS_chr {s : ByteArray} {i : Nat} (h : i < s.size) : atS s (i : Int) = some (chr s i) := by
  rw [atS_bs]
  have : i < (bs s).length := by rw [bs_length]; exact h
  simp [chr, this]
def badE (s : ByteArray) (i : Nat) : Bool := !letB (chr s i) && (i == 0 || !digE (chr s i))
def badR (s : ByteArray) (i : Nat) : Bool := !letB (chr s i) && !digE (chr s i)
def nameE (s : ByteArray) : Bool := !decide (s = ByteArray.mk #[]) && !(List.range' 0 s.size).any (badE s)
theorem empty_size {s : ByteArray} : s = ByteArray.mk #[] ↔ s.size = 0 := by
  rw [← bs_nil, ← bs_length, List.length_eq_zero_iff]
theorem nat_beq0 (y : Nat) : ((y : Int) == 0) = (y == 0) := by
  rw [Bool.eq_iff_iff, beq_iff_eq, beq_iff_eq]; omega
theorem name_eqE (n : Nat) (s : ByteArray) (hs : s.size ≤ 2097152) (hn : s.size < n) : gexpr_name n s = some (nameE s) := by
  have key := any_loop (fun m z => gexpr_name_L1 n s m z) (badE s) s.size (.out ()) (.ret false) (fun m z hz => ?_) s.size 0 n (by omega) hn (by omega)
  · unfold gexpr_name nameE
    rw [show (0 : Int) = ((0 : Nat) : Int) from rfl]
    simp only [Nat.sub_zero] at key
    rw [key]
    by_cases he : s = ByteArray.mk #[]
    · have : s.size = 0 := empty_size.1 he
      rw [decide_eq_true he, this]; rfl
    · rw [decide_eq_false he]
      cases (List.range' 0 s.size).any (badE s) <;> rfl
  · show gexpr_name_L1 n s (m + 1) (z : Int) = _
    rw [gexpr_name_L1]
    by_cases hlt : z < s.size
    · rw [if_pos hlt, decide_eq_true (by omega : (z : Int) < (s.size : Nat)), atS_chr hlt]
      simp only [cond_true, Option.bind_some, letE_eq, digE_eq, nat_beq0]
      rw [w64_succ (by omega)]
      unfold badE
      cases letB (chr s z) <;> cases digE (chr s z) <;> cases (z == 0) <;> rfl
    · rw [if_neg hlt, decide_eq_false (by omega)]; rfl
theorem name_eqR (n : Nat) (s : ByteArray) (hs : s.size ≤ 2097152) (hn : s.size < n) : gdovetailref12_Name n s = some (nameE s) := by
  unfold gdovetailref12_Name nameE
  by_cases he : s = ByteArray.mk #[]
  · rw [decide_eq_true he]; rfl
  have hsz : 0 < s.size := by have := mt empty_size.2 he; omega
  have key := any_loop (fun m z => gdovetailref12_Name_L1 n s m z) (badR s) s.size (.out ()) (.ret false) (fun m z hz => ?_) s.size 1 n (by omega) hn (by omega)
  · rw [decide_eq_false he, show (0 : Int) = ((0 : Nat) : Int) from rfl, atS_chr hsz]
    simp only [cond_false, Option.bind_some, letR_eq, Bool.not_false, Bool.true_and]
    rw [show (1 : Int) = ((1 : Nat) : Int) from rfl, key]
    have hq : (List.range' 0 s.size).any (badE s) = (!letB (chr s 0) || (List.range' 1 (s.size - 1)).any (badR s)) := by
      rw [Bool.eq_iff_iff, Bool.or_eq_true, any_range, any_range]
      constructor
      · rintro ⟨i, _, h2, h3⟩
        by_cases hi : i = 0
        · subst hi
          left
          simp only [badE, beq_self_eq_true, Bool.true_or, Bool.and_true] at h3; exact h3
        · right
          refine ⟨i, by omega, by omega, ?_⟩
          simp only [badE, beq_false_of_ne hi, Bool.false_or] at h3; exact h3
      · rintro (h | ⟨i, h1, h2, h3⟩)
        · exact ⟨0, by omega, by omega, by simp [badE, h]⟩
        · exact ⟨i, by omega, by omega, by simp only [badE, beq_false_of_ne (show i ≠ 0 by omega), Bool.false_or]; exact h3⟩
    rw [hq]
    cases letB (chr s 0)
    · rfl
    · cases (List.range' 1 (s.size - 1)).any (badR s) <;> rfl
  · show gdovetailref12_Name_L1 n s (m + 1) (z : Int) = _
    rw [gdovetailref12_Name_L1]
    by_cases hlt : z < s.size
    · rw [if_pos hlt, decide_eq_true (by omega : (z : Int) < (s.size : Nat)), atS_chr hlt]
      simp only [cond_true, Option.bind_some, letR_eq, digR_eq]
      rw [w64_succ (by omega)]
      unfold badR
      cases letB (chr s z) <;> cases digE (chr s z) <;> rfl
    · rw [if_neg hlt, decide_eq_false (by omega)]; rfl

/-! normal sums -/
def sym (a : TLin) (i : Nat) : ByteArray := a.f_Syms.getD i (ByteArray.mk #[])
def tim (a : TLin) (i : Nat) : Int := a.f_Times.getD i 0
def badS (a : TLin) (i : Nat) : Bool := !nameE (sym a i) || (decide (0 < i) && !strLt (sym a (i - 1)) (sym a i))
def normE (a : TLin) : Bool := decide (a.f_Syms.length = a.f_Times.length) && decide (a.f_Syms.length ≤ 16) && !(List.range' 0 a.f_Times.length).any (fun i => tim a i == 0) && !(List.range' 0 a.f_Syms.length).any (badS a)
/-- how much a sum holds -/
structure Fits (a : TLin) : Prop where
  len : a.f_Syms.length ≤ 1048576
  lent : a.f_Times.length ≤ 1048576
  sizes : ∀ s ∈ a.f_Syms, s.size ≤ 1048576
theorem atL_sym {a : TLin} {i : Nat} (h : i < a.f_Syms.length) : atL a.f_Syms (i : Int) = some (sym a i) := by
  rw [atL_nat]; simp [sym, h]
theorem atL_tim {a : TLin} {i : Nat} (h : i < a.f_Times.length) : atL a.f_Times (i : Int) = some (tim a i) := by
  rw [atL_nat]; simp [tim, h]
theorem sym_mem {a : TLin} {i : Nat} (h : i < a.f_Syms.length) : sym a i ∈ a.f_Syms := by
  simp [sym, h]
theorem pos_dec (z : Nat) : decide ((z : Int) > 0) = decide (0 < z) := by
  rw [Bool.eq_iff_iff, decide_eq_true_eq, decide_eq_true_eq]; omega
theorem contains0 (n : Nat) (l : List Int) (hl : l.length ≤ 1048576) (hn : l.length < n) : gslices_Contains_27 n l 0 = some ((List.range' 0 l.length).any fun i => l.getD i 0 == 0) := by
  have key : ∀ (k y m : Nat), l.length - y ≤ k → k < m → y ≤ l.length → ∃ r, gslices_Index_36_L1 n l 0 m (y : Int) = some r ∧ ((r = .out () ∧ (List.range' y (l.length - y)).any (fun i => l.getD i 0 == 0) = false) ∨ ∃ j : Nat, r = .ret (j : Int) ∧ (List.range' y (l.length - y)).any (fun i => l.getD i 0 == 0) = true) := by
    intro k
    induction k with
    | zero =>
      intro y m hk hm hy
      obtain ⟨m, rfl⟩ : ∃ m', m = m' + 1 := ⟨m - 1, by omega⟩
      rw [gslices_Index_36_L1, decide_eq_false (by omega), show l.length - y = 0 by omega]
      exact ⟨_, rfl, .inl ⟨rfl, rfl⟩⟩
    | succ k ih =>
      intro y m hk hm hy
      obtain ⟨m, rfl⟩ : ∃ m', m = m' + 1 := ⟨m - 1, by omega⟩
      rw [gslices_Index_36_L1]
      by_cases hlt : y < l.length
      · rw [decide_eq_true (by omega : (y : Int) < (l.length : Nat)), atL_nat, show l.length - y = (l.length - (y + 1)) + 1 by omega, List.range'_succ, List.any_cons]
        have hg : l[y]? = some (l.getD y 0) := by simp [hlt]
        rw [hg]
        simp only [cond_true, Option.bind_some]
        cases hz : l.getD y 0 == 0
        · have hz' : ((0 : Int) == l.getD y 0) = false := by rw [beq_eq_false_iff_ne] at hz ⊢; exact fun e => hz e.symm
          rw [hz', cond_false, w64_succ (by omega), Bool.false_or]
          exact ih (y + 1) m (by omega) (by omega) (by omega)
        · have hz' : ((0 : Int) == l.getD y 0) = true := by rw [beq_iff_eq] at hz ⊢; exact hz.symm
          rw [hz', cond_true, Bool.true_or]
          exact ⟨_, rfl, .inr ⟨y, rfl, rfl⟩⟩
      · rw [decide_eq_false (by omega), show l.length - y = 0 by omega]
        exact ⟨_, rfl, .inl ⟨rfl, rfl⟩⟩
  unfold gslices_Contains_27 gslices_Index_36
  obtain ⟨r, h1, h2⟩ := key l.length 0 n (by omega) hn (by omega)
  rw [show (0 : Int) = ((0 : Nat) : Int) from rfl] at h1 ⊢
  simp only [Int.natCast_zero] at h1 ⊢
  rw [h1]
  simp only [Nat.sub_zero] at h2
  rcases h2 with ⟨rfl, h2⟩ | ⟨j, rfl, h2⟩
  · rw [h2]; rfl
  · rw [h2]
    simp only [Option.bind_some]
    rw [decide_eq_true (by omega : (j : Int) ≥ 0)]
theorem norm_eqE (n : Nat) (a : TLin) (hf : Fits a) (hn : 1048580 < n) : gexpr_normal n a = some (normE a) := by
  unfold gexpr_normal normE
  rw [contains0 n a.f_Times hf.lent (by have := hf.lent; omega)]
  have h1 : (((a.f_Syms.length : Nat) : Int) != ((a.f_Times.length : Nat) : Int)) = !decide (a.f_Syms.length = a.f_Times.length) := by
    rw [Bool.eq_iff_iff, bne_iff_ne, Bool.not_eq_true', decide_eq_false_iff_not]; omega
  have h2 : decide (((a.f_Syms.length : Nat) : Int) > 16) = !decide (a.f_Syms.length ≤ 16) := by
    rw [Bool.eq_iff_iff, decide_eq_true_eq, Bool.not_eq_true', decide_eq_false_iff_not]; omega
  rw [h1, h2]
  cases hA : decide (a.f_Syms.length = a.f_Times.length)
  · rfl
  cases hB : decide (a.f_Syms.length ≤ 16)
  · rfl
  simp only [decide_eq_true_eq] at hA hB
  have h3 : (fun i => a.f_Times.getD i 0 == 0) = (fun i => tim a i == 0) := rfl
  rw [h3]
  cases hC : (List.range' 0 a.f_Times.length).any (fun i => tim a i == 0)
  case true => rfl
  have key := any_loop (fun m z => gexpr_normal_L1 n a m z) (badS a) a.f_Syms.length (.out ()) (.ret false) (fun m z hz => ?_) a.f_Syms.length 0 n (by omega) (by omega) (by omega)
  · simp only [Nat.sub_zero, Int.natCast_zero] at key
    simp only [Bool.not_true, Bool.or_self, cond_false, Option.bind_some, Bool.not_false, Bool.and_self, Bool.true_and]
    rw [key]
    cases (List.range' 0 a.f_Syms.length).any (badS a) <;> rfl
  · show gexpr_normal_L1 n a (m + 1) (z : Int) = _
    rw [gexpr_normal_L1]
    by_cases hlt : z < a.f_Syms.length
    · rw [if_pos hlt, decide_eq_true (by omega : (z : Int) < (a.f_Syms.length : Nat)), atL_sym hlt]
      simp only [cond_true, Option.bind_some, pos_dec]
      have hsz := hf.sizes _ (sym_mem hlt)
      rw [name_eqE n _ (by omega) (by omega), w64_succ (by omega)]
      unfold badS
      cases nameE (sym a z)
      · rfl
      · by_cases hz0 : 0 < z
        · rw [decide_eq_true hz0, w64 (by omega) (by omega), show (z : Int) - 1 = ((z - 1 : Nat) : Int) by omega, atL_sym (by omega)]
          simp only [Option.bind_some, cond_true, cond_false, Bool.not_true, Bool.false_or, Bool.true_and, strLe_not]
          cases strLt (sym a (z - 1)) (sym a z) <;> rfl
        · rw [decide_eq_false hz0]; rfl
    · rw [if_neg hlt, decide_eq_false (by omega)]; rfl
theorem norm_eqR (n : Nat) (a : TLin) (hf : Fits a) (hn : 1048580 < n) : gdovetailref12_Normal n a = some (normE a) := by
  unfold gdovetailref12_Normal normE
  have h1 : (((a.f_Syms.length : Nat) : Int) != ((a.f_Times.length : Nat) : Int)) = !decide (a.f_Syms.length = a.f_Times.length) := by
    rw [Bool.eq_iff_iff, bne_iff_ne, Bool.not_eq_true', decide_eq_false_iff_not]; omega
  have h2 : decide (((a.f_Syms.length : Nat) : Int) > 16) = !decide (a.f_Syms.length ≤ 16) := by
    rw [Bool.eq_iff_iff, decide_eq_true_eq, Bool.not_eq_true', decide_eq_false_iff_not]; omega
  rw [h1, h2]
  cases hA : decide (a.f_Syms.length = a.f_Times.length)
  · rfl
  cases hB : decide (a.f_Syms.length ≤ 16)
  · rfl
  simp only [decide_eq_true_eq] at hA hB
  have key := any_loop (fun m z => gdovetailref12_Normal_L1 n a m z) (fun i => (tim a i == 0) || badS a i) a.f_Syms.length (.out ()) (.ret false) (fun m z hz => ?_) a.f_Syms.length 0 n (by omega) (by omega) (by omega)
  · simp only [Nat.sub_zero, Int.natCast_zero] at key
    simp only [Bool.not_true, Bool.or_self, cond_false, Bool.and_self, Bool.true_and]
    rw [key]
    have hq : (List.range' 0 a.f_Syms.length).any (fun i => (tim a i == 0) || badS a i) = ((List.range' 0 a.f_Times.length).any (fun i => tim a i == 0) || (List.range' 0 a.f_Syms.length).any (badS a)) := by
      rw [← hA, Bool.eq_iff_iff, Bool.or_eq_true, any_range, any_range, any_range]
      constructor
      · rintro ⟨i, g1, g2, g3⟩
        rw [Bool.or_eq_true] at g3
        rcases g3 with g3 | g3
        · exact .inl ⟨i, g1, g2, g3⟩
        · exact .inr ⟨i, g1, g2, g3⟩
      · rintro (⟨i, g1, g2, g3⟩ | ⟨i, g1, g2, g3⟩)
        · exact ⟨i, g1, g2, by rw [g3]; rfl⟩
        · exact ⟨i, g1, g2, by rw [g3, Bool.or_true]⟩
    rw [hq]
    cases (List.range' 0 a.f_Times.length).any (fun i => tim a i == 0) <;> cases (List.range' 0 a.f_Syms.length).any (badS a) <;> rfl
  · show gdovetailref12_Normal_L1 n a (m + 1) (z : Int) = _
    rw [gdovetailref12_Normal_L1]
    by_cases hlt : z < a.f_Syms.length
    · rw [if_pos hlt, decide_eq_true (by omega : (z : Int) < (a.f_Syms.length : Nat)), atL_sym hlt, atL_tim (by omega)]
      simp only [cond_true, Option.bind_some, pos_dec]
      have hsz := hf.sizes _ (sym_mem hlt)
      rw [name_eqR n _ (by omega) (by omega), w64_succ (by omega)]
      unfold badS
      cases nameE (sym a z)
      · cases (tim a z == 0) <;> rfl
      · cases (tim a z == 0)
        · by_cases hz0 : 0 < z
          · rw [decide_eq_true hz0, w64 (by omega) (by omega), show (z : Int) - 1 = ((z - 1 : Nat) : Int) by omega, atL_sym (by omega)]
            simp only [Option.bind_some, cond_true, cond_false, Bool.not_true, Bool.false_or, Bool.true_and]
            cases strLt (sym a (z - 1)) (sym a z) <;> rfl
          · rw [decide_eq_false hz0]; rfl
        · rfl
    · rw [if_neg hlt, decide_eq_false (by omega)]; rfl
end Go.DM
namespace Go.DM
open Go

/-! the place of a name -/
def firstAt : List ByteArray → ByteArray → Nat → Option Nat
  | [], _, _ => none
  | x :: r, s, i => if s = x then some i else firstAt r s (i + 1)
theorem firstAt_app (s : ByteArray) : ∀ (l m : List ByteArray) (i : Nat), firstAt (l ++ m) s i = match firstAt l s i with
    | some j => some j
    | none => firstAt m s (i + l.length)
  | [], m, i => rfl
  | x :: l, m, i => by
    simp only [List.cons_append, firstAt]
    by_cases h : s = x
    · rw [if_pos h, if_pos h]
    · rw [if_neg h, if_neg h, firstAt_app s l m (i + 1), List.length_cons, show i + 1 + l.length = i + (l.length + 1) by omega]
theorem firstAt_lt (s : ByteArray) : ∀ (l : List ByteArray) (i j : Nat), firstAt l s i = some j → i ≤ j ∧ j < i + l.length
  | [], i, j, h => by cases h
  | x :: l, i, j, h => by
    simp only [firstAt] at h
    split at h
    · cases h; simp
    · have := firstAt_lt s l (i + 1) j h
      simp; omega
theorem drop_at {α : Type} {l : List α} {y : Nat} {x : α} (h : l[y]? = some x) : l.drop y = x :: l.drop (y + 1) := by
  obtain ⟨hlt, rfl⟩ := List.getElem?_eq_some_iff.1 h
  exact List.drop_eq_getElem_cons hlt
theorem index_loop (N : Nat) (l : List ByteArray) (hl : l.length ≤ 2097152) (s : ByteArray) : ∀ (k y m : Nat), l.length - y ≤ k → k < m → y ≤ l.length → gslices_Index_25_L1 N l s m (y : Int) = some (match firstAt (l.drop y) s y with
    | some j => .ret (j : Int)
    | none => .out ()) := by
  intro k
  induction k with
  | zero =>
    intro y m hk hm hy
    obtain ⟨m, rfl⟩ : ∃ m', m = m' + 1 := ⟨m - 1, by omega⟩
    rw [gslices_Index_25_L1, decide_eq_false (by omega), List.drop_eq_nil_of_le (by omega)]; rfl
  | succ k ih =>
    intro y m hk hm hy
    obtain ⟨m, rfl⟩ : ∃ m', m = m' + 1 := ⟨m - 1, by omega⟩
    rw [gslices_Index_25_L1]
    by_cases hlt : y < l.length
    · have hg : l[y]? = some l[y] := by simp [hlt]
      rw [decide_eq_true (by omega : (y : Int) < (l.length : Nat)), atL_nat, hg, drop_at hg]
      simp only [cond_true, Option.bind_some, firstAt]
      by_cases he : s = l[y]
      · rw [decide_eq_true he, if_pos he]; rfl
      · rw [decide_eq_false he, if_neg he, cond_false, w64_succ (by omega)]
        exact ih (y + 1) m (by omega) (by omega) (by omega)
    · rw [decide_eq_false (by omega), List.drop_eq_nil_of_le (by omega)]; rfl
theorem index_eq (n : Nat) (l : List ByteArray) (hl : l.length ≤ 2097152) (hn : l.length < n) (s : ByteArray) : gslices_Index_25 n l s = some (match firstAt l s 0 with
    | some j => (j : Int)
    | none => -1) := by
  unfold gslices_Index_25
  have := index_loop n l hl s l.length 0 n (by omega) hn (by omega)
  rw [List.drop_zero] at this
  rw [show (0 : Int) = ((0 : Nat) : Int) from rfl, this]
  cases firstAt l s 0 <;> rfl
theorem back_loop (N : Nat) (l : List ByteArray) (hl : l.length ≤ 2097152) (s : ByteArray) : ∀ (k m : Nat) (acc : Int), k < m → k ≤ l.length → gdovetailref12_Eval_L2 N l s m acc ((k : Int) - 1) = some (match firstAt (l.take k) s 0 with
    | some j => (j : Int)
    | none => acc)
  | 0, m, acc, hm, _ => by
    obtain ⟨m, rfl⟩ : ∃ m', m = m' + 1 := ⟨m - 1, by omega⟩
    rw [gdovetailref12_Eval_L2]; rfl
  | k + 1, m, acc, hm, hk => by
    obtain ⟨m, rfl⟩ : ∃ m', m = m' + 1 := ⟨m - 1, by omega⟩
    rw [gdovetailref12_Eval_L2, show ((k + 1 : Nat) : Int) - 1 = (k : Int) by omega, decide_eq_true (by omega : (k : Int) ≥ 0), atL_nat]
    have hg : l[k]? = some l[k] := by simp [show k < l.length by omega]
    have ht : l.take (k + 1) = l.take k ++ [l[k]] := by simp [List.take_add_one]
    rw [hg, ht, firstAt_app, List.length_take, Nat.min_eq_left (by omega)]
    simp only [cond_true, Option.bind_some, firstAt, Nat.zero_add]
    have hw : IntKind.wrap .i64 ((k : Int) - 1) = (k : Int) - 1 := w64 (by omega) (by omega)
    by_cases he : s = l[k]
    · rw [decide_eq_true he.symm, if_pos he]
      simp only [cond_true, Option.bind_some]
      rw [hw, back_loop N l hl s k m _ (by omega) (by omega)]
      cases firstAt (l.take k) s 0 <;> rfl
    · rw [decide_eq_false (fun e => he e.symm), if_neg he]
      simp only [cond_false, Option.bind_some]
      rw [hw, back_loop N l hl s k m _ (by omega) (by omega)]
      cases firstAt (l.take k) s 0 <;> rfl

/-! values -/
def valAt (names : List ByteArray) (vals : List Int) (s : ByteArray) : Option Int := match firstAt names s 0 with
  | some k => vals[k]?
  | none => none
def evF (names : List ByteArray) (vals : List Int) : List (ByteArray × Int) → Int → Option Int
  | [], v => some v
  | (s, t) :: r, v => match valAt names vals s with
    | none => none
    | some x => evF names vals r (IntKind.wrap .i64 (v + IntKind.wrap .i64 (t * x)))
def prs (a : TLin) : List (ByteArray × Int) := a.f_Syms.zip a.f_Times
def evalP (a : TLin) (names : List ByteArray) (vals : List Int) : Int × Bool := if normE a = true then match evF names vals (prs a) a.f_Off with
    | none => (0, false)
    | some v => (v, true)
  else (0, false)
theorem norm_len {a : TLin} (h : normE a = true) : a.f_Syms.length = a.f_Times.length ∧ a.f_Syms.length ≤ 16 := by
  unfold normE at h
  simp only [Bool.and_eq_true, decide_eq_true_eq] at h
  exact ⟨h.1.1.1, h.1.1.2⟩
theorem prs_at {a : TLin} {i : Nat} (h : a.f_Syms.length = a.f_Times.length) (hi : i < a.f_Syms.length) : (prs a)[i]? = some (sym a i, tim a i) := by
  have h2 : i < a.f_Times.length := by omega
  rw [prs, List.getElem?_zip_eq_some]
  simp [sym, tim, hi, h2]
theorem prs_len {a : TLin} (h : a.f_Syms.length = a.f_Times.length) : (prs a).length = a.f_Syms.length := by
  simp [prs, ← h]
theorem val_test (l : Int) (x : Option Nat) (vals : List Int) : ((decide ((match x with
    | some j => (j : Int)
    | none => -1) < 0)) || (decide ((match x with
    | some j => (j : Int)
    | none => -1) ≥ ((vals.length : Nat) : Int)))) = (match x with | some k => vals[k]? | none => none).isNone := by
  cases x with
  | none => rfl
  | some j =>
    simp only
    rw [decide_eq_false (by omega), Bool.false_or]
    by_cases h : j < vals.length
    · rw [decide_eq_false (by omega)]; simp [h]
    · rw [decide_eq_true (by omega)]; simp; omega
section
variable {a : TLin} {names : List ByteArray} {vals : List Int}
theorem evalE_loop (N : Nat) (hab : a.f_Syms.length = a.f_Times.length) (h16 : a.f_Syms.length ≤ 16) (hnm : names.length ≤ 2097152) (hN : 2097153 < N) : ∀ (k y m : Nat) (v : Int), a.f_Syms.length - y ≤ k → k < m → y ≤ a.f_Syms.length → gexpr_Eval_L1 N a names vals m v (y : Int) = some (match evF names vals ((prs a).drop y) v with
    | some w => .out w
    | none => .ret (0, false)) := by
  have hpl := prs_len hab
  intro k
  induction k with
  | zero =>
    intro y m v hk hm hy
    obtain ⟨m, rfl⟩ : ∃ m', m = m' + 1 := ⟨m - 1, by omega⟩
    rw [gexpr_Eval_L1, decide_eq_false (by omega), List.drop_eq_nil_of_le (by omega)]; rfl
  | succ k ih =>
    intro y m v hk hm hy
    obtain ⟨m, rfl⟩ : ∃ m', m = m' + 1 := ⟨m - 1, by omega⟩
    rw [gexpr_Eval_L1]
    by_cases hlt : y < a.f_Syms.length
    · rw [decide_eq_true (by omega : (y : Int) < (a.f_Syms.length : Nat)), atL_sym hlt, drop_at (prs_at hab hlt)]
      simp only [cond_true, Option.bind_some, evF]
      rw [index_eq N names hnm (by omega)]
      simp only [Option.bind_some]
      rw [val_test 0]
      have hva : (match firstAt names (sym a y) 0 with | some k => vals[k]? | none => none) = valAt names vals (sym a y) := rfl
      rw [hva]
      cases hv : valAt names vals (sym a y) with
      | none => rfl
      | some x =>
        simp only [Option.isNone_some, cond_false]
        rw [atL_tim (by omega)]
        unfold valAt at hv
        cases hf : firstAt names (sym a y) 0 with
        | none => rw [hf] at hv; cases hv
        | some j =>
          rw [hf] at hv
          simp only at hv
          simp only [atL_nat, hv, Option.bind_some]
          rw [w64_succ (by omega)]
          exact ih (y + 1) m _ (by omega) (by omega) (by omega)
    · rw [decide_eq_false (by omega), List.drop_eq_nil_of_le (by omega)]; rfl
theorem evalR_loop (N : Nat) (hab : a.f_Syms.length = a.f_Times.length) (h16 : a.f_Syms.length ≤ 16) (hnm : names.length ≤ 2097152) (hN : 2097153 < N) : ∀ (k y m : Nat) (v : Int), a.f_Syms.length - y ≤ k → k < m → y ≤ a.f_Syms.length → gdovetailref12_Eval_L1 N a names vals m v (y : Int) = some (match evF names vals ((prs a).drop y) v with
    | some w => .out w
    | none => .ret (0, false)) := by
  have hpl := prs_len hab
  intro k
  induction k with
  | zero =>
    intro y m v hk hm hy
    obtain ⟨m, rfl⟩ : ∃ m', m = m' + 1 := ⟨m - 1, by omega⟩
    rw [gdovetailref12_Eval_L1, decide_eq_false (by omega), List.drop_eq_nil_of_le (by omega)]; rfl
  | succ k ih =>
    intro y m v hk hm hy
    obtain ⟨m, rfl⟩ : ∃ m', m = m' + 1 := ⟨m - 1, by omega⟩
    rw [gdovetailref12_Eval_L1]
    by_cases hlt : y < a.f_Syms.length
    · rw [decide_eq_true (by omega : (y : Int) < (a.f_Syms.length : Nat)), atL_sym hlt, drop_at (prs_at hab hlt)]
      simp only [cond_true, Option.bind_some, evF]
      rw [w64 (n := ((names.length : Nat) : Int) - 1) (by omega) (by omega), back_loop N names hnm _ names.length N (-1) (by omega) (Nat.le_refl _), List.take_length]
      simp only [Option.bind_some]
      rw [val_test 0]
      have hva : (match firstAt names (sym a y) 0 with | some k => vals[k]? | none => none) = valAt names vals (sym a y) := rfl
      rw [hva]
      cases hv : valAt names vals (sym a y) with
      | none => rfl
      | some x =>
        simp only [Option.isNone_some, cond_false]
        rw [atL_tim (by omega)]
        unfold valAt at hv
        cases hf : firstAt names (sym a y) 0 with
        | none => rw [hf] at hv; cases hv
        | some j =>
          rw [hf] at hv
          simp only at hv
          simp only [atL_nat, hv, Option.bind_some]
          rw [w64_succ (by omega)]
          exact ih (y + 1) m _ (by omega) (by omega) (by omega)
    · rw [decide_eq_false (by omega), List.drop_eq_nil_of_le (by omega)]; rfl
theorem eval_eqE (n : Nat) (hf : Fits a) (hnm : names.length ≤ 2097152) (hn : 2097154 < n) : gexpr_Eval n a names vals = some (evalP a names vals) := by
  unfold gexpr_Eval evalP
  rw [norm_eqE n a hf (by omega)]
  cases h : normE a with
  | false => rfl
  | true =>
    obtain ⟨h1, h2⟩ := norm_len h
    have := evalE_loop (vals := vals) n h1 h2 hnm (by omega) a.f_Syms.length 0 n a.f_Off (by omega) (by omega) (by omega)
    rw [List.drop_zero] at this
    simp only [Option.bind_some, Bool.not_true, cond_false, if_true]
    rw [show (0 : Int) = ((0 : Nat) : Int) from rfl, this]
    cases evF names vals (prs a) a.f_Off <;> rfl
theorem eval_eqR (n : Nat) (hf : Fits a) (hnm : names.length ≤ 2097152) (hn : 2097154 < n) : gdovetailref12_Eval n a names vals = some (evalP a names vals) := by
  unfold gdovetailref12_Eval evalP
  rw [norm_eqR n a hf (by omega)]
  cases h : normE a with
  | false => rfl
  | true =>
    obtain ⟨h1, h2⟩ := norm_len h
    have := evalR_loop (vals := vals) n h1 h2 hnm (by omega) a.f_Syms.length 0 n a.f_Off (by omega) (by omega) (by omega)
    rw [List.drop_zero] at this
    simp only [Option.bind_some, Bool.not_true, cond_false, if_true]
    rw [show (0 : Int) = ((0 : Nat) : Int) from rfl, this]
    cases evF names vals (prs a) a.f_Off <;> rfl
end

/-! sums as maps -/
def ofF : List (ByteArray × Int) → List (ByteArray × Int) → List (ByteArray × Int)
  | [], l => l
  | (s, t) :: r, l => ofF r (updT l s t)
def plF (k : Int) : List (ByteArray × Int) → List (ByteArray × Int) → List (ByteArray × Int)
  | [], l => l
  | (s, t) :: r, l => plF k r (updT l s (IntKind.wrap .i64 (lookT l s + IntKind.wrap .i64 (k * t))))
section
variable {a : TLin}
theorem of_loop (N : Nat) (hab : a.f_Syms.length = a.f_Times.length) (h16 : a.f_Syms.length ≤ 16) : ∀ (k y m : Nat) (l : List (ByteArray × Int)), a.f_Syms.length - y ≤ k → k < m → y ≤ a.f_Syms.length → gexpr_of_L1 N a m (y : Int) l = some (ofF ((prs a).drop y) l) := by
  have hpl := prs_len hab
  intro k
  induction k with
  | zero =>
    intro y m l hk hm hy
    obtain ⟨m, rfl⟩ : ∃ m', m = m' + 1 := ⟨m - 1, by omega⟩
    rw [gexpr_of_L1, decide_eq_false (by omega), List.drop_eq_nil_of_le (by omega)]; rfl
  | succ k ih =>
    intro y m l hk hm hy
    obtain ⟨m, rfl⟩ : ∃ m', m = m' + 1 := ⟨m - 1, by omega⟩
    rw [gexpr_of_L1]
    by_cases hlt : y < a.f_Syms.length
    · rw [decide_eq_true (by omega : (y : Int) < (a.f_Syms.length : Nat)), atL_sym hlt, atL_tim (by omega), drop_at (prs_at hab hlt)]
      simp only [cond_true, Option.bind_some, ofF]
      rw [w64_succ (by omega)]
      exact ih (y + 1) m _ (by omega) (by omega) (by omega)
    · rw [decide_eq_false (by omega), List.drop_eq_nil_of_le (by omega)]; rfl
theorem plus_loop (N : Nat) (c : Int) (hab : a.f_Syms.length = a.f_Times.length) (h16 : a.f_Syms.length ≤ 16) : ∀ (k y m : Nat) (l : List (ByteArray × Int)), a.f_Syms.length - y ≤ k → k < m → y ≤ a.f_Syms.length → gexpr_plus_L1 N a c m (y : Int) l = some (plF c ((prs a).drop y) l) := by
  have hpl := prs_len hab
  intro k
  induction k with
  | zero =>
    intro y m l hk hm hy
    obtain ⟨m, rfl⟩ : ∃ m', m = m' + 1 := ⟨m - 1, by omega⟩
    rw [gexpr_plus_L1, decide_eq_false (by omega), List.drop_eq_nil_of_le (by omega)]; rfl
  | succ k ih =>
    intro y m l hk hm hy
    obtain ⟨m, rfl⟩ : ∃ m', m = m' + 1 := ⟨m - 1, by omega⟩
    rw [gexpr_plus_L1]
    by_cases hlt : y < a.f_Syms.length
    · rw [decide_eq_true (by omega : (y : Int) < (a.f_Syms.length : Nat)), atL_sym hlt, atL_tim (by omega), drop_at (prs_at hab hlt)]
      simp only [cond_true, Option.bind_some, plF]
      rw [w64_succ (by omega)]
      exact ih (y + 1) m _ (by omega) (by omega) (by omega)
    · rw [decide_eq_false (by omega), List.drop_eq_nil_of_le (by omega)]; rfl
end
/-- the entries that are not nought, by the keys -/
def linF (m : List (ByteArray × Int)) (ks : List ByteArray) : List ByteArray := ks.filter fun s => lookT m s != 0
theorem lin_loop (N : Nat) (p : Texpr_sum) (ks : List ByteArray) (hk : ks.length ≤ 64) : ∀ (k y m : Nat) (xs : List ByteArray) (zs : List Int), ks.length - y ≤ k → k < m → y ≤ ks.length → xs.length ≤ y → zs.length ≤ y →
    gexpr_sum__lin_L1 N p ks m (y : Int) xs zs = some (xs ++ linF p.f_times (ks.drop y), zs ++ (linF p.f_times (ks.drop y)).map (lookT p.f_times)) := by
  intro k
  induction k with
  | zero =>
    intro y m xs zs h1 hm hy hx hz
    obtain ⟨m, rfl⟩ : ∃ m', m = m' + 1 := ⟨m - 1, by omega⟩
    rw [gexpr_sum__lin_L1, decide_eq_false (by omega), List.drop_eq_nil_of_le (by omega)]
    simp [linF]
  | succ k ih =>
    intro y m xs zs h1 hm hy hx hz
    obtain ⟨m, rfl⟩ : ∃ m', m = m' + 1 := ⟨m - 1, by omega⟩
    rw [gexpr_sum__lin_L1]
    by_cases hlt : y < ks.length
    · have hg : ks[y]? = some ks[y] := by simp [hlt]
      rw [decide_eq_true (by omega : (y : Int) < (ks.length : Nat)), atL_nat, hg, drop_at hg]
      simp only [cond_true, Option.bind_some]
      have hF : linF p.f_times (ks[y] :: ks.drop (y + 1)) = if lookT p.f_times ks[y] != 0 then ks[y] :: linF p.f_times (ks.drop (y + 1)) else linF p.f_times (ks.drop (y + 1)) := by
        unfold linF; rw [List.filter_cons]
      rw [hF]
      cases hq : lookT p.f_times ks[y] != 0
      · simp only [cond_false, Option.bind_some, Bool.false_eq_true, if_false]
        rw [w64_succ (by omega)]
        exact ih (y + 1) m xs zs (by omega) (by omega) (by omega) (by omega) (by omega)
      · simp only [cond_true, if_true]
        rw [appL_ok (by simp; omega) (by omega), appL_ok (by simp; omega) (by omega)]
        simp only [Option.bind_some]
        rw [w64_succ (by omega), ih (y + 1) m _ _ (by omega) (by omega) (by omega) (by simp; omega) (by simp; omega)]
        simp
    · rw [decide_eq_false (by omega), List.drop_eq_nil_of_le (by omega)]
      simp [linF]
end Go.DM
namespace Go.DM
open Go

/-! sums up to 2^64 -/
def cg (x y : Int) : Prop := ∃ z : Int, x = y + 18446744073709551616 * z
theorem cg.refl (x : Int) : cg x x := ⟨0, by omega⟩
theorem cg.trans {x y w : Int} (h : cg x y) (g : cg y w) : cg x w := by
  obtain ⟨a, rfl⟩ := h
  obtain ⟨b, rfl⟩ := g
  exact ⟨a + b, by omega⟩
theorem cg.add {x y u v : Int} (h : cg x y) (g : cg u v) : cg (x + u) (y + v) := by
  obtain ⟨a, rfl⟩ := h
  obtain ⟨b, rfl⟩ := g
  exact ⟨a + b, by omega⟩
theorem cg.mul {x y : Int} (h : cg x y) (k : Int) : cg (x * k) (y * k) := by
  obtain ⟨a, rfl⟩ := h
  exact ⟨a * k, by rw [Int.add_mul, Int.mul_assoc]⟩
theorem cg.mulL {x y : Int} (h : cg x y) (k : Int) : cg (k * x) (k * y) := by
  rw [Int.mul_comm k x, Int.mul_comm k y]; exact h.mul k
theorem wrap_def (x : Int) : IntKind.wrap .i64 x = (x + 9223372036854775808) % 18446744073709551616 - 9223372036854775808 := by
  rw [IntKind.wrap_i64]
theorem cg_wrap (x : Int) : cg (IntKind.wrap .i64 x) x := ⟨-((x + 9223372036854775808) / 18446744073709551616), by rw [wrap_def]; omega⟩
theorem wrap_cg {x y : Int} (h : cg x y) : IntKind.wrap .i64 x = IntKind.wrap .i64 y := by
  obtain ⟨z, rfl⟩ := h
  rw [wrap_def, wrap_def]; omega
theorem wrap_wrap (x : Int) : IntKind.wrap .i64 (IntKind.wrap .i64 x) = IntKind.wrap .i64 x := wrap_cg (cg_wrap x)

/-! totals -/
def tot (f : ByteArray → Int) : List (ByteArray × Int) → Int
  | [] => 0
  | (s, v) :: r => v * f s + tot f r
def keysM (l : List (ByteArray × Int)) : List ByteArray := l.map (·.1)
theorem look_none {s : ByteArray} : ∀ {l : List (ByteArray × Int)}, s ∉ keysM l → lookT l s = 0
  | [], _ => rfl
  | (k, v) :: r, h => by
    simp only [keysM, List.map_cons, List.mem_cons, not_or] at h
    rw [lookT, if_neg h.1]
    exact look_none h.2
theorem tot_upd (f : ByteArray → Int) (s : ByteArray) (x : Int) : ∀ (l : List (ByteArray × Int)), tot f (updT l s x) = tot f l + (x - lookT l s) * f s
  | [] => by simp [updT, tot, lookT]
  | (k, v) :: r => by
    unfold updT lookT
    by_cases h : s = k
    · subst h
      rw [if_pos rfl, if_pos rfl]
      simp only [tot]
      rw [Int.sub_mul]; omega
    · rw [if_neg h, if_neg h]
      simp only [tot]
      rw [tot_upd f s x r]; omega
open Classical in
theorem upd_keys (s : ByteArray) (x : Int) : ∀ (l : List (ByteArray × Int)), keysM (updT l s x) = if s ∈ keysM l then keysM l else keysM l ++ [s]
  | [] => by simp [updT, keysM]
  | (k, v) :: r => by
    have ih := upd_keys s x r
    unfold updT
    by_cases h : s = k
    · subst h
      rw [if_pos rfl, if_pos (by simp [keysM])]
      simp [keysM]
    · rw [if_neg h]
      have hm : s ∈ keysM ((k, v) :: r) ↔ s ∈ keysM r := by simp [keysM, h]
      have hc : ∀ q, keysM ((k, v) :: q) = k :: keysM q := fun q => rfl
      rw [hc, hc, ih]
      by_cases hs : s ∈ keysM r
      · rw [if_pos hs, if_pos (by simp [hs])]
      · rw [if_neg hs, if_neg (by simp [h, hs])]; rfl
/-- what a map may hold behind some entries -/
structure MapOk (K : List ByteArray) (n : Nat) (l : List (ByteArray × Int)) : Prop where
  nd : (keysM l).Nodup
  sub : ∀ s ∈ keysM l, s ∈ K
  len : l.length ≤ n
theorem MapOk.upd {K : List ByteArray} {n : Nat} {l : List (ByteArray × Int)} (h : MapOk K n l) {s : ByteArray} (hs : s ∈ K) (x : Int) : MapOk K (n + 1) (updT l s x) := by
  have hk := upd_keys s x l
  have hl : ∀ q : List (ByteArray × Int), (keysM q).length = q.length := fun q => by simp [keysM]
  have hlen := h.len
  refine ⟨?_, fun k hm => ?_, ?_⟩
  · rw [hk]
    split
    · exact h.nd
    · rename_i hn
      rw [List.nodup_append]
      refine ⟨h.nd, by simp, fun a ha b hb => ?_⟩
      simp at hb; subst hb
      rintro rfl; exact hn ha
  · rw [hk] at hm
    split at hm
    · exact h.sub k hm
    · rcases List.mem_append.1 hm with hm | hm
      · exact h.sub k hm
      · simp at hm; subst hm; exact hs
  · rw [← hl, hk]
    split
    · rw [hl]; omega
    · rw [List.length_append, hl]; simp; omega
theorem MapOk.mono {K : List ByteArray} {n m : Nat} {l : List (ByteArray × Int)} (h : MapOk K n l) (hm : n ≤ m) : MapOk K m l := ⟨h.nd, h.sub, Nat.le_trans h.len hm⟩
theorem of_ok {K : List ByteArray} : ∀ (q : List (ByteArray × Int)) (n : Nat) (l : List (ByteArray × Int)), MapOk K n l → (∀ p ∈ q, p.1 ∈ K) → MapOk K (n + q.length) (ofF q l)
  | [], n, l, h, _ => h
  | (s, t) :: r, n, l, h, hq => by
    have := of_ok r (n + 1) _ (h.upd (hq (s, t) (by simp)) t) (fun p hp => hq p (by simp [hp]))
    unfold ofF
    exact this.mono (by simp; omega)
theorem pl_ok {K : List ByteArray} (c : Int) : ∀ (q : List (ByteArray × Int)) (n : Nat) (l : List (ByteArray × Int)), MapOk K n l → (∀ p ∈ q, p.1 ∈ K) → MapOk K (n + q.length) (plF c q l)
  | [], n, l, h, _ => h
  | (s, t) :: r, n, l, h, hq => by
    have := pl_ok c r (n + 1) _ (h.upd (hq (s, t) (by simp)) (IntKind.wrap .i64 (lookT l s + IntKind.wrap .i64 (c * t)))) (fun p hp => hq p (by simp [hp]))
    unfold plF
    exact this.mono (by simp; omega)
theorem tot_of (f : ByteArray → Int) : ∀ (q l : List (ByteArray × Int)), (keysM q).Nodup → (∀ s ∈ keysM q, s ∉ keysM l) → tot f (ofF q l) = tot f l + tot f q
  | [], l, _, _ => by simp [ofF, tot]
  | (s, t) :: r, l, hn, hd => by
    unfold ofF
    have hs : s ∉ keysM l := hd s (by simp [keysM])
    have hn' : s ∉ keysM r ∧ (keysM r).Nodup := List.nodup_cons.1 hn
    rw [tot_of f r _ hn'.2 (fun k hk hm => ?_), tot_upd, look_none hs]
    · simp only [tot]
      rw [Int.sub_zero]; omega
    · rw [upd_keys, if_neg hs] at hm
      rcases List.mem_append.1 hm with hm | hm
      · exact hd k (by simp only [keysM, List.map_cons, List.mem_cons]; exact .inr hk) hm
      · simp at hm; subst hm; exact hn'.1 hk
theorem tot_pl (f : ByteArray → Int) (c : Int) : ∀ (q l : List (ByteArray × Int)), cg (tot f (plF c q l)) (tot f l + c * tot f q)
  | [], l => by simp only [plF, tot]; rw [Int.mul_zero, Int.add_zero]; exact cg.refl _
  | (s, t) :: r, l => by
    unfold plF
    refine (tot_pl f c r _).trans ?_
    rw [tot_upd]
    have h1 : cg (IntKind.wrap .i64 (lookT l s + IntKind.wrap .i64 (c * t)) - lookT l s) (c * t) := by
      obtain ⟨z1, e1⟩ := cg_wrap (lookT l s + IntKind.wrap .i64 (c * t))
      obtain ⟨z2, e2⟩ := cg_wrap (c * t)
      exact ⟨z1 + z2, by rw [e1, e2]; omega⟩
    have h2 := h1.mul (f s)
    have h3 := ((cg.refl (tot f l)).add h2).add (cg.refl (c * tot f r))
    refine h3.trans ?_
    simp only [tot]
    rw [Int.mul_add, Int.mul_assoc c t (f s), Int.add_assoc]
    exact cg.refl _

/-! the keys by order -/
theorem nodupL_of : ∀ {l : List (List UInt8)}, l.Nodup → nodupL l = true
  | [], _ => rfl
  | x :: r, h => by
    obtain ⟨h1, h2⟩ := List.nodup_cons.1 h
    simp only [nodupL, Bool.and_eq_true, List.all_eq_true, Bool.not_eq_true']
    refine ⟨fun y hy => ?_, nodupL_of h2⟩
    have key : ∀ (a b : List UInt8), eqL a b = true → a = b := by
      intro a
      induction a with
      | nil => intro b hb; cases b with
        | nil => rfl
        | cons c d => simp [eqL] at hb
      | cons u v ih => intro b hb; cases b with
        | nil => simp [eqL] at hb
        | cons c d =>
          simp only [eqL, Bool.and_eq_true] at hb
          have h3 := ih d hb.2
          have h4 : u = c := UInt8.toNat.inj (by simpa using hb.1)
          rw [h3, h4]
    cases he : eqL x y with
    | false => rfl
    | true => rw [key x y he] at h1; exact absurd hy h1
theorem keys_ok {K : List ByteArray} {n : Nat} {m : List (ByteArray × Int)} (h : MapOk K n m) (hn : n ≤ 4000000) (hK : ∀ s ∈ K, s.size ≤ 4000000) :
    ∃ ks, keysT m = some ks ∧ ks.Perm (keysM m) ∧ ks.Pairwise (fun a b => strLt a b = true) := by
  have hnd : (m.map (·.1.data.toList)).Nodup := by
    have := h.nd
    unfold keysM at this
    have h2 : m.map (·.1.data.toList) = (m.map (·.1)).map (fun s : ByteArray => s.data.toList) := by rw [List.map_map]; rfl
    rw [h2]
    exact this.map _ (fun a b hab e => hab (ba_inj e))
  have hsz : (m.all fun p => decide (p.1.size ≤ 4000000)) = true := by
    rw [List.all_eq_true]
    intro p hp
    rw [decide_eq_true_eq]
    exact hK _ (h.sub _ (List.mem_map.2 ⟨p, hp, rfl⟩))
  have hl : Nat.ble m.length 4000000 = true := Nat.ble_eq_true_of_le (Nat.le_trans h.len hn)
  refine ⟨(sortL (m.map (·.1.data.toList))).map fun x => ⟨x.toArray⟩, ?_, ?_, ?_⟩
  · unfold keysT
    rw [nodupL_of hnd, hsz, hl]; rfl
  · have hp := (sortL_perm (m.map (·.1.data.toList))).map (fun x => (⟨x.toArray⟩ : ByteArray))
    refine hp.trans ?_
    rw [List.map_map]
    have : m.map ((fun x => (⟨x.toArray⟩ : ByteArray)) ∘ fun p => p.1.data.toList) = keysM m := by
      unfold keysM
      refine List.map_congr_left (fun p _ => ?_)
      simp
    rw [this]
  · rw [List.pairwise_map]
    have hs := sortL_sorted (m.map (·.1.data.toList))
    have hd : (sortL (m.map (·.1.data.toList))).Nodup := (sortL_perm _).nodup_iff.2 hnd
    refine (hs.and hd).imp (fun {a b} hab => ?_)
    rw [strLt_eq, decide_eq_true_eq]
    obtain ⟨h1, h2⟩ := hab
    have h3 : a ≤ b := by simpa [leB] using h1
    show a < b
    rcases Decidable.em (a < b) with h4 | h4
    · exact h4
    · exact absurd (List.le_antisymm h3 (List.not_lt.1 h4)) h2
/-- the sum of what is looked up at keys -/
def totK (f : ByteArray → Int) (m : List (ByteArray × Int)) : List ByteArray → Int
  | [] => 0
  | s :: r => lookT m s * f s + totK f m r
theorem totK_perm {f : ByteArray → Int} {m : List (ByteArray × Int)} {a b : List ByteArray} (h : a.Perm b) : totK f m a = totK f m b := by
  induction h with
  | nil => rfl
  | cons x _ ih => simp only [totK, ih]
  | swap x y l => simp only [totK]; omega
  | trans _ _ h1 h2 => exact h1.trans h2
theorem totK_skip {f : ByteArray → Int} {k : ByteArray} {v : Int} {r : List (ByteArray × Int)} : ∀ {ks : List ByteArray}, k ∉ ks → totK f ((k, v) :: r) ks = totK f r ks
  | [], _ => rfl
  | s :: q, h => by
    simp only [List.mem_cons, not_or] at h
    simp only [totK, lookT]
    rw [if_neg (fun e => h.1 e.symm), totK_skip h.2]
theorem totK_keys (f : ByteArray → Int) : ∀ (m : List (ByteArray × Int)), (keysM m).Nodup → totK f m (keysM m) = tot f m
  | [], _ => rfl
  | (k, v) :: r, h => by
    have h' := List.nodup_cons.1 h
    show totK f ((k, v) :: r) (k :: keysM r) = _
    simp only [totK, lookT, if_true, tot]
    have h1 : k ∉ keysM r := h'.1
    rw [totK_skip h1, totK_keys f r h'.2]
theorem totK_lin (f : ByteArray → Int) (m : List (ByteArray × Int)) : ∀ (ks : List ByteArray), tot f ((linF m ks).map fun s => (s, lookT m s)) = totK f m ks
  | [] => rfl
  | s :: r => by
    have ih := totK_lin f m r
    unfold linF at ih ⊢
    rw [List.filter_cons]
    cases hq : lookT m s != 0
    · simp only [Bool.false_eq_true, if_false, totK]
      have : lookT m s = 0 := by simpa using hq
      rw [ih, this, Int.zero_mul, Int.zero_add]
    · simp only [if_true, List.map_cons, tot, totK]
      rw [ih]
theorem zip_self {α β : Type} (g : α → β) : ∀ (l : List α), l.zip (l.map g) = l.map fun s => (s, g s)
  | [] => rfl
  | x :: r => by simp [zip_self g r]

/-! values of sums -/
section
variable {names : List ByteArray} {vals : List Int}
def vf (names : List ByteArray) (vals : List Int) (s : ByteArray) : Int := (valAt names vals s).getD 0
theorem ev_val : ∀ (q : List (ByteArray × Int)) (v : Int), (∀ p ∈ q, (valAt names vals p.1).isSome = true) → ∃ w, evF names vals q v = some w ∧ cg w (v + tot (vf names vals) q)
  | [], v, _ => ⟨v, rfl, by simp only [tot]; rw [Int.add_zero]; exact cg.refl v⟩
  | (s, t) :: r, v, h => by
    have hs := h (s, t) (by simp)
    obtain ⟨x, hx⟩ := Option.isSome_iff_exists.1 hs
    simp only at hx
    obtain ⟨w, h1, h2⟩ := ev_val r (IntKind.wrap .i64 (v + IntKind.wrap .i64 (t * x))) (fun p hp => h p (by simp [hp]))
    refine ⟨w, by simp only [evF, hx]; exact h1, h2.trans ?_⟩
    have hv : vf names vals s = x := by unfold vf; rw [hx]; rfl
    simp only [tot, hv]
    have h3 : cg (IntKind.wrap .i64 (v + IntKind.wrap .i64 (t * x))) (v + t * x) := (cg_wrap _).trans ((cg.refl v).add (cg_wrap _))
    have := h3.add (cg.refl (tot (vf names vals) r))
    rw [Int.add_assoc] at this
    exact this
theorem ev_wrap : ∀ (q : List (ByteArray × Int)) (v w : Int), IntKind.wrap .i64 v = v → evF names vals q v = some w → IntKind.wrap .i64 w = w
  | [], v, w, hv, h => by cases h; exact hv
  | (s, t) :: r, v, w, hv, h => by
    simp only [evF] at h
    cases hx : valAt names vals s with
    | none => rw [hx] at h; cases h
    | some x =>
      rw [hx] at h
      exact ev_wrap r _ w (wrap_wrap _) h
theorem ev_found : ∀ (q : List (ByteArray × Int)) (v w : Int), evF names vals q v = some w → ∀ p ∈ q, (valAt names vals p.1).isSome = true
  | [], _, _, _, p, hp => by cases hp
  | (s, t) :: r, v, w, h, p, hp => by
    simp only [evF] at h
    cases hx : valAt names vals s with
    | none => rw [hx] at h; cases h
    | some x =>
      rw [hx] at h
      rcases List.mem_cons.1 hp with rfl | hp
      · simp only [hx]; rfl
      · exact ev_found r _ w h p hp
end

/-! what is normal -/
structure Norm (a : TLin) : Prop where
  len : a.f_Syms.length = a.f_Times.length
  many : a.f_Syms.length ≤ 16
  name : ∀ s ∈ a.f_Syms, nameE s = true
  asc : a.f_Syms.Pairwise (fun x y => strLt x y = true)
  nz : ∀ t ∈ a.f_Times, t ≠ 0
theorem norm_of {a : TLin} (h : normE a = true) : Norm a := by
  obtain ⟨h1, h2⟩ := norm_len h
  unfold normE at h
  simp only [Bool.and_eq_true, Bool.not_eq_true'] at h
  obtain ⟨⟨_, h3⟩, h4⟩ := h
  have bad : ∀ i, i < a.f_Syms.length → badS a i = false := fun i hi => by
    cases hb : badS a i with
    | false => rfl
    | true => rw [any_range.2 ⟨i, by omega, by omega, hb⟩] at h4; cases h4
  have nz : ∀ i, i < a.f_Times.length → tim a i ≠ 0 := fun i hi e => by
    have : (List.range' 0 a.f_Times.length).any (fun i => tim a i == 0) = true := any_range.2 ⟨i, by omega, by omega, by simp [e]⟩
    rw [this] at h3; cases h3
  have step : ∀ i, i + 1 < a.f_Syms.length → strLt (sym a i) (sym a (i + 1)) = true := fun i hi => by
    have := bad (i + 1) hi
    unfold badS at this
    rw [Bool.or_eq_false_iff] at this
    have h5 := this.2
    rw [decide_eq_true (by omega : 0 < i + 1), Bool.true_and, Bool.not_eq_false'] at h5
    exact h5
  have up : ∀ d i, i + d + 1 < a.f_Syms.length → strLt (sym a i) (sym a (i + d + 1)) = true := by
    intro d
    induction d with
    | zero => intro i hi; exact step i hi
    | succ d ih => intro i hi; exact strLt_trans (ih i (by omega)) (step (i + d + 1) (by omega))
  refine ⟨h1, h2, fun s hs => ?_, ?_, fun t ht => ?_⟩
  · obtain ⟨i, hi, rfl⟩ := List.mem_iff_getElem.1 hs
    have := bad i hi
    unfold badS at this
    rw [Bool.or_eq_false_iff, Bool.not_eq_false'] at this
    have h5 := this.1
    unfold sym at h5
    simpa [hi] using h5
  · rw [List.pairwise_iff_getElem]
    intro i j hi hj hij
    have := up (j - i - 1) i (by omega)
    rw [show i + (j - i - 1) + 1 = j by omega] at this
    unfold sym at this
    simpa [hi, hj] using this
  · obtain ⟨i, hi, rfl⟩ := List.mem_iff_getElem.1 ht
    have := nz i hi
    unfold tim at this
    simpa [hi] using this
theorem Norm.nd {a : TLin} (h : Norm a) : a.f_Syms.Nodup := h.asc.imp (fun {x y} hxy e => by rw [e, strLt_irr] at hxy; cases hxy)
theorem norm_mk {a : TLin} (h : Norm a) : normE a = true := by
  unfold normE
  rw [decide_eq_true h.len, decide_eq_true h.many]
  have h1 : (List.range' 0 a.f_Times.length).any (fun i => tim a i == 0) = false := by
    cases hq : (List.range' 0 a.f_Times.length).any (fun i => tim a i == 0) with
    | false => rfl
    | true =>
      obtain ⟨i, _, h2, h3⟩ := any_range.1 hq
      have hi : i < a.f_Times.length := by omega
      rw [beq_iff_eq] at h3
      unfold tim at h3
      exact absurd (by simpa [hi] using h3) (h.nz a.f_Times[i] (List.getElem_mem hi))
  have h2 : (List.range' 0 a.f_Syms.length).any (badS a) = false := by
    cases hq : (List.range' 0 a.f_Syms.length).any (badS a) with
    | false => rfl
    | true =>
      obtain ⟨i, _, h2, h3⟩ := any_range.1 hq
      have hi : i < a.f_Syms.length := by omega
      unfold badS at h3
      rw [h.name _ (sym_mem hi)] at h3
      simp only [Bool.not_true, Bool.false_or, Bool.and_eq_true, decide_eq_true_eq, Bool.not_eq_true'] at h3
      have := (List.pairwise_iff_getElem.1 h.asc) (i - 1) i (by omega) hi (by omega)
      have h4 := h3.2
      unfold sym at h4
      have hi1 : i - 1 < a.f_Syms.length := by omega
      simp [hi, hi1] at h4
      rw [h4] at this; cases this
  rw [h1, h2]; rfl
end Go.DM
namespace Go.DM
open Go

theorem prs_keys {a : TLin} (h : a.f_Syms.length = a.f_Times.length) : keysM (prs a) = a.f_Syms := by
  unfold keysM prs
  rw [List.map_fst_zip (by omega)]
theorem prs_mem {a : TLin} {p : ByteArray × Int} (h : p ∈ prs a) : p.1 ∈ a.f_Syms := (List.of_mem_zip h).1
/-- the sum of two normal ones -/
theorem plus_ok (n : Nat) (a b : TLin) (c : Int) (K : List ByteArray) (hab : a.f_Syms.length = a.f_Times.length) (ha16 : a.f_Syms.length ≤ 16) (hand : a.f_Syms.Nodup) (hbb : b.f_Syms.length = b.f_Times.length) (hb16 : b.f_Syms.length ≤ 16)
    (hK : ∀ s ∈ K, s.size ≤ 1048576) (hKa : ∀ s ∈ a.f_Syms, s ∈ K) (hKb : ∀ s ∈ b.f_Syms, s ∈ K) (hn : 1000 < n) :
    ∃ r : TLin, gexpr_plus n a b c = some r ∧ r.f_Syms.length = r.f_Times.length ∧ r.f_Syms.length ≤ a.f_Syms.length + b.f_Syms.length ∧ (∀ s ∈ r.f_Syms, s ∈ K) ∧ r.f_Syms.Pairwise (fun x y => strLt x y = true) ∧ (∀ t ∈ r.f_Times, t ≠ 0) ∧
      r.f_Off = IntKind.wrap .i64 (a.f_Off + IntKind.wrap .i64 (c * b.f_Off)) ∧ ∀ f, cg (tot f (prs r)) (tot f (prs a) + c * tot f (prs b)) := by
  have hpa := prs_len hab
  have hpb := prs_len hbb
  have h0 : MapOk K 0 ([] : List (ByteArray × Int)) := ⟨by simp [keysM], by simp [keysM], by simp⟩
  have h1 := of_ok (prs a) 0 [] h0 (fun p hp => hKa _ (prs_mem hp))
  have h2 := pl_ok c (prs b) _ _ h1 (fun p hp => hKb _ (prs_mem hp))
  obtain ⟨ks, k1, k2, k3⟩ := keys_ok h2 (by omega) (fun s hs => by have := hK s hs; omega)
  have hof := of_loop (a := a) n hab ha16 a.f_Syms.length 0 n [] (by omega) (by omega) (by omega)
  have hpl := plus_loop (a := b) n c hbb hb16 b.f_Syms.length 0 n (ofF (prs a) []) (by omega) (by omega) (by omega)
  rw [List.drop_zero] at hof hpl
  have hkl : ks.length ≤ a.f_Syms.length + b.f_Syms.length := by
    rw [k2.length_eq]
    have := h2.len
    simp [keysM]; omega
  have hlin := lin_loop n (Texpr_sum.mk (plF c (prs b) (ofF (prs a) [])) (IntKind.wrap .i64 (a.f_Off + IntKind.wrap .i64 (c * b.f_Off)))) ks (by omega) ks.length 0 n [] [] (by omega) (by omega) (by omega) (by simp) (by simp)
  rw [List.drop_zero] at hlin
  simp only [List.nil_append, Int.natCast_zero] at hlin hof hpl
  refine ⟨TLin.mk (linF (plF c (prs b) (ofF (prs a) [])) ks) ((linF (plF c (prs b) (ofF (prs a) [])) ks).map (lookT (plF c (prs b) (ofF (prs a) [])))) (IntKind.wrap .i64 (a.f_Off + IntKind.wrap .i64 (c * b.f_Off))), ?_, by simp, ?_, fun s hs => ?_, ?_, fun t ht => ?_, rfl, fun f => ?_⟩
  · unfold gexpr_plus gexpr_of
    rw [hof]
    simp only [Option.bind_some]
    rw [hpl]
    simp only [Option.bind_some]
    unfold gexpr_sum__lin
    simp only
    rw [k1]
    simp only [Option.bind_some]
    rw [hlin]
    rfl
  · exact Nat.le_trans (List.length_filter_le _ _) hkl
  · have : s ∈ ks := (List.mem_filter.1 hs).1
    exact h2.sub s (k2.mem_iff.1 this)
  · exact k3.filter _
  · obtain ⟨s, hs, rfl⟩ := List.mem_map.1 ht
    have := (List.mem_filter.1 hs).2
    simpa using this
  · have h3 : prs (TLin.mk (linF (plF c (prs b) (ofF (prs a) [])) ks) ((linF (plF c (prs b) (ofF (prs a) [])) ks).map (lookT (plF c (prs b) (ofF (prs a) [])))) (IntKind.wrap .i64 (a.f_Off + IntKind.wrap .i64 (c * b.f_Off)))) = (linF (plF c (prs b) (ofF (prs a) [])) ks).map fun s => (s, lookT (plF c (prs b) (ofF (prs a) [])) s) := zip_self _ _
    rw [h3, totK_lin, totK_perm k2, totK_keys f _ h2.nd]
    refine (tot_pl f c (prs b) _).trans ?_
    rw [tot_of f (prs a) [] (by rw [prs_keys hab]; exact hand) (by simp [keysM])]
    simp only [tot]
    rw [Int.zero_add]
    exact cg.refl _
theorem copy_eq (n : Nat) (a : TLin) (h : Fits a) : gdovetailref12_Copy n a = some a := by
  have h1 := h.len
  have h2 := h.lent
  unfold gdovetailref12_Copy
  rw [appL_ok (by simp; omega) (by omega), appL_ok (by simp; omega) (by omega)]
  rfl
theorem evalP_norm {a : TLin} {names : List ByteArray} {vals : List Int} {v : Int} (h : evalP a names vals = (v, true)) : normE a = true ∧ evF names vals (prs a) a.f_Off = some v := by
  unfold evalP at h
  split at h
  · rename_i hn
    refine ⟨hn, ?_⟩
    cases he : evF names vals (prs a) a.f_Off with
    | none => rw [he] at h; cases h
    | some w => rw [he] at h; cases h; rfl
  · cases h
/-- the value of what came of two sums -/
theorem sum_val (n : Nat) {a b : TLin} {c : Int} {r : TLin} {names : List ByteArray} {vals : List Int} {v u : Int} (ha : Norm a) (hb : Norm b) (h16 : r.f_Syms.length ≤ 16)
    (hv : evF names vals (prs a) a.f_Off = some v) (hu : evF names vals (prs b) b.f_Off = some u)
    (hl : r.f_Syms.length = r.f_Times.length) (hK : ∀ s ∈ r.f_Syms, s ∈ a.f_Syms ++ b.f_Syms) (hasc : r.f_Syms.Pairwise (fun x y => strLt x y = true)) (hnz : ∀ t ∈ r.f_Times, t ≠ 0)
    (hoff : r.f_Off = IntKind.wrap .i64 (a.f_Off + IntKind.wrap .i64 (c * b.f_Off))) (htot : ∀ f, cg (tot f (prs r)) (tot f (prs a) + c * tot f (prs b))) :
    evalP r names vals = (IntKind.wrap .i64 (v + c * u), true) := by
  have hfa := ev_found _ _ _ hv
  have hfb := ev_found _ _ _ hu
  have found : ∀ {x : TLin}, x.f_Syms.length = x.f_Times.length → (∀ p ∈ prs x, (valAt names vals p.1).isSome = true) → ∀ s ∈ x.f_Syms, (valAt names vals s).isSome = true := by
    intro x hx hq s hs
    rw [← prs_keys hx] at hs
    obtain ⟨p, hp, rfl⟩ := List.mem_map.1 hs
    exact hq p hp
  have hN : Norm r := by
    refine ⟨hl, h16, fun s hs => ?_, hasc, hnz⟩
    rcases List.mem_append.1 (hK s hs) with h | h
    · exact ha.name s h
    · exact hb.name s h
  have hall : ∀ p ∈ prs r, (valAt names vals p.1).isSome = true := fun p hp => by
    rcases List.mem_append.1 (hK _ (prs_mem hp)) with h | h
    · exact found ha.len hfa _ h
    · exact found hb.len hfb _ h
  obtain ⟨w, w1, w2⟩ := ev_val (names := names) (vals := vals) (prs r) r.f_Off hall
  have hw := ev_wrap _ _ _ (by rw [hoff, wrap_wrap]) w1
  obtain ⟨v', e1, e2⟩ := ev_val (names := names) (vals := vals) (prs a) a.f_Off hfa
  rw [hv] at e1; cases e1
  obtain ⟨u', e3, e4⟩ := ev_val (names := names) (vals := vals) (prs b) b.f_Off hfb
  rw [hu] at e3; cases e3
  unfold evalP
  rw [if_pos (norm_mk hN), w1]
  simp only [Prod.mk.injEq, and_true]
  rw [← hw]
  refine wrap_cg (w2.trans ?_)
  have h1 : cg r.f_Off (a.f_Off + c * b.f_Off) := by
    rw [hoff]
    exact (cg_wrap _).trans ((cg.refl _).add (cg_wrap _))
  have h2 := h1.add (htot (vf names vals))
  refine h2.trans ?_
  obtain ⟨z1, q1⟩ := e2
  obtain ⟨z2, q2⟩ := e4
  refine ⟨-z1 - c * z2, ?_⟩
  rw [q1, q2]
  have h3 : c * (b.f_Off + tot (vf names vals) (prs b) + 18446744073709551616 * z2) = c * b.f_Off + c * tot (vf names vals) (prs b) + 18446744073709551616 * (c * z2) := by
    rw [Int.mul_add, Int.mul_add, ← Int.mul_assoc, Int.mul_comm c 18446744073709551616, Int.mul_assoc]
  rw [h3]
  omega
theorem evals_law (a b : TLin) (vals : List Int) (ha : Fits a) (hb : Fits b) : gdovetaillaw12_ExprEvals 4000000 a b vals = some true := by
  have h1 := ha.len
  have h2 := hb.len
  unfold gdovetaillaw12_ExprEvals
  rw [appL_ok (by simp; omega) (by omega)]
  simp only [Option.bind_some, List.nil_append]
  rw [appL_ok (by omega) (by omega)]
  simp only [Option.bind_some]
  have hnm : (a.f_Syms ++ b.f_Syms).length ≤ 2097152 := by rw [List.length_append]; omega
  have hK : ∀ s ∈ a.f_Syms ++ b.f_Syms, s.size ≤ 1048576 := fun s hs => by
    rcases List.mem_append.1 hs with h | h
    · exact ha.sizes s h
    · exact hb.sizes s h
  rw [eval_eqE 4000000 ha hnm (by omega), eval_eqR 4000000 ha hnm (by omega), eval_eqE 4000000 hb hnm (by omega), copy_eq _ a ha, copy_eq _ b hb]
  simp only [Option.bind_some]
  have hs1 : ((evalP a (a.f_Syms ++ b.f_Syms) vals).1 != (evalP a (a.f_Syms ++ b.f_Syms) vals).1 || !(evalP a (a.f_Syms ++ b.f_Syms) vals).2 == (evalP a (a.f_Syms ++ b.f_Syms) vals).2) = false := by simp
  have hs2 : ((evalP a (a.f_Syms ++ b.f_Syms) vals).1 != (evalP a (a.f_Syms ++ b.f_Syms) vals).1 || !((evalP a (a.f_Syms ++ b.f_Syms) vals).2 == (evalP a (a.f_Syms ++ b.f_Syms) vals).2)) = false := by simp
  simp only [hs2, cond_false]
  have hsub1 : ∀ s ∈ a.f_Syms, s ∈ a.f_Syms ++ b.f_Syms := fun s h => List.mem_append_left _ h
  have hsub2 : ∀ s ∈ b.f_Syms, s ∈ a.f_Syms ++ b.f_Syms := fun s h => List.mem_append_right _ h
  have hadd : ∃ s e, gexpr_Add 4000000 a b = some (s, e) ∧ (e = 0 → normE a = true ∧ normE b = true ∧ gexpr_plus 4000000 a b 1 = some s ∧ s.f_Syms.length ≤ 16) := by
    unfold gexpr_Add
    rw [norm_eqE _ a ha (by omega), norm_eqE _ b hb (by omega)]
    cases hna : normE a with
    | false => exact ⟨_, _, rfl, fun h => by cases h⟩
    | true =>
      cases hnb : normE b with
      | false => exact ⟨_, _, rfl, fun h => by cases h⟩
      | true =>
        have hA := norm_of hna
        have hB := norm_of hnb
        obtain ⟨r, r1, r2⟩ := plus_ok 4000000 a b 1 (a.f_Syms ++ b.f_Syms) hA.len hA.many hA.nd hB.len hB.many hK hsub1 hsub2 (by omega)
        simp only [Option.bind_some, Bool.not_true, cond_false, r1]
        by_cases h16 : r.f_Syms.length ≤ 16
        · rw [decide_eq_false (by omega : ¬ ((r.f_Syms.length : Nat) : Int) > 16)]
          exact ⟨_, _, rfl, fun _ => ⟨trivial, trivial, rfl, h16⟩⟩
        · rw [decide_eq_true (by omega : ((r.f_Syms.length : Nat) : Int) > 16)]
          exact ⟨_, _, rfl, fun h => by cases h⟩
  obtain ⟨s, e, hs, he⟩ := hadd
  rw [hs]
  simp only [Option.bind_some]
  obtain ⟨v, ok, hva⟩ : ∃ v ok, evalP a (a.f_Syms ++ b.f_Syms) vals = (v, ok) := ⟨_, _, rfl⟩
  obtain ⟨u, there, hub⟩ : ∃ v ok, evalP b (a.f_Syms ++ b.f_Syms) vals = (v, ok) := ⟨_, _, rfl⟩
  rw [hva, hub]
  simp only
  cases ok with
  | false => rfl
  | true =>
    cases there with
    | false => rfl
    | true =>
      by_cases he0 : e = 0
      case neg =>
        have : (e != 0) = true := by simpa using he0
        rw [this]; rfl
      subst he0
      obtain ⟨hna, hnb, hpl, h16⟩ := he rfl
      have hA := norm_of hna
      have hB := norm_of hnb
      obtain ⟨_, hv⟩ := evalP_norm hva
      obtain ⟨_, hu⟩ := evalP_norm hub
      obtain ⟨r, r1, r2, r3, r4, r5, r6, r7, r8⟩ := plus_ok 4000000 a b 1 (a.f_Syms ++ b.f_Syms) hA.len hA.many hA.nd hB.len hB.many hK hsub1 hsub2 (by omega)
      rw [hpl] at r1; cases r1
      have hfs : Fits (TLin.mk s.f_Syms s.f_Times s.f_Off) := ⟨by simp only; omega, by simp only; omega, fun x hx => hK x (r4 x hx)⟩
      have hE : (TLin.mk s.f_Syms s.f_Times s.f_Off) = s := rfl
      have hvs := sum_val 0 hA hB h16 hv hu r2 r4 r5 r6 r7 r8
      have hO : Norm (TLin.mk ([] : List ByteArray) ([] : List Int) 0) := ⟨rfl, by simp, by simp, by simp, by simp⟩
      obtain ⟨t, t1, t2, t3, t4, t5, t6, t7, t8⟩ := plus_ok 4000000 (TLin.mk ([] : List ByteArray) ([] : List Int) 0) a 7 a.f_Syms hO.len hO.many hO.nd hA.len hA.many ha.sizes (by simp) (fun s h => h) (by omega)
      have ht16 : t.f_Syms.length ≤ 16 := by
        have := hA.many
        simp only [List.length_nil, Nat.zero_add] at t3; omega
      have hft : Fits t := ⟨by omega, by omega, fun x hx => ha.sizes x (t4 x hx)⟩
      have hvt := sum_val 0 (c := 7) (names := a.f_Syms ++ b.f_Syms) (vals := vals) (v := 0) (u := v) hO hA ht16 rfl hv t2 (by simpa using t4) t5 t6 t7 t8
      have htimes : gexpr_Times 4000000 a 7 = some t := by
        unfold gexpr_Times
        rw [norm_eqE _ a ha (by omega), hna]
        simp only [Option.bind_some, Bool.not_true, cond_false, t1]
      rw [htimes, eval_eqE 4000000 hfs hnm (by omega), hE, hvs]
      simp only [Option.bind_some]
      rw [eval_eqE 4000000 hft hnm (by omega), hvt]
      simp only [Option.bind_some, Int.one_mul, Int.zero_add, Bool.not_true, Bool.or_self, Bool.false_or]
      simp
end Go.DM
namespace Go.DM
open Go

theorem bs_app (s t : ByteArray) : bs (s ++ t) = bs s ++ bs t := by
  simp [bs, ByteArray.data_append]
theorem catS_ok {s t : ByteArray} (h : s.size + t.size ≤ 4000000000) : catS s t = some (s ++ t) := by
  unfold catS
  rw [if_neg]
  have : IntKind.i64.max = 9223372036854775807 := rfl
  rw [this]; omega
theorem bs_mk (l : List UInt8) : bs (⟨l.toArray⟩ : ByteArray) = l.map fun b => (b.toNat : Int) := by simp [bs]

/-! numerals -/
theorem parseU_app : ∀ (a b : List UInt8) (acc u : Nat), Lib.parseUint10 acc a = .ok u → Lib.parseUint10 acc (a ++ b) = Lib.parseUint10 u b
  | [], b, acc, u, h => by rw [Lib.parseUint10] at h; injection h with h; rw [h]; rfl
  | c :: a, b, acc, u, h => by
    rw [Lib.parseUint10] at h
    rw [List.cons_append, Lib.parseUint10]
    by_cases h1 : 48 ≤ c.toNat ∧ c.toNat ≤ 57
    · rw [if_pos h1] at h ⊢
      by_cases h2 : 1844674407370955162 ≤ acc
      · rw [if_pos h2] at h; cases h
      · rw [if_neg h2] at h ⊢
        by_cases h3 : 18446744073709551616 ≤ acc * 10 + (c.toNat - 48)
        · rw [if_pos h3] at h; cases h
        · rw [if_neg h3] at h ⊢
          exact parseU_app a b _ u h
    · rw [if_neg h1] at h; cases h
theorem dec_facts : ∀ (n u : Nat), u ≤ n → u ≤ 9223372036854775808 → Lib.parseUint10 0 (Lib.decDigits u) = .ok u ∧ (∀ c ∈ Lib.decDigits u, 48 ≤ c.toNat ∧ c.toNat ≤ 57) ∧ Lib.decDigits u ≠ []
  | n, u, hn, hu => by
    rw [Lib.decDigits]
    by_cases h : u < 10
    · rw [dif_pos h]
      have e : (UInt8.ofNat (48 + u)).toNat = 48 + u := by rw [UInt8.toNat_ofNat']; omega
      refine ⟨?_, ?_, by simp⟩
      · rw [Lib.parseUint10, e, if_pos (by omega), if_neg (by omega), if_neg (by omega), Lib.parseUint10]
        congr 1; omega
      · intro c hc
        rw [List.mem_singleton] at hc
        subst hc
        omega
    · rw [dif_neg h]
      cases n with
      | zero => omega
      | succ n =>
        obtain ⟨h1, h2, h3⟩ := dec_facts n (u / 10) (by omega) (by omega)
        have e : (UInt8.ofNat (48 + u % 10)).toNat = 48 + u % 10 := by rw [UInt8.toNat_ofNat']; omega
        refine ⟨?_, ?_, by simp⟩
        · rw [parseU_app _ _ _ _ h1, Lib.parseUint10, e, if_pos (by omega), if_neg (by omega), if_neg (by omega), Lib.parseUint10]
          congr 1; omega
        · intro c hc
          rcases List.mem_append.1 hc with hc | hc
          · exact h2 c hc
          · rw [List.mem_singleton] at hc
            subst hc
            omega
theorem atoi_dec {u : Nat} (h : u ≤ 9223372036854775807) : Lib.atoiAll (Lib.decDigits u) = .ok (u : Int) := by
  obtain ⟨h1, h2, h3⟩ := dec_facts u u (Nat.le_refl _) (by omega)
  cases hd : Lib.decDigits u with
  | nil => exact absurd hd h3
  | cons c r =>
    have hc := h2 c (by rw [hd]; exact List.mem_cons_self ..)
    rw [Lib.atoiAll_plain c r (by omega) (by omega), ← hd, Lib.parseMag, if_neg h3, h1, Lib.signless, if_neg (by omega)]
/-- the digits of a number, as bytes -/
def decL (u : Nat) : List Int := (Lib.decDigits u).map fun b => (b.toNat : Int)
def decS (u : Nat) : ByteArray := ⟨(Lib.decDigits u).toArray⟩
theorem bs_decS (u : Nat) : bs (decS u) = decL u := bs_mk _
theorem decL_small {u : Nat} (h : u < 10) : decL u = [48 + (u : Int)] := by
  unfold decL
  rw [Lib.decDigits, dif_pos h]
  have e : (UInt8.ofNat (48 + u)).toNat = 48 + u := by rw [UInt8.toNat_ofNat']; omega
  simp only [List.map_cons, List.map_nil, e]
  congr 1
theorem decL_big {u : Nat} (h : ¬ u < 10) : decL u = decL (u / 10) ++ [48 + ((u % 10 : Nat) : Int)] := by
  unfold decL
  rw [Lib.decDigits, dif_neg h]
  have e : (UInt8.ofNat (48 + u % 10)).toNat = 48 + u % 10 := by rw [UInt8.toNat_ofNat']; omega
  simp only [List.map_append, List.map_cons, List.map_nil, e]
  congr 1
theorem decL_facts {u : Nat} (h : u ≤ 9223372036854775808) : (∀ c ∈ decL u, 48 ≤ c ∧ c ≤ 57) ∧ decL u ≠ [] ∧ (decL u).length ≤ 21 := by
  obtain ⟨h1, h2, h3⟩ := dec_facts u u (Nat.le_refl _) h
  refine ⟨fun c hc => ?_, by unfold decL; simpa using h3, ?_⟩
  · obtain ⟨b, hb, rfl⟩ := List.mem_map.1 hc
    have := h2 b hb
    omega
  · unfold decL
    rw [List.length_map]
    have hl : Lib.decDigits u = (Lib.itoa (-(u : Int))).tail ∨ Lib.decDigits u = Lib.itoa (u : Int) := by
      by_cases h0 : u = 0
      · right; rw [h0]; rfl
      · left; rw [Lib.itoa_neg u (by omega)]; rfl
    rcases hl with hl | hl
    · rw [hl, List.length_tail]
      have := Lib.itoa_length_le (-(u : Int)) (by omega) (by omega)
      omega
    · by_cases h9 : u ≤ 9223372036854775807
      · rw [hl]; exact Lib.itoa_length_le _ (by omega) (by omega)
      · have hu : u = 9223372036854775808 := by omega
        have hn := Lib.itoa_neg u (by omega)
        have h5 : (Lib.decDigits u).length + 1 = (Lib.itoa (-(u : Int))).length := by rw [hn]; rfl
        have := Lib.itoa_length_le (-(u : Int)) (by omega) (by omega)
        omega
/-- a number of 64 bits -/
def R64 (t : Int) : Prop := -9223372036854775808 ≤ t ∧ t ≤ 9223372036854775807
def minS : ByteArray := ByteArray.mk #[48, 120, 56, 48, 48, 48, 48, 48, 48, 48, 48, 48, 48, 48, 48, 48, 48, 48]
/-- how a number is written -/
def digS (t : Int) : ByteArray := if t = -9223372036854775808 then minS else ⟨(Lib.itoa t).toArray⟩
def digL (t : Int) : List Int := bs (digS t)
theorem digL_min : digL (-9223372036854775808) = bs minS := by unfold digL digS; rw [if_pos rfl]
theorem digL_nonneg {u : Nat} : digL (u : Int) = decL u := by
  unfold digL digS
  rw [if_neg (by omega), Lib.itoa_nonneg, bs_mk]; rfl
theorem digL_neg {u : Nat} (h1 : 1 ≤ u) (h2 : u ≤ 9223372036854775807) : digL (-(u : Int)) = 45 :: decL u := by
  unfold digL digS
  rw [if_neg (by omega), Lib.itoa_neg u h1, bs_mk]; rfl
theorem digits_eqE (n : Nat) {t : Int} (h : R64 t) : gexpr_digits n t = some (digS t) := by
  unfold gexpr_digits digS
  by_cases hm : t = -9223372036854775808
  · subst hm; rfl
  · rw [if_neg hm, beq_false_of_ne hm]
    have : itoaT t = some ⟨(Lib.itoa t).toArray⟩ := by unfold itoaT; unfold R64 at h; rw [if_pos h]
    rw [this]; rfl
theorem digS_size {t : Int} (h : R64 t) : (digS t).size ≤ 21 := by
  unfold digS
  split
  · decide
  · show (Lib.itoa t).toArray.size ≤ 21
    rw [List.size_toArray]
    exact Lib.itoa_length_le t h.1 h.2
theorem wrap_u8E {x : Int} (h0 : 0 ≤ x) (h1 : x ≤ 255) : IntKind.wrap .u8 x = x := by exact wrap_u8 h0 (by omega)
theorem digitsR_pos (N : Nat) : ∀ (k u : Nat), u < 10 ^ (k + 1) → u ≤ 9223372036854775807 → gdovetailref12_Digits_rec N (k + 1) (u : Int) = some (decS u) := by
  intro k
  induction k with
  | zero =>
    intro u h hu
    have h10 : u < 10 := by simpa using h
    rw [gdovetailref12_Digits_rec, beq_false_of_ne (by omega), decide_eq_false (by omega), decide_eq_false (by omega)]
    simp only [cond_false]
    rw [w64 (by omega) (by omega), wrap_u8E (by omega) (by omega)]
    congr 1
    refine bs_inj ?_
    rw [bs_ofB (by simp; omega), bs_decS, decL_small h10]
  | succ k ih =>
    intro u h hu
    rw [gdovetailref12_Digits_rec, beq_false_of_ne (by omega), decide_eq_false (by omega)]
    simp only [cond_false]
    by_cases h10 : u < 10
    · rw [decide_eq_false (by omega)]
      simp only [cond_false]
      rw [w64 (by omega) (by omega), wrap_u8E (by omega) (by omega)]
      congr 1
      refine bs_inj ?_
      rw [bs_ofB (by simp; omega), bs_decS, decL_small h10]
    · rw [decide_eq_true (by omega)]
      simp only [cond_true]
      have hq : Int.tdiv (u : Int) 10 = ((u / 10 : Nat) : Int) := by rw [Int.tdiv_eq_ediv_of_nonneg (by omega)]; omega
      have hr : Int.tmod (u : Int) 10 = ((u % 10 : Nat) : Int) := by rw [Int.tmod_eq_emod_of_nonneg (by omega)]; omega
      rw [hq, hr, w64 (by omega) (by omega), ih (u / 10) (by rw [Nat.pow_succ] at h; omega) (by omega)]
      simp only [Option.bind_some]
      rw [w64 (n := 48 + ((u % 10 : Nat) : Int)) (by omega) (by omega), wrap_u8E (by omega) (by omega)]
      have hl := (decL_facts (u := u / 10) (by omega)).2.2
      rw [← bs_decS, bs_length] at hl
      have hb : bs (ofB [48 + ((u % 10 : Nat) : Int)]) = [48 + ((u % 10 : Nat) : Int)] := bs_ofB (by simp; omega)
      have hl2 : (ofB [48 + ((u % 10 : Nat) : Int)]).size = 1 := by rw [← bs_length, hb]; rfl
      rw [catS_ok (by omega)]
      simp only [Option.bind_some]
      congr 1
      refine bs_inj ?_
      rw [bs_app, hb, bs_decS, bs_decS, decL_big h10]
theorem digits_eqR (n : Nat) (hn : 30 < n) {t : Int} (h : R64 t) : gdovetailref12_Digits n t = some (digS t) := by
  unfold gdovetailref12_Digits
  obtain ⟨m, rfl⟩ : ∃ m, n = m + 1 + 1 := ⟨n - 2, by omega⟩
  have big : (10 : Nat) ^ 20 ≤ 10 ^ (m + 1) := Nat.pow_le_pow_right (by omega) (by omega)
  have big2 : (9223372036854775807 : Nat) < 10 ^ 20 := by decide
  unfold R64 at h
  by_cases hm : t = -9223372036854775808
  · subst hm
    rw [gdovetailref12_Digits_rec]
    unfold digS; rfl
  · by_cases h0 : t < 0
    · obtain ⟨u, rfl⟩ : ∃ u : Nat, t = -(u : Int) := ⟨t.natAbs, by omega⟩
      rw [gdovetailref12_Digits_rec, beq_false_of_ne hm, decide_eq_true h0]
      simp only [cond_false, cond_true]
      rw [show (0 : Int) - -(u : Int) = (u : Int) by omega, w64 (by omega) (by omega), digitsR_pos _ m u (by omega) (by omega)]
      simp only [Option.bind_some]
      have hl := (decL_facts (u := u) (by omega)).2.2
      rw [← bs_decS, bs_length] at hl
      rw [catS_ok (by rw [show (ByteArray.mk #[45]).size = 1 from rfl]; omega)]
      simp only [Option.bind_some]
      congr 1
      refine bs_inj ?_
      rw [bs_app, bs_decS]
      show _ = digL (-(u : Int))
      rw [digL_neg (by omega) (by omega)]; rfl
    · obtain ⟨u, rfl⟩ : ∃ u : Nat, t = (u : Int) := ⟨t.toNat, by omega⟩
      rw [digitsR_pos _ (m + 1) u (by rw [Nat.pow_succ]; omega) (by omega)]
      congr 1

/-! what is printed -/
def itemL (p : ByteArray × Int) : List Int := digL p.2 ++ 42 :: (bs p.1 ++ [43])
def restL (q : List (ByteArray × Int)) (off : Int) : List Int := q.flatMap itemL ++ digL off
/-- numbers of 64 bits -/
structure Nums (a : TLin) : Prop where
  times : ∀ t ∈ a.f_Times, R64 t
  off : R64 a.f_Off
theorem appL1_ok {l m : List Int} (h : l.length + m.length ≤ 100000000) : appL 1 l m = some (l ++ m) := by
  unfold appL
  rw [if_pos (by omega)]
theorem item_len {p : ByteArray × Int} (h : R64 p.2) (hs : p.1.size ≤ 1048576) : (itemL p).length ≤ 1048600 := by
  have h1 := digS_size h
  have h2 := bs_length p.1
  have h3 : (digL p.2).length = (digS p.2).size := bs_length _
  unfold itemL
  simp only [List.length_append, List.length_cons, List.length_nil]
  omega
section
variable {a : TLin}
theorem tim_mem {i : Nat} (h : i < a.f_Times.length) : tim a i ∈ a.f_Times := by simp [tim, h]
theorem one_item (n : Nat) {s : ByteArray} {t : Int} (h : R64 t) (hs : s.size ≤ 1048576) : ∃ w, (catS (digS t) (ByteArray.mk #[42])).bind (fun x => (catS x s).bind fun y => catS y (ByteArray.mk #[43])) = some w ∧ bs w = itemL (s, t) := by
  have h1 := digS_size h
  have e1 : (ByteArray.mk #[42]).size = 1 := rfl
  have e2 : (ByteArray.mk #[43]).size = 1 := rfl
  rw [catS_ok (by omega)]
  simp only [Option.bind_some]
  rw [catS_ok (by rw [ByteArray.size_append]; omega)]
  simp only [Option.bind_some]
  rw [catS_ok (by rw [ByteArray.size_append, ByteArray.size_append]; omega)]
  refine ⟨_, rfl, ?_⟩
  rw [bs_app, bs_app, bs_app]
  show digL t ++ [42] ++ bs s ++ [43] = _
  unfold itemL
  simp
theorem printE_loop (N : Nat) (hab : a.f_Syms.length = a.f_Times.length) (h16 : a.f_Syms.length ≤ 16) (hf : Fits a) (hN : Nums a) : ∀ (k y m : Nat) (l : List Int), a.f_Syms.length - y ≤ k → k < m → y ≤ a.f_Syms.length → l.length ≤ y * 1048600 →
    gexpr_Print_L1 N a m (y : Int) l = some (l ++ ((prs a).drop y).flatMap itemL) := by
  have hpl := prs_len hab
  intro k
  induction k with
  | zero =>
    intro y m l hk hm hy hl
    obtain ⟨m, rfl⟩ : ∃ m', m = m' + 1 := ⟨m - 1, by omega⟩
    rw [gexpr_Print_L1, decide_eq_false (by omega), List.drop_eq_nil_of_le (by omega)]
    simp
  | succ k ih =>
    intro y m l hk hm hy hl
    obtain ⟨m, rfl⟩ : ∃ m', m = m' + 1 := ⟨m - 1, by omega⟩
    rw [gexpr_Print_L1]
    by_cases hlt : y < a.f_Syms.length
    · have ht := hN.times _ (tim_mem (a := a) (i := y) (by omega))
      have hs := hf.sizes _ (sym_mem hlt)
      rw [decide_eq_true (by omega : (y : Int) < (a.f_Syms.length : Nat)), atL_sym hlt, atL_tim (by omega), drop_at (prs_at hab hlt)]
      simp only [cond_true, Option.bind_some, digits_eqE N ht]
      obtain ⟨w, hw, hb⟩ := one_item N ht hs
      have hil := item_len (p := (sym a y, tim a y)) ht hs
      cases h1 : catS (digS (tim a y)) (ByteArray.mk #[42]) with
      | none => rw [h1] at hw; cases hw
      | some x =>
        rw [h1] at hw
        simp only [Option.bind_some] at hw ⊢
        cases h2 : catS x (sym a y) with
        | none => rw [h2] at hw; cases hw
        | some z =>
          rw [h2] at hw
          simp only [Option.bind_some] at hw ⊢
          rw [hw]
          simp only [Option.bind_some, hb]
          rw [appL1_ok (by omega)]
          simp only [Option.bind_some]
          rw [w64_succ (by omega), ih (y + 1) m _ (by omega) (by omega) (by omega) (by rw [List.length_append]; omega)]
          simp
    · rw [decide_eq_false (by omega), List.drop_eq_nil_of_le (by omega)]
      simp
theorem items_len : ∀ (q : List (ByteArray × Int)), (∀ p ∈ q, R64 p.2 ∧ p.1.size ≤ 1048576) → (q.flatMap itemL).length ≤ q.length * 1048600
  | [], _ => by simp
  | p :: q, h => by
    have h1 := items_len q (fun x hx => h x (by simp [hx]))
    have h2 := item_len (h p (by simp)).1 (h p (by simp)).2
    rw [List.flatMap_cons, List.length_append, List.length_cons]
    omega
theorem prs_ok (hf : Fits a) (hN : Nums a) : ∀ p ∈ prs a, R64 p.2 ∧ p.1.size ≤ 1048576 := fun p hp =>
  ⟨hN.times _ (List.of_mem_zip hp).2, hf.sizes _ (List.of_mem_zip hp).1⟩
theorem print_eqE (n : Nat) (hf : Fits a) (hN : Nums a) (hn : 1048580 < n) (h : normE a = true) : ∃ s, gexpr_Print n a = some (s, 0) ∧ bs s = restL (prs a) a.f_Off ∧ s.size ≤ 17000000 := by
  obtain ⟨h1, h2⟩ := norm_len h
  unfold gexpr_Print
  rw [norm_eqE n a hf (by omega), h]
  have hp := printE_loop n h1 h2 hf hN a.f_Syms.length 0 n [] (by omega) (by omega) (by omega) (by simp)
  rw [List.drop_zero] at hp
  simp only [List.nil_append, Int.natCast_zero] at hp
  simp only [Option.bind_some, Bool.not_true, cond_false, hp]
  have hil := items_len _ (prs_ok hf hN)
  have hpl := prs_len h1
  have hds := digS_size hN.off
  have hdl : (bs (digS a.f_Off)).length = (digS a.f_Off).size := bs_length _
  rw [digits_eqE n hN.off]
  simp only [Option.bind_some]
  rw [appL1_ok (by omega)]
  simp only [Option.bind_some]
  have hlen : ((prs a).flatMap itemL ++ bs (digS a.f_Off)).length ≤ 17000000 := by rw [List.length_append]; omega
  have hst : strT ((prs a).flatMap itemL ++ bs (digS a.f_Off)) = some (ofB ((prs a).flatMap itemL ++ bs (digS a.f_Off))) := by
    unfold strT; rw [if_pos (by omega)]
  rw [hst]
  have hb : bs (ofB ((prs a).flatMap itemL ++ bs (digS a.f_Off))) = (prs a).flatMap itemL ++ bs (digS a.f_Off) := bs_ofB (fun c hc => by
    rcases List.mem_append.1 hc with hc | hc
    · obtain ⟨p, hp, hc⟩ := List.mem_flatMap.1 hc
      unfold itemL at hc
      rcases List.mem_append.1 hc with hc | hc
      · exact bs_byte hc
      · rcases List.mem_cons.1 hc with rfl | hc
        · omega
        · rcases List.mem_append.1 hc with hc | hc
          · exact bs_byte hc
          · simp at hc; omega
    · exact bs_byte hc)
  exact ⟨_, rfl, hb, by rw [← bs_length, hb]; exact hlen⟩
theorem printR_loop (N : Nat) (hNN : 30 < N) (hab : a.f_Syms.length = a.f_Times.length) (h16 : a.f_Syms.length ≤ 16) (hf : Fits a) (hN : Nums a) : ∀ (k y m : Nat) (l : ByteArray), a.f_Syms.length - y ≤ k → k < m → y ≤ a.f_Syms.length → l.size ≤ y * 1048600 →
    ∃ r, gdovetailref12_Print_L1 N a m l (y : Int) = some r ∧ bs r = bs l ++ ((prs a).drop y).flatMap itemL := by
  have hpl := prs_len hab
  intro k
  induction k with
  | zero =>
    intro y m l hk hm hy hl
    obtain ⟨m, rfl⟩ : ∃ m', m = m' + 1 := ⟨m - 1, by omega⟩
    rw [gdovetailref12_Print_L1, decide_eq_false (by omega), List.drop_eq_nil_of_le (by omega)]
    exact ⟨_, rfl, by simp⟩
  | succ k ih =>
    intro y m l hk hm hy hl
    obtain ⟨m, rfl⟩ : ∃ m', m = m' + 1 := ⟨m - 1, by omega⟩
    rw [gdovetailref12_Print_L1]
    by_cases hlt : y < a.f_Syms.length
    · have ht := hN.times _ (tim_mem (a := a) (i := y) (by omega))
      have hs := hf.sizes _ (sym_mem hlt)
      rw [decide_eq_true (by omega : (y : Int) < (a.f_Syms.length : Nat)), atL_sym hlt, atL_tim (by omega), drop_at (prs_at hab hlt)]
      simp only [cond_true, Option.bind_some, digits_eqR N hNN ht]
      obtain ⟨w, hw, hb⟩ := one_item N ht hs
      have hil := item_len (p := (sym a y, tim a y)) ht hs
      have hwl : w.size ≤ 1048600 := by rw [← bs_length, hb]; exact hil
      cases h1 : catS (digS (tim a y)) (ByteArray.mk #[42]) with
      | none => rw [h1] at hw; cases hw
      | some x =>
        rw [h1] at hw
        simp only [Option.bind_some] at hw ⊢
        cases h2 : catS x (sym a y) with
        | none => rw [h2] at hw; cases hw
        | some z =>
          rw [h2] at hw
          simp only [Option.bind_some] at hw ⊢
          rw [hw]
          simp only [Option.bind_some]
          rw [catS_ok (by omega)]
          simp only [Option.bind_some]
          rw [w64_succ (by omega)]
          obtain ⟨r, r1, r2⟩ := ih (y + 1) m (l ++ w) (by omega) (by omega) (by omega) (by rw [ByteArray.size_append]; omega)
          refine ⟨r, r1, ?_⟩
          rw [r2, bs_app, hb]
          simp
    · rw [decide_eq_false (by omega), List.drop_eq_nil_of_le (by omega)]
      exact ⟨_, rfl, by simp⟩
theorem print_eqR (n : Nat) (hn : 30 < n) (hf : Fits a) (hN : Nums a) (h : normE a = true) : ∃ s, gdovetailref12_Print n a = some s ∧ bs s = restL (prs a) a.f_Off := by
  obtain ⟨h1, h2⟩ := norm_len h
  unfold gdovetailref12_Print
  obtain ⟨r, r1, r2⟩ := printR_loop n hn h1 h2 hf hN a.f_Syms.length 0 n (ByteArray.mk #[]) (by omega) (by omega) (by omega) (by show (0 : Nat) ≤ _; omega)
  rw [List.drop_zero] at r2
  simp only [Int.natCast_zero] at r1
  rw [r1, digits_eqR n hn hN.off]
  have hil := items_len _ (prs_ok hf hN)
  have hpl := prs_len h1
  have hds := digS_size hN.off
  have hrl : r.size = ((prs a).flatMap itemL).length := by rw [← bs_length, r2]; rfl
  simp only [Option.bind_some]
  rw [catS_ok (by omega)]
  refine ⟨_, rfl, ?_⟩
  rw [bs_app, r2]; rfl
end
end Go.DM
namespace Go.DM
open Go

/-! the parser's steps -/
def wordE (c : Int) : Bool := letB c || digE c
theorem wordE_iff {c : Int} : wordE c = true ↔ (65 ≤ c ∧ c ≤ 90) ∨ (97 ≤ c ∧ c ≤ 122) ∨ (48 ≤ c ∧ c ≤ 57) ∨ c = 95 ∨ c = 46 ∨ c = 36 := by
  unfold wordE letB digE
  simp only [Bool.or_eq_true, Bool.and_eq_true, decide_eq_true_eq, beq_iff_eq]
  omega
theorem at_cons {s : ByteArray} {i : Nat} {c : Int} {r : List Int} (h : (bs s).drop i = c :: r) : atS s (i : Int) = some c ∧ i < s.size ∧ (bs s).drop (i + 1) = r := by
  obtain ⟨h1, h2, h3⟩ := drop_cons_at h
  rw [bs_length] at h3
  exact ⟨by rw [atS_bs, h1], h3, h2⟩
theorem next_ch {n : Nat} {s : ByteArray} {i : Nat} {c : Int} {r : List Int} (hn : 0 < n) (h : (bs s).drop i = c :: r) (hc : c ≠ 32) : gexpr_parser__next n s (i : Int) = some (c, (i : Int)) := by
  obtain ⟨h1, h2, _⟩ := at_cons h
  obtain ⟨m, rfl⟩ : ∃ m, n = m + 1 := ⟨n - 1, by omega⟩
  unfold gexpr_parser__next
  rw [gexpr_parser__next_L1, decide_eq_true (by omega : (i : Int) < (s.size : Nat)), h1]
  simp only [cond_true, Option.bind_some, beq_false_of_ne hc, cond_false]
  rw [beq_false_of_ne (by omega : (i : Int) ≠ (s.size : Nat))]
  simp only [cond_false, h1, Option.bind_some]
theorem next_end {n : Nat} {s : ByteArray} (hn : 0 < n) : gexpr_parser__next n s ((s.size : Nat) : Int) = some (0, ((s.size : Nat) : Int)) := by
  obtain ⟨m, rfl⟩ : ∃ m, n = m + 1 := ⟨n - 1, by omega⟩
  unfold gexpr_parser__next
  rw [gexpr_parser__next_L1, decide_eq_false (by omega)]
  simp only [cond_false, Option.bind_some, beq_self_eq_true, cond_true]
/-- what stands behind a word -/
def Stop (r : List Int) : Prop := ∀ c q, r = c :: q → wordE c = false
theorem run_loop {N : Nat} {s : ByteArray} (hs : s.size ≤ 1000000000) : ∀ (w : List Int) (i m : Nat) (r : List Int), (bs s).drop i = w ++ r → (∀ c ∈ w, wordE c = true) → Stop r → w.length < m → i + w.length ≤ s.size → gexpr_parser__run_L1 N s m (i : Int) = some ((i + w.length : Nat) : Int)
  | [], i, m, r, h, _, hr, hm, hi => by
    obtain ⟨m, rfl⟩ : ∃ m', m = m' + 1 := ⟨m - 1, by simp at hm; omega⟩
    rw [gexpr_parser__run_L1]
    rw [List.nil_append] at h
    cases r with
    | nil =>
      have := drop_nil_le h
      rw [bs_length] at this
      rw [decide_eq_false (by omega)]; rfl
    | cons c q =>
      obtain ⟨h1, h2, _⟩ := at_cons h
      have hc := hr c q rfl
      unfold wordE at hc
      rw [Bool.or_eq_false_iff] at hc
      rw [decide_eq_true (by omega : (i : Int) < (s.size : Nat)), h1]
      simp only [cond_true, Option.bind_some, letE_eq, digE_eq, hc.1, hc.2, cond_false, List.length_nil, Nat.add_zero]
  | c :: w, i, m, r, h, hw, hr, hm, hi => by
    obtain ⟨m, rfl⟩ : ∃ m', m = m' + 1 := ⟨m - 1, by simp at hm; omega⟩
    rw [gexpr_parser__run_L1]
    obtain ⟨h1, h2, h3⟩ := at_cons (r := w ++ r) h
    have hc := hw c (by simp)
    unfold wordE at hc
    simp only [List.length_cons] at hm hi ⊢
    rw [decide_eq_true (by omega : (i : Int) < (s.size : Nat)), h1]
    have ih := run_loop (N := N) hs w (i + 1) m r h3 (fun x hx => hw x (by simp [hx])) hr (by omega) (by omega)
    simp only [cond_true, Option.bind_some, letE_eq, digE_eq]
    rw [w64_succ (by omega), show ((i + (w.length + 1) : Nat) : Int) = ((i + 1 + w.length : Nat) : Int) by omega]
    cases hl : letB c
    · rw [hl, Bool.false_or] at hc
      simp only [cond_false, hc, cond_true, Option.bind_some]
      exact ih
    · simp only [cond_true, Option.bind_some]
      exact ih
theorem run_eq {n : Nat} {s : ByteArray} (hs : s.size ≤ 1000000000) (hn : s.size < n) {w r : List Int} {i : Nat} (h : (bs s).drop i = w ++ r) (hw : ∀ c ∈ w, wordE c = true) (hr : Stop r) (hi : i ≤ s.size) : gexpr_parser__run n s (i : Int) = some (ofB w, ((i + w.length : Nat) : Int)) := by
  have hlen : ((bs s).drop i).length = w.length + r.length := by rw [h, List.length_append]
  rw [List.length_drop, bs_length] at hlen
  unfold gexpr_parser__run
  rw [run_loop hs w i n r h hw hr (by omega) (by omega)]
  simp only [Option.bind_some]
  rw [subS_nat s i (i + w.length) (by omega) (by omega), extract_ofB, h]
  simp only [Option.bind_some]
  rw [show i + w.length - i = w.length by omega, List.take_left]

/-! numbers -/
theorem pref_dig {n : Nat} {s : ByteArray} (h : ∀ c ∈ bs s, c ≠ 120) : gstringslite_HasPrefix n s (ByteArray.mk #[48, 120]) = some false := by
  unfold gstringslite_HasPrefix
  have e2 : (ByteArray.mk #[48, 120]).size = 2 := rfl
  rw [e2]
  by_cases hz : 2 ≤ s.size
  · rw [decide_eq_true (by omega)]
    simp only [cond_true]
    rw [show (0 : Int) = ((0 : Nat) : Int) from rfl, subS_nat s 0 2 (by omega) hz]
    simp only [Option.bind_some]
    rw [decide_eq_false]
    intro e
    have h1 : (120 : Int) ∈ bs (s.extract 0 2) := by rw [e]; decide
    rw [bs_extract] at h1
    exact h 120 (List.mem_of_mem_take h1) rfl
  · rw [decide_eq_false (by omega)]; rfl
theorem number_dec (n : Nat) {u : Nat} (h : u ≤ 9223372036854775807) : gexpr_number n (decS u) = some ((u : Int), true) := by
  obtain ⟨h1, h2, h3⟩ := decL_facts (u := u) (by omega)
  unfold gexpr_number gstrings_CutPrefix gstringslite_CutPrefix
  rw [pref_dig (fun c hc => by rw [bs_decS] at hc; have := h1 c hc; omega)]
  simp only [Option.bind_some, Bool.not_false, cond_true, cond_false]
  have hsz : (decS u).size ≤ 281474976710656 := by rw [← bs_length, bs_decS]; omega
  have ha : atoiT (decS u) = some ((u : Int), false) := by
    unfold atoiT
    rw [if_pos hsz]
    have : (decS u).data.toList = Lib.decDigits u := by simp [decS]
    rw [this, atoi_dec h]
  have hi : itoaT (u : Int) = some (decS u) := by
    unfold itoaT
    rw [if_pos (by omega), Lib.itoa_nonneg]; rfl
  rw [ha]
  simp only [Option.bind_some, Bool.not_false, cond_true, hi, decide_true]
theorem number_min (n : Nat) : gexpr_number n minS = some (-9223372036854775808, true) := by
  have hp : gstringslite_HasPrefix n minS (ByteArray.mk #[48, 120]) = some true := by
    unfold gstringslite_HasPrefix
    decide
  have hc : subS minS (((ByteArray.mk #[48, 120]).size : Nat) : Int) ((minS.size : Nat) : Int) = some numU := by decide
  unfold gexpr_number gstrings_CutPrefix gstringslite_CutPrefix
  rw [hp]
  simp only [Option.bind_some, Bool.not_true, cond_false, hc, cond_true]
  have hu : parseUintT numU 16 64 = some (9223372036854775808, false) := by
    unfold parseUintT; rw [if_pos ⟨rfl, rfl, rfl⟩]
  have hl : toLowerT numU = some numU := by decide
  rw [hu]
  simp only [Option.bind_some, hl]
  decide

/-! factors -/
def none0 : TLin := TLin.mk ([] : List ByteArray) ([] : List Int) 0
theorem plus_off (n : Nat) (hn : 1000 < n) (x y c : Int) : gexpr_plus n (TLin.mk [] [] x) (TLin.mk [] [] y) c = some (TLin.mk [] [] (IntKind.wrap .i64 (x + IntKind.wrap .i64 (c * y)))) := by
  obtain ⟨r, h1, h2, h3, _, _, _, h7, _⟩ := plus_ok n (TLin.mk [] [] x) (TLin.mk [] [] y) c [] rfl (by simp) (by simp) rfl (by simp) (by simp) (by simp) (by simp) hn
  rw [h1]
  obtain ⟨a, b, o⟩ := r
  simp only [List.length_nil, Nat.add_zero, Nat.le_zero_eq, List.length_eq_zero_iff] at h2 h3 h7
  subst h3
  have : b = [] := List.eq_nil_of_length_eq_zero (by simpa using h2.symm)
  subst this
  subst h7
  rfl
theorem digL_facts {t : Int} (h : R64 t) (h0 : 0 ≤ t ∨ t = -9223372036854775808) : (∀ c ∈ digL t, wordE c = true) ∧ (∃ c r, digL t = c :: r ∧ 48 ≤ c ∧ c ≤ 57) ∧ ∀ n, gexpr_number n (ofB (digL t)) = some (t, true) := by
  have hob : ofB (digL t) = digS t := ofB_bs _
  rcases h0 with h0 | h0
  · obtain ⟨u, rfl⟩ : ∃ u : Nat, t = (u : Int) := ⟨t.toNat, by omega⟩
    have hu : u ≤ 9223372036854775807 := by have := h.2; omega
    obtain ⟨h1, h2, h3⟩ := decL_facts (u := u) (by omega)
    rw [digL_nonneg]
    refine ⟨fun c hc => wordE_iff.2 (by have := h1 c hc; omega), ?_, fun n => ?_⟩
    · cases hd : decL u with
      | nil => exact absurd hd h2
      | cons c r => exact ⟨c, r, rfl, h1 c (by rw [hd]; simp)⟩
    · rw [← bs_decS, ofB_bs]; exact number_dec n hu
  · subst h0
    refine ⟨?_, ?_, fun n => ?_⟩
    · rw [digL_min]; decide
    · rw [digL_min]; exact ⟨48, (bs minS).tail, rfl, by omega, by omega⟩
    · rw [digL_min, ofB_bs]; exact number_min n
section
variable {N : Nat} {rec : ByteArray → Int → Int → Option (PR (TLin × Int) Texpr_fault)} {s : ByteArray}
theorem factor_dig (hs : s.size ≤ 1000000000) (hN : s.size < N) {k i : Nat} {w r : List Int} {t d : Int} (h : (bs s).drop i = w ++ r) (hi : i ≤ s.size) (hw : ∀ c ∈ w, wordE c = true) (hc : ∃ c q, w = c :: q ∧ 48 ≤ c ∧ c ≤ 57) (hnum : gexpr_number N (ofB w) = some (t, true)) (hr : Stop r) :
    gexpr_parser__factor_rec N rec (k + 1) s (i : Int) d = some (.val (TLin.mk [] [] t, ((i + w.length : Nat) : Int))) := by
  obtain ⟨c, q, rfl, h1, h2⟩ := hc
  have hcons : (bs s).drop i = c :: (q ++ r) := h
  rw [gexpr_parser__factor_rec, next_ch (by omega) hcons (by omega)]
  have e1 : (c == 40) = false := beq_false_of_ne (by omega)
  have e2 : (c == 45) = false := beq_false_of_ne (by omega)
  have e3 : digE c = true := by unfold digE; rw [decide_eq_true (by omega), decide_eq_true (by omega)]; rfl
  simp only [Option.bind_some, e1, e2, Bool.or_self, Bool.false_and, cond_false, digE_eq, e3, cond_true]
  rw [run_eq hs hN h hw hr hi]
  simp only [Option.bind_some, hnum, Bool.not_true, cond_false]
theorem factor_num (hs : s.size ≤ 1000000000) (hN : s.size < N) (hN2 : 1000 < N) {k i : Nat} {r : List Int} {t : Int} (ht : R64 t) (h : (bs s).drop i = digL t ++ r) (hi : i ≤ s.size) (hr : Stop r) :
    gexpr_parser__factor_rec N rec (k + 2) s (i : Int) 0 = some (.val (TLin.mk [] [] t, ((i + (digL t).length : Nat) : Int))) := by
  by_cases h0 : 0 ≤ t ∨ t = -9223372036854775808
  · obtain ⟨h1, h2, h3⟩ := digL_facts ht h0
    exact factor_dig hs hN h hi h1 h2 (h3 N) hr
  · obtain ⟨u, rfl⟩ : ∃ u : Nat, t = -(u : Int) := ⟨t.natAbs, by omega⟩
    have hu1 : 1 ≤ u := by omega
    have hu2 : u ≤ 9223372036854775807 := by have := ht.1; omega
    rw [digL_neg hu1 hu2] at h ⊢
    have hcons : (bs s).drop i = 45 :: (decL u ++ r) := h
    obtain ⟨h1, h2, h3⟩ := at_cons hcons
    rw [gexpr_parser__factor_rec, next_ch (by omega) hcons (by omega)]
    have e1 : ((45 : Int) == 40) = false := rfl
    have e2 : ((45 : Int) == 45) = true := rfl
    have e3 : ((0 : Int) == 32) = false := rfl
    simp only [Option.bind_some, e1, e2, e3, Bool.or_true, Bool.and_false, cond_false, cond_true]
    have hR : R64 (u : Int) := ⟨by omega, by omega⟩
    obtain ⟨g1, g2, g3⟩ := digL_facts hR (.inl (by omega))
    rw [digL_nonneg] at g1 g2 g3
    rw [w64_succ (by omega), w64 (n := 0 + 1) (by omega) (by omega), factor_dig (k := k) (d := 0 + 1) hs hN h3 (by omega) g1 g2 (g3 N) hr]
    simp only [Option.bind_some]
    rw [plus_off N hN2]
    have hw : IntKind.wrap .i64 (0 + IntKind.wrap .i64 (-1 * (u : Int))) = -(u : Int) := by
      rw [w64 (n := -1 * (u : Int)) (by omega) (by omega), w64 (by omega) (by omega)]; omega
    simp only [Option.bind_some, hw]
    congr 4
    simp only [List.length_cons]; omega
theorem factor_sym (hs : s.size ≤ 1000000000) (hN : s.size < N) {k i : Nat} {x : ByteArray} {r : List Int} {d : Int} (hx : nameE x = true) (h : (bs s).drop i = bs x ++ r) (hi : i ≤ s.size) (hr : Stop r) :
    gexpr_parser__factor_rec N rec (k + 1) s (i : Int) d = some (.val (TLin.mk [x] [1] 0, ((i + x.size : Nat) : Int))) := by
  unfold nameE at hx
  rw [Bool.and_eq_true, Bool.not_eq_true', Bool.not_eq_true', decide_eq_false_iff_not] at hx
  obtain ⟨hx1, hx2⟩ := hx
  have good : ∀ j, j < x.size → badE x j = false := fun j hj => by
    cases hb : badE x j with
    | false => rfl
    | true => rw [any_range.2 ⟨j, by omega, by omega, hb⟩] at hx2; cases hx2
  have hsz : 0 < x.size := by have := mt empty_size.2 hx1; omega
  have hlen := bs_length x
  have hall : ∀ c ∈ bs x, wordE c = true := fun c hc => by
    obtain ⟨j, hj, rfl⟩ := List.mem_iff_getElem.1 hc
    have h1 := good j (by omega)
    have hch : chr x j = (bs x)[j] := by simp [chr, hj]
    unfold badE at h1
    rw [hch] at h1
    unfold wordE
    cases hl : letB (bs x)[j]
    · rw [hl] at h1
      simp only [Bool.not_false, Bool.true_and, Bool.or_eq_false_iff, Bool.not_eq_false'] at h1
      rw [h1.2]; rfl
    · rfl
  cases hb : bs x with
  | nil => rw [hb] at hlen; simp at hlen; omega
  | cons c q =>
    have hlet : letB c = true := by
      have h1 := good 0 hsz
      unfold badE at h1
      have hch : chr x 0 = c := by unfold chr; rw [hb]; rfl
      rw [hch] at h1
      simpa using h1
    have hc := wordE_iff.1 (hall c (by rw [hb]; simp))
    have hnd : digE c = false := by
      unfold letB at hlet
      unfold digE
      simp only [Bool.or_eq_true, Bool.and_eq_true, decide_eq_true_eq, beq_iff_eq] at hlet
      rw [Bool.and_eq_false_iff, decide_eq_false_iff_not, decide_eq_false_iff_not]
      omega
    have hcons : (bs s).drop i = c :: (q ++ r) := by rw [h, hb]; rfl
    rw [gexpr_parser__factor_rec, next_ch (by omega) hcons (by omega)]
    have e1 : (c == 40) = false := beq_false_of_ne (by omega)
    have e2 : (c == 45) = false := beq_false_of_ne (by omega)
    simp only [Option.bind_some, e1, e2, Bool.or_self, Bool.false_and, cond_false, digE_eq, hnd, letE_eq, hlet, cond_true]
    rw [run_eq hs hN h hall hr hi, ofB_bs, hlen]
    rfl
end
end Go.DM
namespace Go.DM
open Go

/-! sums, exactly -/
theorem upd_new {s : ByteArray} {x : Int} : ∀ {l : List (ByteArray × Int)}, s ∉ keysM l → updT l s x = l ++ [(s, x)]
  | [], _ => rfl
  | (k, v) :: r, h => by
    simp only [keysM, List.map_cons, List.mem_cons, not_or] at h
    rw [updT, if_neg h.1, upd_new h.2]; rfl
theorem of_self : ∀ (q l : List (ByteArray × Int)), (keysM l ++ keysM q).Nodup → ofF q l = l ++ q
  | [], l, _ => by simp [ofF]
  | (s, t) :: q, l, h => by
    have hs : s ∉ keysM l := fun hm => by
      rw [List.nodup_append] at h
      exact h.2.2 s hm s (by simp [keysM]) rfl
    rw [ofF, upd_new hs, of_self q (l ++ [(s, t)])]
    · simp
    · have : keysM (l ++ [(s, t)]) ++ keysM q = keysM l ++ keysM ((s, t) :: q) := by simp [keysM]
      rw [this]; exact h
theorem map_look : ∀ (m : List (ByteArray × Int)), (keysM m).Nodup → (keysM m).map (lookT m) = m.map (·.2)
  | [], _ => rfl
  | (k, v) :: r, h => by
    have h' := List.nodup_cons.1 h
    have ih := map_look r h'.2
    show lookT ((k, v) :: r) k :: (keysM r).map (lookT ((k, v) :: r)) = v :: r.map (·.2)
    rw [lookT, if_pos rfl, ← ih]
    congr 1
    refine List.map_congr_left (fun s hs => ?_)
    rw [lookT, if_neg]
    rintro rfl; exact h'.1 hs
theorem asc_nd {l : List ByteArray} (h : l.Pairwise (fun x y => strLt x y = true)) : l.Nodup := h.imp (fun {x y} hxy e => by rw [e, strLt_irr] at hxy; cases hxy)
theorem keysT_asc {m : List (ByteArray × Int)} (h : (keysM m).Pairwise (fun x y => strLt x y = true)) (hs : ∀ s ∈ keysM m, s.size ≤ 1048576) (hl : m.length ≤ 64) : keysT m = some (keysM m) := by
  obtain ⟨ks, k1, k2, k3⟩ := keys_ok (K := keysM m) (n := 64) ⟨asc_nd h, fun s hs => hs, hl⟩ (by omega) (fun s hm => by have := hs s hm; omega)
  rw [k1]
  congr 1
  exact List.Perm.eq_of_pairwise (le := fun a b => strLt a b = true) (fun a b _ _ h1 h2 => by have := strLt_trans h1 h2; rw [strLt_irr] at this; cases this) k3 h k2
def linOf (P : List (ByteArray × Int)) (off : Int) : TLin := TLin.mk (P.map (·.1)) (P.map (·.2)) off
theorem prs_linOf (P : List (ByteArray × Int)) (off : Int) : prs (linOf P off) = P := by
  show (P.map (·.1)).zip (P.map (·.2)) = P
  induction P with
  | nil => rfl
  | cons p P ih => simp [ih]
/-- what a list of entries may be -/
structure AscP (P : List (ByteArray × Int)) : Prop where
  asc : (keysM P).Pairwise (fun x y => strLt x y = true)
  nz : ∀ p ∈ P, p.2 ≠ 0
  sz : ∀ p ∈ P, p.1.size ≤ 1048576
  len : P.length ≤ 16
theorem plus_exact (n : Nat) (hn : 1000 < n) {A B P : List (ByteArray × Int)} {x y c : Int} (hA : A.length ≤ 16) (hB : B.length ≤ 16) (hm : plF c B (ofF A []) = P) (hP : AscP P) :
    gexpr_plus n (linOf A x) (linOf B y) c = some (linOf P (IntKind.wrap .i64 (x + IntKind.wrap .i64 (c * y)))) := by
  have hl : ∀ (Q : List (ByteArray × Int)) (o : Int), (linOf Q o).f_Syms.length = Q.length := fun Q o => by simp [linOf]
  have hl2 : ∀ (Q : List (ByteArray × Int)) (o : Int), (linOf Q o).f_Syms.length = (linOf Q o).f_Times.length := fun Q o => by simp [linOf]
  have hof := of_loop (a := linOf A x) n (hl2 A x) (by rw [hl]; exact hA) (linOf A x).f_Syms.length 0 n [] (by omega) (by rw [hl]; omega) (by omega)
  have hpl := plus_loop (a := linOf B y) n c (hl2 B y) (by rw [hl]; exact hB) (linOf B y).f_Syms.length 0 n (ofF A []) (by omega) (by rw [hl]; omega) (by omega)
  rw [List.drop_zero, prs_linOf] at hof hpl
  rw [hm] at hpl
  have hk := keysT_asc hP.asc (fun s hs => by obtain ⟨p, hp, rfl⟩ := List.mem_map.1 hs; exact hP.sz p hp) (by have := hP.len; omega)
  have hkl : (keysM P).length = P.length := by simp [keysM]
  have hlin := lin_loop n (Texpr_sum.mk P (IntKind.wrap .i64 (x + IntKind.wrap .i64 (c * y)))) (keysM P) (by have := hP.len; omega) (keysM P).length 0 n [] [] (by omega) (by have := hP.len; omega) (by omega) (by simp) (by simp)
  rw [List.drop_zero] at hlin
  have hF : linF P (keysM P) = keysM P := by
    unfold linF
    rw [List.filter_eq_self]
    intro s hs
    obtain ⟨p, hp, rfl⟩ := List.mem_map.1 hs
    have hv : lookT P p.1 = p.2 := by
      have h1 := map_look P (asc_nd hP.asc)
      obtain ⟨i, hi, rfl⟩ := List.mem_iff_getElem.1 hp
      have h2 : ((keysM P).map (lookT P))[i]? = (P.map (·.2))[i]? := by rw [h1]
      simpa [keysM, hi] using h2
    rw [hv]
    have := hP.nz p hp
    simpa using this
  simp only [List.nil_append, Int.natCast_zero, hF, map_look P (asc_nd hP.asc)] at hlin hof hpl
  unfold gexpr_plus gexpr_of
  rw [hof]
  simp only [Option.bind_some]
  rw [hpl]
  simp only [Option.bind_some]
  unfold gexpr_sum__lin
  simp only
  show ((keysT P).bind _).bind _ = _
  rw [hk]
  simp only [Option.bind_some]
  have e1 : (linOf A x).f_Off = x := rfl
  have e2 : (linOf B y).f_Off = y := rfl
  rw [e1, e2, hlin]
  rfl

/-! products -/
theorem drop_more {l w r : List Int} {i : Nat} (h : l.drop i = w ++ r) : l.drop (i + w.length) = r := by
  rw [← List.drop_drop, h, List.drop_left]
theorem stop_cons {c : Int} {r : List Int} (h : wordE c = false) : Stop (c :: r) := fun d q e => by cases e; exact h
theorem stop_nil : Stop [] := fun d q e => by cases e
section
variable {N : Nat} {rec : ByteArray → Int → Int → Option (PR (TLin × Int) Texpr_fault)} {s : ByteArray}
theorem prod_off (hs : s.size ≤ 1000000000) (hN : s.size < N) (hN2 : 1000 < N) {i : Nat} {t : Int} (ht : R64 t) (h : (bs s).drop i = digL t) (hi : i ≤ s.size) :
    gexpr_parser__product N rec s (i : Int) 0 = some (.val (linOf [] t, ((s.size : Nat) : Int))) := by
  obtain ⟨k, hk⟩ : ∃ k, N = k + 2 := ⟨N - 2, by omega⟩
  have hlen : i + (digL t).length = s.size := by
    have := congrArg List.length h
    rw [List.length_drop, bs_length] at this
    omega
  have hf := factor_num (rec := rec) (k := k) (r := []) hs hN hN2 ht (by rw [List.append_nil]; exact h) hi stop_nil
  rw [← hk, hlen] at hf
  unfold gexpr_parser__product gexpr_parser__factor
  rw [hf]
  simp only [Option.bind_some]
  obtain ⟨m, hm⟩ : ∃ m, N = m + 1 := ⟨N - 1, by omega⟩
  have hL : gexpr_parser__product_L1 N rec s 0 N ((s.size : Nat) : Int) [] [] t = some (.out ([], [], t, ((s.size : Nat) : Int))) := by
    conv => lhs; arg 5; rw [hm]
    rw [gexpr_parser__product_L1, next_end (by omega)]
    rfl
  rw [hL]; rfl
theorem prod_item (hs : s.size ≤ 1000000000) (hN : s.size < N) (hN2 : 1000 < N) {i : Nat} {t : Int} {x : ByteArray} {r : List Int} (ht : R64 t) (ht0 : t ≠ 0) (hx : nameE x = true) (hxs : x.size ≤ 1048576) (h : (bs s).drop i = itemL (x, t) ++ r) (hi : i ≤ s.size) :
    ∃ j : Nat, gexpr_parser__product N rec s (i : Int) 0 = some (.val (linOf [(x, t)] 0, (j : Int))) ∧ (bs s).drop j = 43 :: r ∧ j ≤ s.size := by
  obtain ⟨k, hk⟩ : ∃ k, N = k + 2 := ⟨N - 2, by omega⟩
  have h1 : (bs s).drop i = digL t ++ 42 :: (bs x ++ 43 :: r) := by rw [h]; unfold itemL; simp
  have h2 : (bs s).drop (i + (digL t).length) = 42 :: (bs x ++ 43 :: r) := drop_more h1
  obtain ⟨_, g1, h3⟩ := at_cons h2
  have h4 : (bs s).drop (i + (digL t).length + 1 + (bs x).length) = 43 :: r := drop_more h3
  rw [bs_length] at h4
  obtain ⟨_, g2, _⟩ := at_cons h4
  have hf := factor_num (rec := rec) (k := k) hs hN hN2 ht h1 hi (stop_cons (by decide))
  rw [← hk] at hf
  have hg := factor_sym (rec := rec) (N := N) (k := k + 1) (d := 0) hs hN hx h3 (by omega) (stop_cons (by decide))
  rw [show k + 1 + 1 = N by omega] at hg
  have hp : gexpr_plus N (TLin.mk [] [] 0) (TLin.mk [x] [1] 0) t = some (linOf [(x, t)] 0) := by
    have := plus_exact N hN2 (A := []) (B := [(x, 1)]) (P := [(x, t)]) (x := 0) (y := 0) (c := t) (by simp) (by simp) (by
        show [(x, IntKind.wrap .i64 (0 + IntKind.wrap .i64 (t * 1)))] = _
        rw [Int.mul_one, w64 (n := t) ht.1 (by have := ht.2; omega), Int.zero_add, w64 (n := t) ht.1 (by have := ht.2; omega)]) ⟨by simp [keysM], by simp [ht0], by simp [hxs], by simp⟩
    rw [Int.mul_zero, w64 (n := 0) (by omega) (by omega), Int.add_zero, w64 (n := 0) (by omega) (by omega)] at this
    exact this
  refine ⟨i + (digL t).length + 1 + x.size, ?_, h4, by omega⟩
  unfold gexpr_parser__product gexpr_parser__factor
  rw [hf]
  simp only [Option.bind_some]
  obtain ⟨m, hm⟩ : ∃ m, N = m + 1 + 1 := ⟨N - 2, by omega⟩
  have hL2 : gexpr_parser__product_L1 N rec s 0 (m + 1) ((i + (digL t).length + 1 + x.size : Nat) : Int) [x] [t] 0 = some (.out ([x], [t], 0, ((i + (digL t).length + 1 + x.size : Nat) : Int))) := by
    rw [gexpr_parser__product_L1, next_ch (by omega) h4 (by omega)]
    rfl
  have hL : gexpr_parser__product_L1 N rec s 0 N ((i + (digL t).length : Nat) : Int) [] [] t = some (.out ([x], [t], 0, ((i + (digL t).length + 1 + x.size : Nat) : Int))) := by
    conv => lhs; arg 5; rw [hm]
    rw [gexpr_parser__product_L1, next_ch (by omega) h2 (by omega)]
    have e1 : ((42 : Int) == 42) = true := rfl
    simp only [Option.bind_some, e1, cond_true]
    unfold gexpr_parser__factor
    rw [w64_succ (by omega), hg]
    have e2 : (((([x] : List ByteArray).length : Nat) : Int) == 0) = false := rfl
    have e3 : (((([] : List ByteArray).length : Nat) : Int) == 0) = true := rfl
    simp only [Option.bind_some, e2, e3, cond_true, cond_false, hp]
    exact hL2
  rw [hL]; rfl

/-! sums -/
theorem sum_loop (hs : s.size ≤ 1000000000) (hN : s.size < N) (hN2 : 1000 < N) {off : Int} (hoff : R64 off) : ∀ (q P : List (ByteArray × Int)) (i m : Nat), (∀ p ∈ q, R64 p.2 ∧ nameE p.1 = true) → AscP (P ++ q) → (bs s).drop i = 43 :: restL q off → i ≤ s.size → q.length + 1 < m →
    gexpr_parser__sum_L1 N rec s 0 m (i : Int) (P.map (·.1)) (P.map (·.2)) 0 = some (.ret (.val (linOf (P ++ q) off, ((s.size : Nat) : Int))))
  | [], P, i, m, hq, hP, h, hi, hm => by
    obtain ⟨m, rfl⟩ : ∃ m', m = m' + 1 + 1 := ⟨m - 2, by simp at hm; omega⟩
    obtain ⟨_, g1, h1⟩ := at_cons h
    have h1' : (bs s).drop (i + 1) = digL off := by rw [h1]; rfl
    rw [gexpr_parser__sum_L1, next_ch (by omega) h (by omega)]
    have e1 : ((43 : Int) != 43) = false := rfl
    simp only [Option.bind_some, e1, Bool.false_and, cond_false]
    rw [w64_succ (by omega), prod_off hs hN hN2 hoff h1' (by omega)]
    simp only [Option.bind_some]
    rw [List.append_nil] at hP
    have hp : gexpr_plus N (linOf P 0) (linOf [] off) (IntKind.wrap .i64 (44 - IntKind.wrap .i64 43)) = some (linOf P off) := by
      have e2 : IntKind.wrap .i64 (44 - IntKind.wrap .i64 43) = 1 := by decide
      have := plus_exact N hN2 (A := P) (B := []) (P := P) (x := 0) (y := off) (c := 1) hP.len (by simp) (by
          show ofF P [] = P
          rw [of_self P [] (by simpa [keysM] using asc_nd hP.asc)]; rfl) hP
      rw [Int.one_mul, w64 (n := off) hoff.1 (by have := hoff.2; omega), Int.zero_add, w64 (n := off) hoff.1 (by have := hoff.2; omega)] at this
      rw [e2]; exact this
    have hp' : gexpr_plus N (TLin.mk (P.map (·.1)) (P.map (·.2)) 0) (linOf [] off) (IntKind.wrap .i64 (44 - IntKind.wrap .i64 43)) = some (linOf P off) := hp
    rw [hp']
    simp only [Option.bind_some]
    have hl : (linOf P off).f_Syms.length ≤ 16 := by have := hP.len; simpa [linOf] using this
    rw [decide_eq_false (by omega)]
    simp only [cond_false]
    rw [gexpr_parser__sum_L1, next_end (by omega), List.append_nil]
    rfl
  | (x, t) :: q, P, i, m, hq, hP, h, hi, hm => by
    obtain ⟨m, rfl⟩ : ∃ m', m = m' + 1 := ⟨m - 1, by simp at hm; omega⟩
    obtain ⟨_, g1, h1⟩ := at_cons h
    have h1' : (bs s).drop (i + 1) = itemL (x, t) ++ restL q off := by rw [h1]; unfold restL; simp
    have hxt := hq (x, t) (by simp)
    have ht0 : t ≠ 0 := hP.nz (x, t) (by simp)
    have hxs : x.size ≤ 1048576 := hP.sz (x, t) (by simp)
    obtain ⟨j, j1, j2, j3⟩ := prod_item (rec := rec) hs hN hN2 hxt.1 ht0 hxt.2 hxs h1' (by omega)
    rw [gexpr_parser__sum_L1, next_ch (by omega) h (by omega)]
    have e1 : ((43 : Int) != 43) = false := rfl
    simp only [Option.bind_some, e1, Bool.false_and, cond_false]
    rw [w64_succ (by omega), j1]
    simp only [Option.bind_some]
    have hP1 : AscP (P ++ [(x, t)]) := by
      have hsub : List.Sublist (P ++ [(x, t)]) (P ++ (x, t) :: q) := List.Sublist.append (List.Sublist.refl _) (by simp)
      exact ⟨hP.asc.sublist (hsub.map _), fun p hp => hP.nz p (hsub.subset hp), fun p hp => hP.sz p (hsub.subset hp), Nat.le_trans hsub.length_le hP.len⟩
    have hlenP : P.length ≤ 16 := by have := hP1.len; rw [List.length_append] at this; omega
    have hnew : x ∉ keysM P := fun hm => by
      have := asc_nd hP1.asc
      rw [show keysM (P ++ [(x, t)]) = keysM P ++ [x] by simp [keysM], List.nodup_append] at this
      exact this.2.2 x hm x (by simp) rfl
    have hp : gexpr_plus N (linOf P 0) (linOf [(x, t)] 0) (IntKind.wrap .i64 (44 - IntKind.wrap .i64 43)) = some (linOf (P ++ [(x, t)]) 0) := by
      have e2 : IntKind.wrap .i64 (44 - IntKind.wrap .i64 43) = 1 := by decide
      have hR := hxt.1
      have := plus_exact N hN2 (A := P) (B := [(x, t)]) (P := P ++ [(x, t)]) (x := 0) (y := 0) (c := 1) hlenP (by simp) (by
          have ho : ofF P [] = P := by
            have hnd : (keysM P).Nodup := by
              have := asc_nd hP1.asc
              rw [show keysM (P ++ [(x, t)]) = keysM P ++ [x] by simp [keysM], List.nodup_append] at this
              exact this.1
            rw [of_self P [] (by simpa [keysM] using hnd)]; rfl
          rw [ho]
          show updT P x (IntKind.wrap .i64 (lookT P x + IntKind.wrap .i64 (1 * t))) = _
          rw [look_none hnew, Int.one_mul, w64 (n := t) hR.1 (by have := hR.2; simp only at this; omega), Int.zero_add, w64 (n := t) hR.1 (by have := hR.2; simp only at this; omega), upd_new hnew]) hP1
      rw [Int.mul_zero, w64 (n := 0) (by omega) (by omega), Int.add_zero, w64 (n := 0) (by omega) (by omega)] at this
      rw [e2]; exact this
    have hp' : gexpr_plus N (TLin.mk (P.map (·.1)) (P.map (·.2)) 0) (linOf [(x, t)] 0) (IntKind.wrap .i64 (44 - IntKind.wrap .i64 43)) = some (linOf (P ++ [(x, t)]) 0) := hp
    rw [hp']
    simp only [Option.bind_some]
    have hl : (linOf (P ++ [(x, t)]) 0).f_Syms.length ≤ 16 := by have := hP1.len; simpa [linOf] using this
    rw [decide_eq_false (by omega)]
    simp only [cond_false]
    have ih := sum_loop hs hN hN2 hoff q (P ++ [(x, t)]) j m (fun p hp => hq p (by simp [hp])) (by rw [List.append_assoc]; exact hP) j2 j3 (by simp at hm; omega)
    rw [List.append_assoc] at ih
    exact ih
end
theorem parse_print (n : Nat) {s : ByteArray} {q : List (ByteArray × Int)} {off : Int} (hs : s.size ≤ 1000000000) (hN : s.size < n) (hN2 : 1000 < n) (hoff : R64 off) (hq : ∀ p ∈ q, R64 p.2 ∧ nameE p.1 = true) (hP : AscP q) (h : bs s = restL q off) : gexpr_Parse n s = some (linOf q off, 0, 0) := by
  obtain ⟨k, hk⟩ : ∃ k, n = k + 1 := ⟨n - 1, by omega⟩
  have h0 : (bs s).drop 0 = restL q off := by rw [List.drop_zero]; exact h
  have hsum : gexpr_parser__sum n s 0 0 = some (.val (linOf q off, ((s.size : Nat) : Int))) := by
    unfold gexpr_parser__sum
    conv => lhs; arg 2; rw [hk]
    rw [gexpr_parser__sum_rec, show (0 : Int) = ((0 : Nat) : Int) from rfl]
    cases q with
    | nil =>
      have h1 : (bs s).drop 0 = digL off := by rw [h0]; rfl
      have hp := prod_off (rec := gexpr_parser__sum_rec n k) hs hN hN2 hoff h1 (by omega)
      simp only [Int.natCast_zero] at hp ⊢
      rw [hp]
      simp only [Option.bind_some]
      have hL : gexpr_parser__sum_L1 n (gexpr_parser__sum_rec n k) s 0 n ((s.size : Nat) : Int) [] [] off = some (.ret (.val (linOf [] off, ((s.size : Nat) : Int)))) := by
        conv => lhs; arg 5; rw [hk]
        rw [gexpr_parser__sum_L1, next_end (by omega)]
        rfl
      have hL' : gexpr_parser__sum_L1 n (gexpr_parser__sum_rec n k) s 0 n ((s.size : Nat) : Int) (linOf [] off).f_Syms (linOf [] off).f_Times (linOf [] off).f_Off = some (.ret (.val (linOf [] off, ((s.size : Nat) : Int)))) := hL
      rw [hL']; rfl
    | cons p q =>
      obtain ⟨x, t⟩ := p
      have h1 : (bs s).drop 0 = itemL (x, t) ++ restL q off := by rw [h0]; unfold restL; simp
      have hxt := hq (x, t) (by simp)
      obtain ⟨j, j1, j2, j3⟩ := prod_item (rec := gexpr_parser__sum_rec n k) hs hN hN2 hxt.1 (hP.nz (x, t) (by simp)) hxt.2 (hP.sz (x, t) (by simp)) h1 (by omega)
      simp only [Int.natCast_zero] at j1 ⊢
      rw [j1]
      simp only [Option.bind_some]
      have hL := sum_loop (rec := gexpr_parser__sum_rec n k) hs hN hN2 hoff q [(x, t)] j n (fun p hp => hq p (by simp [hp])) hP j2 j3 (by have := hP.len; simp at this; omega)
      have hL' : gexpr_parser__sum_L1 n (gexpr_parser__sum_rec n k) s 0 n (j : Int) (linOf [(x, t)] 0).f_Syms (linOf [(x, t)] 0).f_Times (linOf [(x, t)] 0).f_Off = some (.ret (.val (linOf ([(x, t)] ++ q) off, ((s.size : Nat) : Int)))) := hL
      rw [hL']; rfl
  unfold gexpr_Parse
  rw [hsum]
  simp only [Option.bind_some]
  rw [next_end (by omega)]
  simp only [Option.bind_some]
  rw [decide_eq_false (by omega)]
  rfl

/-! the same sum -/
theorem same_refl (n : Nat) (hn : 2000000 < n) {a : TLin} (hf : Fits a) : gdovetailref12_Same n a a = some true := by
  have h1 := hf.len
  have h2 := hf.lent
  unfold gdovetailref12_Same
  have k1 := any_loop (fun m z => gdovetailref12_Same_L1 n a a m z) (fun _ => false) a.f_Syms.length (.out ()) (.ret false) (fun m z hz => by
    show gdovetailref12_Same_L1 n a a (m + 1) (z : Int) = _
    rw [gdovetailref12_Same_L1]
    by_cases hlt : z < a.f_Syms.length
    · rw [if_pos hlt, decide_eq_true (by omega : (z : Int) < (a.f_Syms.length : Nat)), atL_sym hlt]
      simp only [cond_true, Option.bind_some, decide_true, Bool.not_true, cond_false, Bool.false_eq_true, if_false]
      rw [w64_succ (by omega)]
    · rw [if_neg hlt, decide_eq_false (by omega)]; rfl) a.f_Syms.length 0 n (by omega) (by omega) (by omega)
  have k2 := any_loop (fun m z => gdovetailref12_Same_L2 n a a m z) (fun _ => false) a.f_Times.length (.out ()) (.ret false) (fun m z hz => by
    show gdovetailref12_Same_L2 n a a (m + 1) (z : Int) = _
    rw [gdovetailref12_Same_L2]
    by_cases hlt : z < a.f_Times.length
    · rw [if_pos hlt, decide_eq_true (by omega : (z : Int) < (a.f_Times.length : Nat)), atL_tim hlt]
      simp only [cond_true, Option.bind_some, bne_self_eq_false, cond_false, Bool.false_eq_true, if_false]
      rw [w64_succ (by omega)]
    · rw [if_neg hlt, decide_eq_false (by omega)]; rfl) a.f_Times.length 0 n (by omega) (by omega) (by omega)
  have hfa : ∀ (l : List Nat), l.any (fun _ => false) = false := fun l => by induction l <;> simp
  simp only [hfa, cond_false, Int.natCast_zero] at k1 k2
  simp only [bne_self_eq_false, Bool.or_self, cond_false]
  rw [k1]
  simp only [Option.bind_some]
  rw [k2]; rfl
theorem prints_law (a : TLin) (hf : Fits a) (hN : Nums a) : gdovetaillaw12_ExprPrints 40000000 a = some true := by
  unfold gdovetaillaw12_ExprPrints
  rw [copy_eq _ a hf]
  simp only [Option.bind_some]
  cases h : normE a with
  | false =>
    have hp : gexpr_Print 40000000 a = some (ByteArray.mk #[], 121) := by
      unfold gexpr_Print
      rw [norm_eqE _ a hf (by omega), h]; rfl
    rw [hp, norm_eqR _ a hf (by omega), h]; rfl
  | true =>
    have hA := norm_of h
    obtain ⟨s, p1, p2, p3⟩ := print_eqE 40000000 hf hN (by omega) h
    obtain ⟨r, r1, r2⟩ := print_eqR 40000000 (by omega) hf hN h
    have hsr : s = r := bs_inj (by rw [p2, r2])
    subst hsr
    have hq : ∀ p ∈ prs a, R64 p.2 ∧ nameE p.1 = true := fun p hp => ⟨hN.times _ (List.of_mem_zip hp).2, hA.name _ (List.of_mem_zip hp).1⟩
    have hP : AscP (prs a) := ⟨by rw [prs_keys hA.len]; exact hA.asc, fun p hp => hA.nz _ (List.of_mem_zip hp).2, fun p hp => hf.sizes _ (List.of_mem_zip hp).1, by rw [prs_len hA.len]; exact hA.many⟩
    have hpp := parse_print 40000000 (by omega) (by omega) (by omega) hN.off hq hP p2
    have hlin : linOf (prs a) a.f_Off = a := by
      obtain ⟨S, T, o⟩ := a
      have hl : S.length = T.length := hA.len
      show TLin.mk ((S.zip T).map (·.1)) ((S.zip T).map (·.2)) o = _
      rw [List.map_fst_zip (by omega), List.map_snd_zip (by omega)]
    rw [p1, norm_eqR _ a hf (by omega), h]
    simp only [Option.bind_some, Bool.not_true, cond_false]
    rw [hpp, hlin, r1]
    have e0 : ((0 : Int) == 0) = true := rfl
    simp only [Option.bind_some, e0, cond_true, decide_true, Bool.and_self]
    rw [same_refl _ (by omega) hf]
    rfl
end Go.DM
