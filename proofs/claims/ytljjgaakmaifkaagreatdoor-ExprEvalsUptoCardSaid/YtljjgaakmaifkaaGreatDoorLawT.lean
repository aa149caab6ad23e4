/- The plain law of expr: names, normal sums, values. Condition: at most 2^20 values and letters. -/
import Derived.Test.YtljjgaakmaifkaaGreatDoorDmF
import Derived.Test.YtljjgaakmaifkaaGreatDoorWalkT
namespace Go.DM
open Go

/-! strings by order -/
theorem bless_eq : ∀ (x y : List UInt8), Op.bytesLess x y = decide (x < y)
  | [], [] => by simp [Op.bytesLess]
  | _ :: _, [] => by simp [Op.bytesLess]
  | [], _ :: _ => by simp [Op.bytesLess]
  | a :: x, b :: y => by
    rw [Op.bytesLess, bless_eq x y, Bool.eq_iff_iff]
    simp [List.cons_lt_cons_iff]
theorem strLt_eq (s t : ByteArray) : strLt s t = decide (s.data.toList < t.data.toList) := by
  unfold strLt
  rw [bless_eq, Lib.toList_data, Lib.toList_data]
theorem ba_inj {s t : ByteArray} (h : s.data.toList = t.data.toList) : s = t := by
  obtain ⟨⟨a⟩⟩ := s
  obtain ⟨⟨b⟩⟩ := t
  simp at h; subst h; rfl
theorem strLe_not (s t : ByteArray) : strLe s t = !strLt t s := by
  unfold strLe
  rw [strLt_eq, bless_eq, Lib.toList_data, Lib.toList_data]
  by_cases h : t.data.toList < s.data.toList
  · have h1 : ¬ s.data.toList < t.data.toList := fun c => List.lt_asymm h c
    have h2 : s.data.toList ≠ t.data.toList := fun c => by rw [c] at h; exact List.lt_irrefl _ h
    rw [decide_eq_true h, decide_eq_false h1, beq_false_of_ne h2]; rfl
  · rw [decide_eq_false h]
    by_cases h2 : s.data.toList = t.data.toList
    · rw [h2]; simp
    · have : s.data.toList < t.data.toList := by
        have h3 : s.data.toList ≤ t.data.toList := List.not_lt.1 h
        rcases Decidable.em (s.data.toList < t.data.toList) with h4 | h4
        · exact h4
        · exact absurd (List.le_antisymm h3 (List.not_lt.1 h4)) h2
      rw [decide_eq_true this]; rfl
theorem strLt_trans {a b c : ByteArray} (h : strLt a b = true) (g : strLt b c = true) : strLt a c = true := by
  rw [strLt_eq, decide_eq_true_eq] at *
  exact List.lt_trans h g
theorem strLt_irr (a : ByteArray) : strLt a a = false := by
  rw [strLt_eq, decide_eq_false_iff_not]; exact List.lt_irrefl _

/-! loops that look for one -/
theorem any_loop {β : Type} (f : Nat → Int → Option β) (p : Nat → Bool) (len : Nat) (out stop : β)
    (hf : ∀ m y, y ≤ len → f (m + 1) (y : Int) = if y < len then (if p y = true then some stop else f m ((y + 1 : Nat) : Int)) else some out) :
    ∀ (k y m : Nat), len - y ≤ k → k < m → y ≤ len → f m (y : Int) = some (cond ((List.range' y (len - y)).any p) stop out) := by
  intro k
  induction k with
  | zero =>
    intro y m hk hm hy
    obtain ⟨m, rfl⟩ : ∃ m', m = m' + 1 := ⟨m - 1, by omega⟩
    rw [hf m y hy, if_neg (by omega), show len - y = 0 by omega]
    rfl
  | succ k ih =>
    intro y m hk hm hy
    obtain ⟨m, rfl⟩ : ∃ m', m = m' + 1 := ⟨m - 1, by omega⟩
    rw [hf m y hy]
    by_cases hlt : y < len
    · rw [if_pos hlt, show len - y = (len - (y + 1)) + 1 by omega, List.range'_succ, List.any_cons]
      by_cases hp : p y = true
      · rw [if_pos hp, hp]; rfl
      · rw [if_neg hp, ih (y + 1) m (by omega) (by omega) (by omega)]
        have : p y = false := by simpa using hp
        rw [this, Bool.false_or]
    · rw [if_neg hlt, show len - y = 0 by omega]; rfl
theorem any_range {p : Nat → Bool} {y k : Nat} : (List.range' y k).any p = true ↔ ∃ i, y ≤ i ∧ i < y + k ∧ p i = true := by
  rw [List.any_eq_true]
  constructor
  · rintro ⟨i, hi, hp⟩
    rw [List.mem_range'_1] at hi
    exact ⟨i, hi.1, hi.2, hp⟩
  · rintro ⟨i, h1, h2, h3⟩
    exact ⟨i, List.mem_range'_1.2 ⟨h1, h2⟩, h3⟩

/-! names -/
def letB (c : Int) : Bool := (((((decide (c ≥ 65)) && (decide (c ≤ 90))) || ((decide (c ≥ 97)) && (decide (c ≤ 122)))) || (c == 95)) || (c == 46)) || (c == 36)
def digE (c : Int) : Bool := (decide (c ≥ 48)) && (decide (c ≤ 57))
theorem letE_eq (n : Nat) (c : Int) : gexpr_letter n c = some (letB c) := rfl
theorem digE_eq (n : Nat) (c : Int) : gexpr_digit n c = some (digE c) := rfl
theorem letR_eq (n : Nat) (c : Int) : gdovetailref12_Letter n c = some (letB c) := rfl
theorem digR_eq (n : Nat) (c : Int) : gdovetailref12_Digit n c = some (digE c) := rfl
def chr (s : ByteArray) (i : Nat) : Int := (bs s).getD i 0
theorem atS_chr {s : ByteArray} {i : Nat} (h : i < s.size) : atS s (i : Int) = some (chr s i) := by
  rw [atS_bs]
  have : i < (bs s).length := by rw [bs_length]; exact h
  simp [chr, this]
def badE (s : ByteArray) (i : Nat) : Bool := !letB (chr s i) && (i == 0 || !digE (chr s i))
def badR (s : ByteArray) (i : Nat) : Bool := !letB (chr s i) && !digE (chr s i)
def nameE (s : ByteArray) : Bool := !decide (s = ByteArray.mk #[]) && !(List.range' 0 s.size).any (badE s)
theorem empty_size {s : ByteArray} : s = ByteArray.mk #[] ↔ s.size = 0 := by
  rw [← bs_nil, ← bs_length, List.length_eq_zero_iff]
theorem nat_beq0 (y : Nat) : ((y : Int) == 0) = (y == 0) := by
  rw [Bool.eq_iff_iff, beq_iff_eq, beq_iff_eq]; omega
theorem name_eqE (n : Nat) (s : ByteArray) (hs : s.size ≤ 2097152) (hn : s.size < n) : gexpr_name n s = some (nameE s) := by
  have key := any_loop (fun m z => gexpr_name_L1 n s m z) (badE s) s.size (.out ()) (.ret false) (fun m z hz => ?_) s.size 0 n (by omega) hn (by omega)
  · unfold gexpr_name nameE
    rw [show (0 : Int) = ((0 : Nat) : Int) from rfl]
    simp only [Nat.sub_zero] at key
    rw [key]
    by_cases he : s = ByteArray.mk #[]
    · have : s.size = 0 := empty_size.1 he
      rw [decide_eq_true he, this]; rfl
    · rw [decide_eq_false he]
      cases (List.range' 0 s.size).any (badE s) <;> rfl
  · show gexpr_name_L1 n s (m + 1) (z : Int) = _
    rw [gexpr_name_L1]
    by_cases hlt : z < s.size
    · rw [if_pos hlt, decide_eq_true (by omega : (z : Int) < (s.size : Nat)), atS_chr hlt]
      simp only [cond_true, Option.bind_some, letE_eq, digE_eq, nat_beq0]
      rw [w64_succ (by omega)]
      unfold badE
      cases letB (chr s z) <;> cases digE (chr s z) <;> cases (z == 0) <;> rfl
    · rw [if_neg hlt, decide_eq_false (by omega)]; rfl
theorem name_eqR (n : Nat) (s : ByteArray) (hs : s.size ≤ 2097152) (hn : s.size < n) : gdovetailref12_Name n s = some (nameE s) := by
  unfold gdovetailref12_Name nameE
  by_cases he : s = ByteArray.mk #[]
  · rw [decide_eq_true he]; rfl
  have hsz : 0 < s.size := by have := mt empty_size.2 he; omega
  have key := any_loop (fun m z => gdovetailref12_Name_L1 n s m z) (badR s) s.size (.out ()) (.ret false) (fun m z hz => ?_) s.size 1 n (by omega) hn (by omega)
  · rw [decide_eq_false he, show (0 : Int) = ((0 : Nat) : Int) from rfl, atS_chr hsz]
    simp only [cond_false, Option.bind_some, letR_eq, Bool.not_false, Bool.true_and]
    rw [show (1 : Int) = ((1 : Nat) : Int) from rfl, key]
    have hq : (List.range' 0 s.size).any (badE s) = (!letB (chr s 0) || (List.range' 1 (s.size - 1)).any (badR s)) := by
      rw [Bool.eq_iff_iff, Bool.or_eq_true, any_range, any_range]
      constructor
      · rintro ⟨i, _, h2, h3⟩
        by_cases hi : i = 0
        · subst hi
          left
          simp only [badE, beq_self_eq_true, Bool.true_or, Bool.and_true] at h3; exact h3
        · right
          refine ⟨i, by omega, by omega, ?_⟩
          simp only [badE, beq_false_of_ne hi, Bool.false_or] at h3; exact h3
      · rintro (h | ⟨i, h1, h2, h3⟩)
        · exact ⟨0, by omega, by omega, by simp [badE, h]⟩
        · exact ⟨i, by omega, by omega, by simp only [badE, beq_false_of_ne (show i ≠ 0 by omega), Bool.false_or]; exact h3⟩
    rw [hq]
    cases letB (chr s 0)
    · rfl
    · cases (List.range' 1 (s.size - 1)).any (badR s) <;> rfl
  · show gdovetailref12_Name_L1 n s (m + 1) (z : Int) = _
    rw [gdovetailref12_Name_L1]
    by_cases hlt : z < s.size
    · rw [if_pos hlt, decide_eq_true (by omega : (z : Int) < (s.size : Nat)), atS_chr hlt]
      simp only [cond_true, Option.bind_some, letR_eq, digR_eq]
      rw [w64_succ (by omega)]
      unfold badR
      cases letB (chr s z) <;> cases digE (chr s z) <;> rfl
    · rw [if_neg hlt, decide_eq_false (by omega)]; rfl

/-! normal sums -/
def sym (a : TLin) (i : Nat) : ByteArray := a.f_Syms.getD i (ByteArray.mk #[])
def tim (a : TLin) (i : Nat) : Int := a.f_Times.getD i 0
def badS (a : TLin) (i : Nat) : Bool := !nameE (sym a i) || (decide (0 < i) && !strLt (sym a (i - 1)) (sym a i))
def normE (a : TLin) : Bool := decide (a.f_Syms.length = a.f_Times.length) && decide (a.f_Syms.length ≤ 16) && !(List.range' 0 a.f_Times.length).any (fun i => tim a i == 0) && !(List.range' 0 a.f_Syms.length).any (badS a)
/-- how much a sum holds -/
structure Fits (a : TLin) : Prop where
  len : a.f_Syms.length ≤ 1048576
  lent : a.f_Times.length ≤ 1048576
  sizes : ∀ s ∈ a.f_Syms, s.size ≤ 1048576
theorem atL_sym {a : TLin} {i : Nat} (h : i < a.f_Syms.length) : atL a.f_Syms (i : Int) = some (sym a i) := by
  rw [atL_nat]; simp [sym, h]
theorem atL_tim {a : TLin} {i : Nat} (h : i < a.f_Times.length) : atL a.f_Times (i : Int) = some (tim a i) := by
  rw [atL_nat]; simp [tim, h]
theorem sym_mem {a : TLin} {i : Nat} (h : i < a.f_Syms.length) : sym a i ∈ a.f_Syms := by
  simp [sym, h]
theorem pos_dec (z : Nat) : decide ((z : Int) > 0) = decide (0 < z) := by
  rw [Bool.eq_iff_iff, decide_eq_true_eq, decide_eq_true_eq]; omega
theorem contains0 (n : Nat) (l : List Int) (hl : l.length ≤ 1048576) (hn : l.length < n) : gslices_Contains_27 n l 0 = some ((List.range' 0 l.length).any fun i => l.getD i 0 == 0) := by
  have key : ∀ (k y m : Nat), l.length - y ≤ k → k < m → y ≤ l.length → ∃ r, gslices_Index_36_L1 n l 0 m (y : Int) = some r ∧ ((r = .out () ∧ (List.range' y (l.length - y)).any (fun i => l.getD i 0 == 0) = false) ∨ ∃ j : Nat, r = .ret (j : Int) ∧ (List.range' y (l.length - y)).any (fun i => l.getD i 0 == 0) = true) := by
    intro k
    induction k with
    | zero =>
      intro y m hk hm hy
      obtain ⟨m, rfl⟩ : ∃ m', m = m' + 1 := ⟨m - 1, by omega⟩
      rw [gslices_Index_36_L1, decide_eq_false (by omega), show l.length - y = 0 by omega]
      exact ⟨_, rfl, .inl ⟨rfl, rfl⟩⟩
    | succ k ih =>
      intro y m hk hm hy
      obtain ⟨m, rfl⟩ : ∃ m', m = m' + 1 := ⟨m - 1, by omega⟩
      rw [gslices_Index_36_L1]
      by_cases hlt : y < l.length
      · rw [decide_eq_true (by omega : (y : Int) < (l.length : Nat)), atL_nat, show l.length - y = (l.length - (y + 1)) + 1 by omega, List.range'_succ, List.any_cons]
        have hg : l[y]? = some (l.getD y 0) := by simp [hlt]
        rw [hg]
        simp only [cond_true, Option.bind_some]
        cases hz : l.getD y 0 == 0
        · have hz' : ((0 : Int) == l.getD y 0) = false := by rw [beq_eq_false_iff_ne] at hz ⊢; exact fun e => hz e.symm
          rw [hz', cond_false, w64_succ (by omega), Bool.false_or]
          exact ih (y + 1) m (by omega) (by omega) (by omega)
        · have hz' : ((0 : Int) == l.getD y 0) = true := by rw [beq_iff_eq] at hz ⊢; exact hz.symm
          rw [hz', cond_true, Bool.true_or]
          exact ⟨_, rfl, .inr ⟨y, rfl, rfl⟩⟩
      · rw [decide_eq_false (by omega), show l.length - y = 0 by omega]
        exact ⟨_, rfl, .inl ⟨rfl, rfl⟩⟩
  unfold gslices_Contains_27 gslices_Index_36
  obtain ⟨r, h1, h2⟩ := key l.length 0 n (by omega) hn (by omega)
  rw [show (0 : Int) = ((0 : Nat) : Int) from rfl] at h1 ⊢
  simp only [Int.natCast_zero] at h1 ⊢
  rw [h1]
  simp only [Nat.sub_zero] at h2
  rcases h2 with ⟨rfl, h2⟩ | ⟨j, rfl, h2⟩
  · rw [h2]; rfl
  · rw [h2]
    simp only [Option.bind_some]
    rw [decide_eq_true (by omega : (j : Int) ≥ 0)]
theorem norm_eqE (n : Nat) (a : TLin) (hf : Fits a) (hn : 1048580 < n) : gexpr_normal n a = some (normE a) := by
  unfold gexpr_normal normE
  rw [contains0 n a.f_Times hf.lent (by have := hf.lent; omega)]
  have h1 : (((a.f_Syms.length : Nat) : Int) != ((a.f_Times.length : Nat) : Int)) = !decide (a.f_Syms.length = a.f_Times.length) := by
    rw [Bool.eq_iff_iff, bne_iff_ne, Bool.not_eq_true', decide_eq_false_iff_not]; omega
  have h2 : decide (((a.f_Syms.length : Nat) : Int) > 16) = !decide (a.f_Syms.length ≤ 16) := by
    rw [Bool.eq_iff_iff, decide_eq_true_eq, Bool.not_eq_true', decide_eq_false_iff_not]; omega
  rw [h1, h2]
  cases hA : decide (a.f_Syms.length = a.f_Times.length)
  · rfl
  cases hB : decide (a.f_Syms.length ≤ 16)
  · rfl
  simp only [decide_eq_true_eq] at hA hB
  have h3 : (fun i => a.f_Times.getD i 0 == 0) = (fun i => tim a i == 0) := rfl
  rw [h3]
  cases hC : (List.range' 0 a.f_Times.length).any (fun i => tim a i == 0)
  case true => rfl
  have key := any_loop (fun m z => gexpr_normal_L1 n a m z) (badS a) a.f_Syms.length (.out ()) (.ret false) (fun m z hz => ?_) a.f_Syms.length 0 n (by omega) (by omega) (by omega)
  · simp only [Nat.sub_zero, Int.natCast_zero] at key
    simp only [Bool.not_true, Bool.or_self, cond_false, Option.bind_some, Bool.not_false, Bool.and_self, Bool.true_and]
    rw [key]
    cases (List.range' 0 a.f_Syms.length).any (badS a) <;> rfl
  · show gexpr_normal_L1 n a (m + 1) (z : Int) = _
    rw [gexpr_normal_L1]
    by_cases hlt : z < a.f_Syms.length
    · rw [if_pos hlt, decide_eq_true (by omega : (z : Int) < (a.f_Syms.length : Nat)), atL_sym hlt]
      simp only [cond_true, Option.bind_some, pos_dec]
      have hsz := hf.sizes _ (sym_mem hlt)
      rw [name_eqE n _ (by omega) (by omega), w64_succ (by omega)]
      unfold badS
      cases nameE (sym a z)
      · rfl
      · by_cases hz0 : 0 < z
        · rw [decide_eq_true hz0, w64 (by omega) (by omega), show (z : Int) - 1 = ((z - 1 : Nat) : Int) by omega, atL_sym (by omega)]
          simp only [Option.bind_some, cond_true, cond_false, Bool.not_true, Bool.false_or, Bool.true_and, strLe_not]
          cases strLt (sym a (z - 1)) (sym a z) <;> rfl
        · rw [decide_eq_false hz0]; rfl
    · rw [if_neg hlt, decide_eq_false (by omega)]; rfl
theorem norm_eqR (n : Nat) (a : TLin) (hf : Fits a) (hn : 1048580 < n) : gdovetailref12_Normal n a = some (normE a) := by
  unfold gdovetailref12_Normal normE
  have h1 : (((a.f_Syms.length : Nat) : Int) != ((a.f_Times.length : Nat) : Int)) = !decide (a.f_Syms.length = a.f_Times.length) := by
    rw [Bool.eq_iff_iff, bne_iff_ne, Bool.not_eq_true', decide_eq_false_iff_not]; omega
  have h2 : decide (((a.f_Syms.length : Nat) : Int) > 16) = !decide (a.f_Syms.length ≤ 16) := by
    rw [Bool.eq_iff_iff, decide_eq_true_eq, Bool.not_eq_true', decide_eq_false_iff_not]; omega
  rw [h1, h2]
  cases hA : decide (a.f_Syms.length = a.f_Times.length)
  · rfl
  cases hB : decide (a.f_Syms.length ≤ 16)
  · rfl
  simp only [decide_eq_true_eq] at hA hB
  have key := any_loop (fun m z => gdovetailref12_Normal_L1 n a m z) (fun i => (tim a i == 0) || badS a i) a.f_Syms.length (.out ()) (.ret false) (fun m z hz => ?_) a.f_Syms.length 0 n (by omega) (by omega) (by omega)
  · simp only [Nat.sub_zero, Int.natCast_zero] at key
    simp only [Bool.not_true, Bool.or_self, cond_false, Bool.and_self, Bool.true_and]
    rw [key]
    have hq : (List.range' 0 a.f_Syms.length).any (fun i => (tim a i == 0) || badS a i) = ((List.range' 0 a.f_Times.length).any (fun i => tim a i == 0) || (List.range' 0 a.f_Syms.length).any (badS a)) := by
      rw [← hA, Bool.eq_iff_iff, Bool.or_eq_true, any_range, any_range, any_range]
      constructor
      · rintro ⟨i, g1, g2, g3⟩
        rw [Bool.or_eq_true] at g3
        rcases g3 with g3 | g3
        · exact .inl ⟨i, g1, g2, g3⟩
        · exact .inr ⟨i, g1, g2, g3⟩
      · rintro (⟨i, g1, g2, g3⟩ | ⟨i, g1, g2, g3⟩)
        · exact ⟨i, g1, g2, by rw [g3]; rfl⟩
        · exact ⟨i, g1, g2, by rw [g3, Bool.or_true]⟩
    rw [hq]
    cases (List.range' 0 a.f_Times.length).any (fun i => tim a i == 0) <;> cases (List.range' 0 a.f_Syms.length).any (badS a) <;> rfl
  · show gdovetailref12_Normal_L1 n a (m + 1) (z : Int) = _
    rw [gdovetailref12_Normal_L1]
    by_cases hlt : z < a.f_Syms.length
    · rw [if_pos hlt, decide_eq_true (by omega : (z : Int) < (a.f_Syms.length : Nat)), atL_sym hlt, atL_tim (by omega)]
      simp only [cond_true, Option.bind_some, pos_dec]
      have hsz := hf.sizes _ (sym_mem hlt)
      rw [name_eqR n _ (by omega) (by omega), w64_succ (by omega)]
      unfold badS
      cases nameE (sym a z)
      · cases (tim a z == 0) <;> rfl
      · cases (tim a z == 0)
        · by_cases hz0 : 0 < z
          · rw [decide_eq_true hz0, w64 (by omega) (by omega), show (z : Int) - 1 = ((z - 1 : Nat) : Int) by omega, atL_sym (by omega)]
            simp only [Option.bind_some, cond_true, cond_false, Bool.not_true, Bool.false_or, Bool.true_and]
            cases strLt (sym a (z - 1)) (sym a z) <;> rfl
          · rw [decide_eq_false hz0]; rfl
        · rfl
    · rw [if_neg hlt, decide_eq_false (by omega)]; rfl
end Go.DM
namespace Go.DM
open Go

/-! the place of a name -/
def firstAt : List ByteArray → ByteArray → Nat → Option Nat
  | [], _, _ => none
  | x :: r, s, i => if s = x then some i else firstAt r s (i + 1)
theorem firstAt_app (s : ByteArray) : ∀ (l m : List ByteArray) (i : Nat), firstAt (l ++ m) s i = match firstAt l s i with
    | some j => some j
    | none => firstAt m s (i + l.length)
  | [], m, i => rfl
  | x :: l, m, i => by
    simp only [List.cons_append, firstAt]
    by_cases h : s = x
    · rw [if_pos h, if_pos h]
    · rw [if_neg h, if_neg h, firstAt_app s l m (i + 1), List.length_cons, show i + 1 + l.length = i + (l.length + 1) by omega]
theorem firstAt_lt (s : ByteArray) : ∀ (l : List ByteArray) (i j : Nat), firstAt l s i = some j → i ≤ j ∧ j < i + l.length
  | [], i, j, h => by cases h
  | x :: l, i, j, h => by
    simp only [firstAt] at h
    split at h
    · cases h; simp
    · have := firstAt_lt s l (i + 1) j h
      simp; omega
theorem drop_at {α : Type} {l : List α} {y : Nat} {x : α} (h : l[y]? = some x) : l.drop y = x :: l.drop (y + 1) := by
  obtain ⟨hlt, rfl⟩ := List.getElem?_eq_some_iff.1 h
  exact List.drop_eq_getElem_cons hlt
theorem index_loop (N : Nat) (l : List ByteArray) (hl : l.length ≤ 2097152) (s : ByteArray) : ∀ (k y m : Nat), l.length - y ≤ k → k < m → y ≤ l.length → gslices_Index_25_L1 N l s m (y : Int) = some (match firstAt (l.drop y) s y with
    | some j => .ret (j : Int)
    | none => .out ()) := by
  intro k
  induction k with
  | zero =>
    intro y m hk hm hy
    obtain ⟨m, rfl⟩ : ∃ m', m = m' + 1 := ⟨m - 1, by omega⟩
    rw [gslices_Index_25_L1, decide_eq_false (by omega), List.drop_eq_nil_of_le (by omega)]; rfl
  | succ k ih =>
    intro y m hk hm hy
    obtain ⟨m, rfl⟩ : ∃ m', m = m' + 1 := ⟨m - 1, by omega⟩
    rw [gslices_Index_25_L1]
    by_cases hlt : y < l.length
    · have hg : l[y]? = some l[y] := by simp [hlt]
      rw [decide_eq_true (by omega : (y : Int) < (l.length : Nat)), atL_nat, hg, drop_at hg]
      simp only [cond_true, Option.bind_some, firstAt]
      by_cases he : s = l[y]
      · rw [decide_eq_true he, if_pos he]; rfl
      · rw [decide_eq_false he, if_neg he, cond_false, w64_succ (by omega)]
        exact ih (y + 1) m (by omega) (by omega) (by omega)
    · rw [decide_eq_false (by omega), List.drop_eq_nil_of_le (by omega)]; rfl
theorem index_eq (n : Nat) (l : List ByteArray) (hl : l.length ≤ 2097152) (hn : l.length < n) (s : ByteArray) : gslices_Index_25 n l s = some (match firstAt l s 0 with
    | some j => (j : Int)
    | none => -1) := by
  unfold gslices_Index_25
  have := index_loop n l hl s l.length 0 n (by omega) hn (by omega)
  rw [List.drop_zero] at this
  rw [show (0 : Int) = ((0 : Nat) : Int) from rfl, this]
  cases firstAt l s 0 <;> rfl
theorem back_loop (N : Nat) (l : List ByteArray) (hl : l.length ≤ 2097152) (s : ByteArray) : ∀ (k m : Nat) (acc : Int), k < m → k ≤ l.length → gdovetailref12_Eval_L2 N l s m acc ((k : Int) - 1) = some (match firstAt (l.take k) s 0 with
    | some j => (j : Int)
    | none => acc)
  | 0, m, acc, hm, _ => by
    obtain ⟨m, rfl⟩ : ∃ m', m = m' + 1 := ⟨m - 1, by omega⟩
    rw [gdovetailref12_Eval_L2]; rfl
  | k + 1, m, acc, hm, hk => by
    obtain ⟨m, rfl⟩ : ∃ m', m = m' + 1 := ⟨m - 1, by omega⟩
    rw [gdovetailref12_Eval_L2, show ((k + 1 : Nat) : Int) - 1 = (k : Int) by omega, decide_eq_true (by omega : (k : Int) ≥ 0), atL_nat]
    have hg : l[k]? = some l[k] := by simp [show k < l.length by omega]
    have ht : l.take (k + 1) = l.take k ++ [l[k]] := by simp [List.take_add_one]
    rw [hg, ht, firstAt_app, List.length_take, Nat.min_eq_left (by omega)]
    simp only [cond_true, Option.bind_some, firstAt, Nat.zero_add]
    have hw : IntKind.wrap .i64 ((k : Int) - 1) = (k : Int) - 1 := w64 (by omega) (by omega)
    by_cases he : s = l[k]
    · rw [decide_eq_true he.symm, if_pos he]
      simp only [cond_true, Option.bind_some]
      rw [hw, back_loop N l hl s k m _ (by omega) (by omega)]
      cases firstAt (l.take k) s 0 <;> rfl
    · rw [decide_eq_false (fun e => he e.symm), if_neg he]
      simp only [cond_false, Option.bind_some]
      rw [hw, back_loop N l hl s k m _ (by omega) (by omega)]
      cases firstAt (l.take k) s 0 <;> rfl

/-! values -/
def valAt (names : List ByteArray) (vals : List Int) (s : ByteArray) : Option Int := match firstAt names s 0 with
  | some k => vals[k]?
  | none => none
def evF (names : List ByteArray) (vals : List Int) : List (ByteArray × Int) → Int → Option Int
  | [], v => some v
  | (s, t) :: r, v => match valAt names vals s with
    | none => none
    | some x => evF names vals r (IntKind.wrap .i64 (v + IntKind.wrap .i64 (t * x)))
def prs (a : TLin) : List (ByteArray × Int) := a.f_Syms.zip a.f_Times
def evalP (a : TLin) (names : List ByteArray) (vals : List Int) : Int × Bool := if normE a = true then match evF names vals (prs a) a.f_Off with
    | none => (0, false)
    | some v => (v, true)
  else (0, false)
theorem norm_len {a : TLin} (h : normE a = true) : a.f_Syms.length = a.f_Times.length ∧ a.f_Syms.length ≤ 16 := by
  unfold normE at h
  simp only [Bool.and_eq_true, decide_eq_true_eq] at h
  exact ⟨h.1.1.1, h.1.1.2⟩
theorem prs_at {a : TLin} {i : Nat} (h : a.f_Syms.length = a.f_Times.length) (hi : i < a.f_Syms.length) : (prs a)[i]? = some (sym a i, tim a i) := by
  have h2 : i < a.f_Times.length := by omega
  rw [prs, List.getElem?_zip_eq_some]
  simp [sym, tim, hi, h2]
theorem prs_len {a : TLin} (h : a.f_Syms.length = a.f_Times.length) : (prs a).length = a.f_Syms.length := by
  simp [prs, ← h]
theorem val_test (l : Int) (x : Option Nat) (vals : List Int) : ((decide ((match x with
    | some j => (j : Int)
    | none => -1) < 0)) || (decide ((match x with
    | some j => (j : Int)
    | none => -1) ≥ ((vals.length : Nat) : Int)))) = (match x with | some k => vals[k]? | none => none).isNone := by
  cases x with
  | none => rfl
  | some j =>
    simp only
    rw [decide_eq_false (by omega), Bool.false_or]
    by_cases h : j < vals.length
    · rw [decide_eq_false (by omega)]; simp [h]
    · rw [decide_eq_true (by omega)]; simp; omega
section
variable {a : TLin} {names : List ByteArray} {vals : List Int}
theorem evalE_loop (N : Nat) (hab : a.f_Syms.length = a.f_Times.length) (h16 : a.f_Syms.length ≤ 16) (hnm : names.length ≤ 2097152) (hN : 2097153 < N) : ∀ (k y m : Nat) (v : Int), a.f_Syms.length - y ≤ k → k < m → y ≤ a.f_Syms.length → gexpr_Eval_L1 N a names vals m v (y : Int) = some (match evF names vals ((prs a).drop y) v with
    | some w => .out w
    | none => .ret (0, false)) := by
  have hpl := prs_len hab
  intro k
  induction k with
  | zero =>
    intro y m v hk hm hy
    obtain ⟨m, rfl⟩ : ∃ m', m = m' + 1 := ⟨m - 1, by omega⟩
    rw [gexpr_Eval_L1, decide_eq_false (by omega), List.drop_eq_nil_of_le (by omega)]; rfl
  | succ k ih =>
    intro y m v hk hm hy
    obtain ⟨m, rfl⟩ : ∃ m', m = m' + 1 := ⟨m - 1, by omega⟩
    rw [gexpr_Eval_L1]
    by_cases hlt : y < a.f_Syms.length
    · rw [decide_eq_true (by omega : (y : Int) < (a.f_Syms.length : Nat)), atL_sym hlt, drop_at (prs_at hab hlt)]
      simp only [cond_true, Option.bind_some, evF]
      rw [index_eq N names hnm (by omega)]
      simp only [Option.bind_some]
      rw [val_test 0]
      have hva : (match firstAt names (sym a y) 0 with | some k => vals[k]? | none => none) = valAt names vals (sym a y) := rfl
      rw [hva]
      cases hv : valAt names vals (sym a y) with
      | none => rfl
      | some x =>
        simp only [Option.isNone_some, cond_false]
        rw [atL_tim (by omega)]
        unfold valAt at hv
        cases hf : firstAt names (sym a y) 0 with
        | none => rw [hf] at hv; cases hv
        | some j =>
          rw [hf] at hv
          simp only at hv
          simp only [atL_nat, hv, Option.bind_some]
          rw [w64_succ (by omega)]
          exact ih (y + 1) m _ (by omega) (by omega) (by omega)
    · rw [decide_eq_false (by omega), List.drop_eq_nil_of_le (by omega)]; rfl
theorem evalR_loop (N : Nat) (hab : a.f_Syms.length = a.f_Times.length) (h16 : a.f_Syms.length ≤ 16) (hnm : names.length ≤ 2097152) (hN : 2097153 < N) : ∀ (k y m : Nat) (v : Int), a.f_Syms.length - y ≤ k → k < m → y ≤ a.f_Syms.length → gdovetailref12_Eval_L1 N a names vals m v (y : Int) = some (match evF names vals ((prs a).drop y) v with
    | some w => .out w
    | none => .ret (0, false)) := by
  have hpl := prs_len hab
  intro k
  induction k with
  | zero =>
    intro y m v hk hm hy
    obtain ⟨m, rfl⟩ : ∃ m', m = m' + 1 := ⟨m - 1, by omega⟩
    rw [gdovetailref12_Eval_L1, decide_eq_false (by omega), List.drop_eq_nil_of_le (by omega)]; rfl
  | succ k ih =>
    intro y m v hk hm hy
    obtain ⟨m, rfl⟩ : ∃ m', m = m' + 1 := ⟨m - 1, by omega⟩
    rw [gdovetailref12_Eval_L1]
    by_cases hlt : y < a.f_Syms.length
    · rw [decide_eq_true (by omega : (y : Int) < (a.f_Syms.length : Nat)), atL_sym hlt, drop_at (prs_at hab hlt)]
      simp only [cond_true, Option.bind_some, evF]
      rw [w64 (n := ((names.length : Nat) : Int) - 1) (by omega) (by omega), back_loop N names hnm _ names.length N (-1) (by omega) (Nat.le_refl _), List.take_length]
      simp only [Option.bind_some]
      rw [val_test 0]
      have hva : (match firstAt names (sym a y) 0 with | some k => vals[k]? | none => none) = valAt names vals (sym a y) := rfl
      rw [hva]
      cases hv : valAt names vals (sym a y) with
      | none => rfl
      | some x =>
        simp only [Option.isNone_some, cond_false]
        rw [atL_tim (by omega)]
        unfold valAt at hv
        cases hf : firstAt names (sym a y) 0 with
        | none => rw [hf] at hv; cases hv
        | some j =>
          rw [hf] at hv
          simp only at hv
          simp only [atL_nat, hv, Option.bind_some]
          rw [w64_succ (by omega)]
          exact ih (y + 1) m _ (by omega) (by omega) (by omega)
    · rw [decide_eq_false (by omega), List.drop_eq_nil_of_le (by omega)]; rfl
theorem eval_eqE (n : Nat) (hf : Fits a) (hnm : names.length ≤ 2097152) (hn : 2097154 < n) : gexpr_Eval n a names vals = some (evalP a names vals) := by
  unfold gexpr_Eval evalP
  rw [norm_eqE n a hf (by omega)]
  cases h : normE a with
  | false => rfl
  | true =>
    obtain ⟨h1, h2⟩ := norm_len h
    have := evalE_loop (vals := vals) n h1 h2 hnm (by omega) a.f_Syms.length 0 n a.f_Off (by omega) (by omega) (by omega)
    rw [List.drop_zero] at this
    simp only [Option.bind_some, Bool.not_true, cond_false, if_true]
    rw [show (0 : Int) = ((0 : Nat) : Int) from rfl, this]
    cases evF names vals (prs a) a.f_Off <;> rfl
theorem eval_eqR (n : Nat) (hf : Fits a) (hnm : names.length ≤ 2097152) (hn : 2097154 < n) : gdovetailref12_Eval n a names vals = some (evalP a names vals) := by
  unfold gdovetailref12_Eval evalP
  rw [norm_eqR n a hf (by omega)]
  cases h : normE a with
  | false => rfl
  | true =>
    obtain ⟨h1, h2⟩ := norm_len h
    have := evalR_loop (vals := vals) n h1 h2 hnm (by omega) a.f_Syms.length 0 n a.f_Off (by omega) (by omega) (by omega)
    rw [List.drop_zero] at this
    simp only [Option.bind_some, Bool.not_true, cond_false, if_true]
    rw [show (0 : Int) = ((0 : Nat) : Int) from rfl, this]
    cases evF names vals (prs a) a.f_Off <;> rfl
end

/-! sums as maps -/
def ofF : List (ByteArray × Int) → List (ByteArray × Int) → List (ByteArray × Int)
  | [], l => l
  | (s, t) :: r, l => ofF r (updT l s t)
def plF (k : Int) : List (ByteArray × Int) → List (ByteArray × Int) → List (ByteArray × Int)
  | [], l => l
  | (s, t) :: r, l => plF k r (updT l s (IntKind.wrap .i64 (lookT l s + IntKind.wrap .i64 (k * t))))
section
variable {a : TLin}
theorem of_loop (N : Nat) (hab : a.f_Syms.length = a.f_Times.length) (h16 : a.f_Syms.length ≤ 16) : ∀ (k y m : Nat) (l : List (ByteArray × Int)), a.f_Syms.length - y ≤ k → k < m → y ≤ a.f_Syms.length → gexpr_of_L1 N a m (y : Int) l = some (ofF ((prs a).drop y) l) := by
  have hpl := prs_len hab
  intro k
  induction k with
  | zero =>
    intro y m l hk hm hy
    obtain ⟨m, rfl⟩ : ∃ m', m = m' + 1 := ⟨m - 1, by omega⟩
    rw [gexpr_of_L1, decide_eq_false (by omega), List.drop_eq_nil_of_le (by omega)]; rfl
  | succ k ih =>
    intro y m l hk hm hy
    obtain ⟨m, rfl⟩ : ∃ m', m = m' + 1 := ⟨m - 1, by omega⟩
    rw [gexpr_of_L1]
    by_cases hlt : y < a.f_Syms.length
    · rw [decide_eq_true (by omega : (y : Int) < (a.f_Syms.length : Nat)), atL_sym hlt, atL_tim (by omega), drop_at (prs_at hab hlt)]
      simp only [cond_true, Option.bind_some, ofF]
      rw [w64_succ (by omega)]
      exact ih (y + 1) m _ (by omega) (by omega) (by omega)
    · rw [decide_eq_false (by omega), List.drop_eq_nil_of_le (by omega)]; rfl
theorem plus_loop (N : Nat) (c : Int) (hab : a.f_Syms.length = a.f_Times.length) (h16 : a.f_Syms.length ≤ 16) : ∀ (k y m : Nat) (l : List (ByteArray × Int)), a.f_Syms.length - y ≤ k → k < m → y ≤ a.f_Syms.length → gexpr_plus_L1 N a c m (y : Int) l = some (plF c ((prs a).drop y) l) := by
  have hpl := prs_len hab
  intro k
  induction k with
  | zero =>
    intro y m l hk hm hy
    obtain ⟨m, rfl⟩ : ∃ m', m = m' + 1 := ⟨m - 1, by omega⟩
    rw [gexpr_plus_L1, decide_eq_false (by omega), List.drop_eq_nil_of_le (by omega)]; rfl
  | succ k ih =>
    intro y m l hk hm hy
    obtain ⟨m, rfl⟩ : ∃ m', m = m' + 1 := ⟨m - 1, by omega⟩
    rw [gexpr_plus_L1]
    by_cases hlt : y < a.f_Syms.length
    · rw [decide_eq_true (by omega : (y : Int) < (a.f_Syms.length : Nat)), atL_sym hlt, atL_tim (by omega), drop_at (prs_at hab hlt)]
      simp only [cond_true, Option.bind_some, plF]
      rw [w64_succ (by omega)]
      exact ih (y + 1) m _ (by omega) (by omega) (by omega)
    · rw [decide_eq_false (by omega), List.drop_eq_nil_of_le (by omega)]; rfl
end
/-- the entries that are not nought, by the keys -/
def linF (m : List (ByteArray × Int)) (ks : List ByteArray) : List ByteArray := ks.filter fun s => lookT m s != 0
theorem lin_loop (N : Nat) (p : Texpr_sum) (ks : List ByteArray) (hk : ks.length ≤ 64) : ∀ (k y m : Nat) (xs : List ByteArray) (zs : List Int), ks.length - y ≤ k → k < m → y ≤ ks.length → xs.length ≤ y → zs.length ≤ y →
    gexpr_sum__lin_L1 N p ks m (y : Int) xs zs = some (xs ++ linF p.f_times (ks.drop y), zs ++ (linF p.f_times (ks.drop y)).map (lookT p.f_times)) := by
  intro k
  induction k with
  | zero =>
    intro y m xs zs h1 hm hy hx hz
    obtain ⟨m, rfl⟩ : ∃ m', m = m' + 1 := ⟨m - 1, by omega⟩
    rw [gexpr_sum__lin_L1, decide_eq_false (by omega), List.drop_eq_nil_of_le (by omega)]
    simp [linF]
  | succ k ih =>
    intro y m xs zs h1 hm hy hx hz
    obtain ⟨m, rfl⟩ : ∃ m', m = m' + 1 := ⟨m - 1, by omega⟩
    rw [gexpr_sum__lin_L1]
    by_cases hlt : y < ks.length
    · have hg : ks[y]? = some ks[y] := by simp [hlt]
      rw [decide_eq_true (by omega : (y : Int) < (ks.length : Nat)), atL_nat, hg, drop_at hg]
      simp only [cond_true, Option.bind_some]
      have hF : linF p.f_times (ks[y] :: ks.drop (y + 1)) = if lookT p.f_times ks[y] != 0 then ks[y] :: linF p.f_times (ks.drop (y + 1)) else linF p.f_times (ks.drop (y + 1)) := by
        unfold linF; rw [List.filter_cons]
      rw [hF]
      cases hq : lookT p.f_times ks[y] != 0
      · simp only [cond_false, Option.bind_some, Bool.false_eq_true, if_false]
        rw [w64_succ (by omega)]
        exact ih (y + 1) m xs zs (by omega) (by omega) (by omega) (by omega) (by omega)
      · simp only [cond_true, if_true]
        rw [appL_ok (by simp; omega) (by omega), appL_ok (by simp; omega) (by omega)]
        simp only [Option.bind_some]
        rw [w64_succ (by omega), ih (y + 1) m _ _ (by omega) (by omega) (by omega) (by simp; omega) (by simp; omega)]
        simp
    · rw [decide_eq_false (by omega), List.drop_eq_nil_of_le (by omega)]
      simp [linF]
end Go.DM
namespace Go.DM
open Go

/-! sums up to 2^64 -/
def cg (x y : Int) : Prop := ∃ z : Int, x = y + 18446744073709551616 * z
theorem cg.refl (x : Int) : cg x x := ⟨0, by omega⟩
theorem cg.trans {x y w : Int} (h : cg x y) (g : cg y w) : cg x w := by
  obtain ⟨a, rfl⟩ := h
  obtain ⟨b, rfl⟩ := g
  exact ⟨a + b, by omega⟩
theorem cg.add {x y u v : Int} (h : cg x y) (g : cg u v) : cg (x + u) (y + v) := by
  obtain ⟨a, rfl⟩ := h
  obtain ⟨b, rfl⟩ := g
  exact ⟨a + b, by omega⟩
theorem cg.mul {x y : Int} (h : cg x y) (k : Int) : cg (x * k) (y * k) := by
  obtain ⟨a, rfl⟩ := h
  exact ⟨a * k, by rw [Int.add_mul, Int.mul_assoc]⟩
theorem cg.mulL {x y : Int} (h : cg x y) (k : Int) : cg (k * x) (k * y) := by
  rw [Int.mul_comm k x, Int.mul_comm k y]; exact h.mul k
theorem wrap_def (x : Int) : IntKind.wrap .i64 x = (x + 9223372036854775808) % 18446744073709551616 - 9223372036854775808 := by
  rw [IntKind.wrap_i64]
theorem cg_wrap (x : Int) : cg (IntKind.wrap .i64 x) x := ⟨-((x + 9223372036854775808) / 18446744073709551616), by rw [wrap_def]; omega⟩
theorem wrap_cg {x y : Int} (h : cg x y) : IntKind.wrap .i64 x = IntKind.wrap .i64 y := by
  obtain ⟨z, rfl⟩ := h
  rw [wrap_def, wrap_def]; omega
theorem wrap_wrap (x : Int) : IntKind.wrap .i64 (IntKind.wrap .i64 x) = IntKind.wrap .i64 x := wrap_cg (cg_wrap x)

/-! totals -/
def tot (f : ByteArray → Int) : List (ByteArray × Int) → Int
  | [] => 0
  | (s, v) :: r => v * f s + tot f r
def keysM (l : List (ByteArray × Int)) : List ByteArray := l.map (·.1)
theorem look_none {s : ByteArray} : ∀ {l : List (ByteArray × Int)}, s ∉ keysM l → lookT l s = 0
  | [], _ => rfl
  | (k, v) :: r, h => by
    simp only [keysM, List.map_cons, List.mem_cons, not_or] at h
    rw [lookT, if_neg h.1]
    exact look_none h.2
theorem tot_upd (f : ByteArray → Int) (s : ByteArray) (x : Int) : ∀ (l : List (ByteArray × Int)), tot f (updT l s x) = tot f l + (x - lookT l s) * f s
  | [] => by simp [updT, tot, lookT]
  | (k, v) :: r => by
    unfold updT lookT
    by_cases h : s = k
    · subst h
      rw [if_pos rfl, if_pos rfl]
      simp only [tot]
      rw [Int.sub_mul]; omega
    · rw [if_neg h, if_neg h]
      simp only [tot]
      rw [tot_upd f s x r]; omega
open Classical in
theorem upd_keys (s : ByteArray) (x : Int) : ∀ (l : List (ByteArray × Int)), keysM (updT l s x) = if s ∈ keysM l then keysM l else keysM l ++ [s]
  | [] => by simp [updT, keysM]
  | (k, v) :: r => by
    have ih := upd_keys s x r
    unfold updT
    by_cases h : s = k
    · subst h
      rw [if_pos rfl, if_pos (by simp [keysM])]
      simp [keysM]
    · rw [if_neg h]
      have hm : s ∈ keysM ((k, v) :: r) ↔ s ∈ keysM r := by simp [keysM, h]
      have hc : ∀ q, keysM ((k, v) :: q) = k :: keysM q := fun q => rfl
      rw [hc, hc, ih]
      by_cases hs : s ∈ keysM r
      · rw [if_pos hs, if_pos (by simp [hs])]
      · rw [if_neg hs, if_neg (by simp [h, hs])]; rfl
/-- what a map may hold behind some entries -/
structure MapOk (K : List ByteArray) (n : Nat) (l : List (ByteArray × Int)) : Prop where
  nd : (keysM l).Nodup
  sub : ∀ s ∈ keysM l, s ∈ K
  len : l.length ≤ n
theorem MapOk.upd {K : List ByteArray} {n : Nat} {l : List (ByteArray × Int)} (h : MapOk K n l) {s : ByteArray} (hs : s ∈ K) (x : Int) : MapOk K (n + 1) (updT l s x) := by
  have hk := upd_keys s x l
  have hl : ∀ q : List (ByteArray × Int), (keysM q).length = q.length := fun q => by simp [keysM]
  have hlen := h.len
  refine ⟨?_, fun k hm => ?_, ?_⟩
  · rw [hk]
    split
    · exact h.nd
    · rename_i hn
      rw [List.nodup_append]
      refine ⟨h.nd, by simp, fun a ha b hb => ?_⟩
      simp at hb; subst hb
      rintro rfl; exact hn ha
  · rw [hk] at hm
    split at hm
    · exact h.sub k hm
    · rcases List.mem_append.1 hm with hm | hm
      · exact h.sub k hm
      · simp at hm; subst hm; exact hs
  · rw [← hl, hk]
    split
    · rw [hl]; omega
    · rw [List.length_append, hl]; simp; omega
theorem MapOk.mono {K : List ByteArray} {n m : Nat} {l : List (ByteArray × Int)} (h : MapOk K n l) (hm : n ≤ m) : MapOk K m l := ⟨h.nd, h.sub, Nat.le_trans h.len hm⟩
theorem of_ok {K : List ByteArray} : ∀ (q : List (ByteArray × Int)) (n : Nat) (l : List (ByteArray × Int)), MapOk K n l → (∀ p ∈ q, p.1 ∈ K) → MapOk K (n + q.length) (ofF q l)
  | [], n, l, h, _ => h
  | (s, t) :: r, n, l, h, hq => by
    have := of_ok r (n + 1) _ (h.upd (hq (s, t) (by simp)) t) (fun p hp => hq p (by simp [hp]))
    unfold ofF
    exact this.mono (by simp; omega)
theorem pl_ok {K : List ByteArray} (c : Int) : ∀ (q : List (ByteArray × Int)) (n : Nat) (l : List (ByteArray × Int)), MapOk K n l → (∀ p ∈ q, p.1 ∈ K) → MapOk K (n + q.length) (plF c q l)
  | [], n, l, h, _ => h
  | (s, t) :: r, n, l, h, hq => by
    have := pl_ok c r (n + 1) _ (h.upd (hq (s, t) (by simp)) (IntKind.wrap .i64 (lookT l s + IntKind.wrap .i64 (c * t)))) (fun p hp => hq p (by simp [hp]))
    unfold plF
    exact this.mono (by simp; omega)
theorem tot_of (f : ByteArray → Int) : ∀ (q l : List (ByteArray × Int)), (keysM q).Nodup → (∀ s ∈ keysM q, s ∉ keysM l) → tot f (ofF q l) = tot f l + tot f q
  | [], l, _, _ => by simp [ofF, tot]
  | (s, t) :: r, l, hn, hd => by
    unfold ofF
    have hs : s ∉ keysM l := hd s (by simp [keysM])
    have hn' : s ∉ keysM r ∧ (keysM r).Nodup := List.nodup_cons.1 hn
    rw [tot_of f r _ hn'.2 (fun k hk hm => ?_), tot_upd, look_none hs]
    · simp only [tot]
      rw [Int.sub_zero]; omega
    · rw [upd_keys, if_neg hs] at hm
      rcases List.mem_append.1 hm with hm | hm
      · exact hd k (by simp only [keysM, List.map_cons, List.mem_cons]; exact .inr hk) hm
      · simp at hm; subst hm; exact hn'.1 hk
theorem tot_pl (f : ByteArray → Int) (c : Int) : ∀ (q l : List (ByteArray × Int)), cg (tot f (plF c q l)) (tot f l + c * tot f q)
  | [], l => by simp only [plF, tot]; rw [Int.mul_zero, Int.add_zero]; exact cg.refl _
  | (s, t) :: r, l => by
    unfold plF
    refine (tot_pl f c r _).trans ?_
    rw [tot_upd]
    have h1 : cg (IntKind.wrap .i64 (lookT l s + IntKind.wrap .i64 (c * t)) - lookT l s) (c * t) := by
      obtain ⟨z1, e1⟩ := cg_wrap (lookT l s + IntKind.wrap .i64 (c * t))
      obtain ⟨z2, e2⟩ := cg_wrap (c * t)
      exact ⟨z1 + z2, by rw [e1, e2]; omega⟩
    have h2 := h1.mul (f s)
    have h3 := ((cg.refl (tot f l)).add h2).add (cg.refl (c * tot f r))
    refine h3.trans ?_
    simp only [tot]
    rw [Int.mul_add, Int.mul_assoc c t (f s), Int.add_assoc]
    exact cg.refl _

/-! the keys by order -/
theorem nodupL_of : ∀ {l : List (List UInt8)}, l.Nodup → nodupL l = true
  | [], _ => rfl
  | x :: r, h => by
    obtain ⟨h1, h2⟩ := List.nodup_cons.1 h
    simp only [nodupL, Bool.and_eq_true, List.all_eq_true, Bool.not_eq_true']
    refine ⟨fun y hy => ?_, nodupL_of h2⟩
    have key : ∀ (a b : List UInt8), eqL a b = true → a = b := by
      intro a
      induction a with
      | nil => intro b hb; cases b with
        | nil => rfl
        | cons c d => simp [eqL] at hb
      | cons u v ih => intro b hb; cases b with
        | nil => simp [eqL] at hb
        | cons c d =>
          simp only [eqL, Bool.and_eq_true] at hb
          have h3 := ih d hb.2
          have h4 : u = c := UInt8.toNat.inj (by simpa using hb.1)
          rw [h3, h4]
    cases he : eqL x y with
    | false => rfl
    | true => rw [key x y he] at h1; exact absurd hy h1
theorem keys_ok {K : List ByteArray} {n : Nat} {m : List (ByteArray × Int)} (h : MapOk K n m) (hn : n ≤ 4000000) (hK : ∀ s ∈ K, s.size ≤ 4000000) :
    ∃ ks, keysT m = some ks ∧ ks.Perm (keysM m) ∧ ks.Pairwise (fun a b => strLt a b = true) := by
  have hnd : (m.map (·.1.data.toList)).Nodup := by
    have := h.nd
    unfold keysM at this
    have h2 : m.map (·.1.data.toList) = (m.map (·.1)).map (fun s : ByteArray => s.data.toList) := by rw [List.map_map]; rfl
    rw [h2]
    exact this.map _ (fun a b hab e => hab (ba_inj e))
  have hsz : (m.all fun p => decide (p.1.size ≤ 4000000)) = true := by
    rw [List.all_eq_true]
    intro p hp
    rw [decide_eq_true_eq]
    exact hK _ (h.sub _ (List.mem_map.2 ⟨p, hp, rfl⟩))
  have hl : Nat.ble m.length 4000000 = true := Nat.ble_eq_true_of_le (Nat.le_trans h.len hn)
  refine ⟨(sortL (m.map (·.1.data.toList))).map fun x => ⟨x.toArray⟩, ?_, ?_, ?_⟩
  · unfold keysT
    rw [nodupL_of hnd, hsz, hl]; rfl
  · have hp := (sortL_perm (m.map (·.1.data.toList))).map (fun x => (⟨x.toArray⟩ : ByteArray))
    refine hp.trans ?_
    rw [List.map_map]
    have : m.map ((fun x => (⟨x.toArray⟩ : ByteArray)) ∘ fun p => p.1.data.toList) = keysM m := by
      unfold keysM
      refine List.map_congr_left (fun p _ => ?_)
      simp
    rw [this]
  · rw [List.pairwise_map]
    have hs := sortL_sorted (m.map (·.1.data.toList))
    have hd : (sortL (m.map (·.1.data.toList))).Nodup := (sortL_perm _).nodup_iff.2 hnd
    refine (hs.and hd).imp (fun {a b} hab => ?_)
    rw [strLt_eq, decide_eq_true_eq]
    obtain ⟨h1, h2⟩ := hab
    have h3 : a ≤ b := by simpa [leB] using h1
    show a < b
    rcases Decidable.em (a < b) with h4 | h4
    · exact h4
    · exact absurd (List.le_antisymm h3 (List.not_lt.1 h4)) h2
/-- the sum of what is looked up at keys -/
def totK (f : ByteArray → Int) (m : List (ByteArray × Int)) : List ByteArray → Int
  | [] => 0
  | s :: r => lookT m s * f s + totK f m r
theorem totK_perm {f : ByteArray → Int} {m : List (ByteArray × Int)} {a b : List ByteArray} (h : a.Perm b) : totK f m a = totK f m b := by
  induction h with
  | nil => rfl
  | cons x _ ih => simp only [totK, ih]
  | swap x y l => simp only [totK]; omega
  | trans _ _ h1 h2 => exact h1.trans h2
theorem totK_skip {f : ByteArray → Int} {k : ByteArray} {v : Int} {r : List (ByteArray × Int)} : ∀ {ks : List ByteArray}, k ∉ ks → totK f ((k, v) :: r) ks = totK f r ks
  | [], _ => rfl
  | s :: q, h => by
    simp only [List.mem_cons, not_or] at h
    simp only [totK, lookT]
    rw [if_neg (fun e => h.1 e.symm), totK_skip h.2]
theorem totK_keys (f : ByteArray → Int) : ∀ (m : List (ByteArray × Int)), (keysM m).Nodup → totK f m (keysM m) = tot f m
  | [], _ => rfl
  | (k, v) :: r, h => by
    have h' := List.nodup_cons.1 h
    show totK f ((k, v) :: r) (k :: keysM r) = _
    simp only [totK, lookT, if_true, tot]
    have h1 : k ∉ keysM r := h'.1
    rw [totK_skip h1, totK_keys f r h'.2]
theorem totK_lin (f : ByteArray → Int) (m : List (ByteArray × Int)) : ∀ (ks : List ByteArray), tot f ((linF m ks).map fun s => (s, lookT m s)) = totK f m ks
  | [] => rfl
  | s :: r => by
    have ih := totK_lin f m r
    unfold linF at ih ⊢
    rw [List.filter_cons]
    cases hq : lookT m s != 0
    · simp only [Bool.false_eq_true, if_false, totK]
      have : lookT m s = 0 := by simpa using hq
      rw [ih, this, Int.zero_mul, Int.zero_add]
    · simp only [if_true, List.map_cons, tot, totK]
      rw [ih]
theorem zip_self {α β : Type} (g : α → β) : ∀ (l : List α), l.zip (l.map g) = l.map fun s => (s, g s)
  | [] => rfl
  | x :: r => by simp [zip_self g r]

/-! values of sums -/
section
variable {names : List ByteArray} {vals : List Int}
def vf (names : List ByteArray) (vals : List Int) (s : ByteArray) : Int := (valAt names vals s).getD 0
theorem ev_val : ∀ (q : List (ByteArray × Int)) (v : Int), (∀ p ∈ q, (valAt names vals p.1).isSome = true) → ∃ w, evF names vals q v = some w ∧ cg w (v + tot (vf names vals) q)
  | [], v, _ => ⟨v, rfl, by simp only [tot]; rw [Int.add_zero]; exact cg.refl v⟩
  | (s, t) :: r, v, h => by
    have hs := h (s, t) (by simp)
    obtain ⟨x, hx⟩ := Option.isSome_iff_exists.1 hs
    simp only at hx
    obtain ⟨w, h1, h2⟩ := ev_val r (IntKind.wrap .i64 (v + IntKind.wrap .i64 (t * x))) (fun p hp => h p (by simp [hp]))
    refine ⟨w, by simp only [evF, hx]; exact h1, h2.trans ?_⟩
    have hv : vf names vals s = x := by unfold vf; rw [hx]; rfl
    simp only [tot, hv]
    have h3 : cg (IntKind.wrap .i64 (v + IntKind.wrap .i64 (t * x))) (v + t * x) := (cg_wrap _).trans ((cg.refl v).add (cg_wrap _))
    have := h3.add (cg.refl (tot (vf names vals) r))
    rw [Int.add_assoc] at this
    exact this
theorem ev_wrap : ∀ (q : List (ByteArray × Int)) (v w : Int), IntKind.wrap .i64 v = v → evF names vals q v = some w → IntKind.wrap .i64 w = w
  | [], v, w, hv, h => by cases h; exact hv
  | (s, t) :: r, v, w, hv, h => by
    simp only [evF] at h
    cases hx : valAt names vals s with
    | none => rw [hx] at h; cases h
    | some x =>
      rw [hx] at h
      exact ev_wrap r _ w (wrap_wrap _) h
theorem ev_found : ∀ (q : List (ByteArray × Int)) (v w : Int), evF names vals q v = some w → ∀ p ∈ q, (valAt names vals p.1).isSome = true
  | [], _, _, _, p, hp => by cases hp
  | (s, t) :: r, v, w, h, p, hp => by
    simp only [evF] at h
    cases hx : valAt names vals s with
    | none => rw [hx] at h; cases h
    | some x =>
      rw [hx] at h
      rcases List.mem_cons.1 hp with rfl | hp
      · simp only [hx]; rfl
      · exact ev_found r _ w h p hp
end

/-! what is normal -/
structure Norm (a : TLin) : Prop where
  len : a.f_Syms.length = a.f_Times.length
  many : a.f_Syms.length ≤ 16
  name : ∀ s ∈ a.f_Syms, nameE s = true
  asc : a.f_Syms.Pairwise (fun x y => strLt x y = true)
  nz : ∀ t ∈ a.f_Times, t ≠ 0
theorem norm_of {a : TLin} (h : normE a = true) : Norm a := by
  obtain ⟨h1, h2⟩ := norm_len h
  unfold normE at h
  simp only [Bool.and_eq_true, Bool.not_eq_true'] at h
  obtain ⟨⟨_, h3⟩, h4⟩ := h
  have bad : ∀ i, i < a.f_Syms.length → badS a i = false := fun i hi => by
    cases hb : badS a i with
    | false => rfl
    | true => rw [any_range.2 ⟨i, by omega, by omega, hb⟩] at h4; cases h4
  have nz : ∀ i, i < a.f_Times.length → tim a i ≠ 0 := fun i hi e => by
    have : (List.range' 0 a.f_Times.length).any (fun i => tim a i == 0) = true := any_range.2 ⟨i, by omega, by omega, by simp [e]⟩
    rw [this] at h3; cases h3
  have step : ∀ i, i + 1 < a.f_Syms.length → strLt (sym a i) (sym a (i + 1)) = true := fun i hi => by
    have := bad (i + 1) hi
    unfold badS at this
    rw [Bool.or_eq_false_iff] at this
    have h5 := this.2
    rw [decide_eq_true (by omega : 0 < i + 1), Bool.true_and, Bool.not_eq_false'] at h5
    exact h5
  have up : ∀ d i, i + d + 1 < a.f_Syms.length → strLt (sym a i) (sym a (i + d + 1)) = true := by
    intro d
    induction d with
    | zero => intro i hi; exact step i hi
    | succ d ih => intro i hi; exact strLt_trans (ih i (by omega)) (step (i + d + 1) (by omega))
  refine ⟨h1, h2, fun s hs => ?_, ?_, fun t ht => ?_⟩
  · obtain ⟨i, hi, rfl⟩ := List.mem_iff_getElem.1 hs
    have := bad i hi
    unfold badS at this
    rw [Bool.or_eq_false_iff, Bool.not_eq_false'] at this
    have h5 := this.1
    unfold sym at h5
    simpa [hi] using h5
  · rw [List.pairwise_iff_getElem]
    intro i j hi hj hij
    have := up (j - i - 1) i (by omega)
    rw [show i + (j - i - 1) + 1 = j by omega] at this
    unfold sym at this
    simpa [hi, hj] using this
  · obtain ⟨i, hi, rfl⟩ := List.mem_iff_getElem.1 ht
    have := nz i hi
    unfold tim at this
    simpa [hi] using this
theorem Norm.nd {a : TLin} (h : Norm a) : a.f_Syms.Nodup := h.asc.imp (fun {x y} hxy e => by rw [e, strLt_irr] at hxy; cases hxy)
theorem norm_mk {a : TLin} (h : Norm a) : normE a = true := by
  unfold normE
  rw [decide_eq_true h.len, decide_eq_true h.many]
  have h1 : (List.range' 0 a.f_Times.length).any (fun i => tim a i == 0) = false := by
    cases hq : (List.range' 0 a.f_Times.length).any (fun i => tim a i == 0) with
    | false => rfl
    | true =>
      obtain ⟨i, _, h2, h3⟩ := any_range.1 hq
      have hi : i < a.f_Times.length := by omega
      rw [beq_iff_eq] at h3
      unfold tim at h3
      exact absurd (by simpa [hi] using h3) (h.nz a.f_Times[i] (List.getElem_mem hi))
  have h2 : (List.range' 0 a.f_Syms.length).any (badS a) = false := by
    cases hq : (List.range' 0 a.f_Syms.length).any (badS a) with
    | false => rfl
    | true =>
      obtain ⟨i, _, h2, h3⟩ := any_range.1 hq
      have hi : i < a.f_Syms.length := by omega
      unfold badS at h3
      rw [h.name _ (sym_mem hi)] at h3
      simp only [Bool.not_true, Bool.false_or, Bool.and_eq_true, decide_eq_true_eq, Bool.not_eq_true'] at h3
      have := (List.pairwise_iff_getElem.1 h.asc) (i - 1) i (by omega) hi (by omega)
      have h4 := h3.2
      unfold sym at h4
      have hi1 : i - 1 < a.f_Syms.length := by omega
      simp [hi, hi1] at h4
      rw [h4] at this; cases this
  rw [h1, h2]; rfl
end Go.DM
namespace Go.DM
open Go

theorem prs_keys {a : TLin} (h : a.f_Syms.length = a.f_Times.length) : keysM (prs a) = a.f_Syms := by
  unfold keysM prs
  rw [List.map_fst_zip (by omega)]
theorem prs_mem {a : TLin} {p : ByteArray × Int} (h : p ∈ prs a) : p.1 ∈ a.f_Syms := (List.of_mem_zip h).1
/-- the sum of two normal ones -/
theorem plus_ok (n : Nat) (a b : TLin) (c : Int) (K : List ByteArray) (hab : a.f_Syms.length = a.f_Times.length) (ha16 : a.f_Syms.length ≤ 16) (hand : a.f_Syms.Nodup) (hbb : b.f_Syms.length = b.f_Times.length) (hb16 : b.f_Syms.length ≤ 16)
    (hK : ∀ s ∈ K, s.size ≤ 1048576) (hKa : ∀ s ∈ a.f_Syms, s ∈ K) (hKb : ∀ s ∈ b.f_Syms, s ∈ K) (hn : 1000 < n) :
    ∃ r : TLin, gexpr_plus n a b c = some r ∧ r.f_Syms.length = r.f_Times.length ∧ r.f_Syms.length ≤ a.f_Syms.length + b.f_Syms.length ∧ (∀ s ∈ r.f_Syms, s ∈ K) ∧ r.f_Syms.Pairwise (fun x y => strLt x y = true) ∧ (∀ t ∈ r.f_Times, t ≠ 0) ∧
      r.f_Off = IntKind.wrap .i64 (a.f_Off + IntKind.wrap .i64 (c * b.f_Off)) ∧ ∀ f, cg (tot f (prs r)) (tot f (prs a) + c * tot f (prs b)) := by
  have hpa := prs_len hab
  have hpb := prs_len hbb
  have h0 : MapOk K 0 ([] : List (ByteArray × Int)) := ⟨by simp [keysM], by simp [keysM], by simp⟩
  have h1 := of_ok (prs a) 0 [] h0 (fun p hp => hKa _ (prs_mem hp))
  have h2 := pl_ok c (prs b) _ _ h1 (fun p hp => hKb _ (prs_mem hp))
  obtain ⟨ks, k1, k2, k3⟩ := keys_ok h2 (by omega) (fun s hs => by have := hK s hs; omega)
  have hof := of_loop (a := a) n hab ha16 a.f_Syms.length 0 n [] (by omega) (by omega) (by omega)
  have hpl := plus_loop (a := b) n c hbb hb16 b.f_Syms.length 0 n (ofF (prs a) []) (by omega) (by omega) (by omega)
  rw [List.drop_zero] at hof hpl
  have hkl : ks.length ≤ a.f_Syms.length + b.f_Syms.length := by
    rw [k2.length_eq]
    have := h2.len
    simp [keysM]; omega
  have hlin := lin_loop n (Texpr_sum.mk (plF c (prs b) (ofF (prs a) [])) (IntKind.wrap .i64 (a.f_Off + IntKind.wrap .i64 (c * b.f_Off)))) ks (by omega) ks.length 0 n [] [] (by omega) (by omega) (by omega) (by simp) (by simp)
  rw [List.drop_zero] at hlin
  simp only [List.nil_append, Int.natCast_zero] at hlin hof hpl
  refine ⟨TLin.mk (linF (plF c (prs b) (ofF (prs a) [])) ks) ((linF (plF c (prs b) (ofF (prs a) [])) ks).map (lookT (plF c (prs b) (ofF (prs a) [])))) (IntKind.wrap .i64 (a.f_Off + IntKind.wrap .i64 (c * b.f_Off))), ?_, by simp, ?_, fun s hs => ?_, ?_, fun t ht => ?_, rfl, fun f => ?_⟩
  · unfold gexpr_plus gexpr_of
    rw [hof]
    simp only [Option.bind_some]
    rw [hpl]
    simp only [Option.bind_some]
    unfold gexpr_sum__lin
    simp only
    rw [k1]
    simp only [Option.bind_some]
    rw [hlin]
    rfl
  · exact Nat.le_trans (List.length_filter_le _ _) hkl
  · have : s ∈ ks := (List.mem_filter.1 hs).1
    exact h2.sub s (k2.mem_iff.1 this)
  · exact k3.filter _
  · obtain ⟨s, hs, rfl⟩ := List.mem_map.1 ht
    have := (List.mem_filter.1 hs).2
    simpa using this
  · have h3 : prs (TLin.mk (linF (plF c (prs b) (ofF (prs a) [])) ks) ((linF (plF c (prs b) (ofF (prs a) [])) ks).map (lookT (plF c (prs b) (ofF (prs a) [])))) (IntKind.wrap .i64 (a.f_Off + IntKind.wrap .i64 (c * b.f_Off)))) = (linF (plF c (prs b) (ofF (prs a) [])) ks).map fun s => (s, lookT (plF c (prs b) (ofF (prs a) [])) s) := zip_self _ _
    rw [h3, totK_lin, totK_perm k2, totK_keys f _ h2.nd]
    refine (tot_pl f c (prs b) _).trans ?_
    rw [tot_of f (prs a) [] (by rw [prs_keys hab]; exact hand) (by simp [keysM])]
    simp only [tot]
    rw [Int.zero_add]
    exact cg.refl _
theorem copy_eq (n : Nat) (a : TLin) (h : Fits a) : gdovetailref12_Copy n a = some a := by
  have h1 := h.len
  have h2 := h.lent
  unfold gdovetailref12_Copy
  rw [appL_ok (by simp; omega) (by omega), appL_ok (by simp; omega) (by omega)]
  rfl
theorem evalP_norm {a : TLin} {names : List ByteArray} {vals : List Int} {v : Int} (h : evalP a names vals = (v, true)) : normE a = true ∧ evF names vals (prs a) a.f_Off = some v := by
  unfold evalP at h
  split at h
  · rename_i hn
    refine ⟨hn, ?_⟩
    cases he : evF names vals (prs a) a.f_Off with
    | none => rw [he] at h; cases h
    | some w => rw [he] at h; cases h; rfl
  · cases h
/-- the value of what came of two sums -/
theorem sum_val (n : Nat) {a b : TLin} {c : Int} {r : TLin} {names : List ByteArray} {vals : List Int} {v u : Int} (ha : Norm a) (hb : Norm b) (h16 : r.f_Syms.length ≤ 16)
    (hv : evF names vals (prs a) a.f_Off = some v) (hu : evF names vals (prs b) b.f_Off = some u)
    (hl : r.f_Syms.length = r.f_Times.length) (hK : ∀ s ∈ r.f_Syms, s ∈ a.f_Syms ++ b.f_Syms) (hasc : r.f_Syms.Pairwise (fun x y => strLt x y = true)) (hnz : ∀ t ∈ r.f_Times, t ≠ 0)
    (hoff : r.f_Off = IntKind.wrap .i64 (a.f_Off + IntKind.wrap .i64 (c * b.f_Off))) (htot : ∀ f, cg (tot f (prs r)) (tot f (prs a) + c * tot f (prs b))) :
    evalP r names vals = (IntKind.wrap .i64 (v + c * u), true) := by
  have hfa := ev_found _ _ _ hv
  have hfb := ev_found _ _ _ hu
  have found : ∀ {x : TLin}, x.f_Syms.length = x.f_Times.length → (∀ p ∈ prs x, (valAt names vals p.1).isSome = true) → ∀ s ∈ x.f_Syms, (valAt names vals s).isSome = true := by
    intro x hx hq s hs
    rw [← prs_keys hx] at hs
    obtain ⟨p, hp, rfl⟩ := List.mem_map.1 hs
    exact hq p hp
  have hN : Norm r := by
    refine ⟨hl, h16, fun s hs => ?_, hasc, hnz⟩
    rcases List.mem_append.1 (hK s hs) with h | h
    · exact ha.name s h
    · exact hb.name s h
  have hall : ∀ p ∈ prs r, (valAt names vals p.1).isSome = true := fun p hp => by
    rcases List.mem_append.1 (hK _ (prs_mem hp)) with h | h
    · exact found ha.len hfa _ h
    · exact found hb.len hfb _ h
  obtain ⟨w, w1, w2⟩ := ev_val (names := names) (vals := vals) (prs r) r.f_Off hall
  have hw := ev_wrap _ _ _ (by rw [hoff, wrap_wrap]) w1
  obtain ⟨v', e1, e2⟩ := ev_val (names := names) (vals := vals) (prs a) a.f_Off hfa
  rw [hv] at e1; cases e1
  obtain ⟨u', e3, e4⟩ := ev_val (names := names) (vals := vals) (prs b) b.f_Off hfb
  rw [hu] at e3; cases e3
  unfold evalP
  rw [if_pos (norm_mk hN), w1]
  simp only [Prod.mk.injEq, and_true]
  rw [← hw]
  refine wrap_cg (w2.trans ?_)
  have h1 : cg r.f_Off (a.f_Off + c * b.f_Off) := by
    rw [hoff]
    exact (cg_wrap _).trans ((cg.refl _).add (cg_wrap _))
  have h2 := h1.add (htot (vf names vals))
  refine h2.trans ?_
  obtain ⟨z1, q1⟩ := e2
  obtain ⟨z2, q2⟩ := e4
  refine ⟨-z1 - c * z2, ?_⟩
  rw [q1, q2]
  have h3 : c * (b.f_Off + tot (vf names vals) (prs b) + 18446744073709551616 * z2) = c * b.f_Off + c * tot (vf names vals) (prs b) + 18446744073709551616 * (c * z2) := by
    rw [Int.mul_add, Int.mul_add, ← Int.mul_assoc, Int.mul_comm c 18446744073709551616, Int.mul_assoc]
  rw [h3]
  omega
theorem evals_law (a b : TLin) (vals : List Int) (ha : Fits a) (hb : Fits b) : gdovetaillaw12_ExprEvals 4000000 a b vals = some true := by
  have h1 := ha.len
  have h2 := hb.len
  unfold gdovetaillaw12_ExprEvals
  rw [appL_ok (by simp; omega) (by omega)]
  simp only [Option.bind_some, List.nil_append]
  rw [appL_ok (by omega) (by omega)]
  simp only [Option.bind_some]
  have hnm : (a.f_Syms ++ b.f_Syms).length ≤ 2097152 := by rw [List.length_append]; omega
  have hK : ∀ s ∈ a.f_Syms ++ b.f_Syms, s.size ≤ 1048576 := fun s hs => by
    rcases List.mem_append.1 hs with h | h
    · exact ha.sizes s h
    · exact hb.sizes s h
  rw [eval_eqE 4000000 ha hnm (by omega), eval_eqR 4000000 ha hnm (by omega), eval_eqE 4000000 hb hnm (by omega), copy_eq _ a ha, copy_eq _ b hb]
  simp only [Option.bind_some]
  have hs1 : ((evalP a (a.f_Syms ++ b.f_Syms) vals).1 != (evalP a (a.f_Syms ++ b.f_Syms) vals).1 || !(evalP a (a.f_Syms ++ b.f_Syms) vals).2 == (evalP a (a.f_Syms ++ b.f_Syms) vals).2) = false := by simp
  have hs2 : ((evalP a (a.f_Syms ++ b.f_Syms) vals).1 != (evalP a (a.f_Syms ++ b.f_Syms) vals).1 || !((evalP a (a.f_Syms ++ b.f_Syms) vals).2 == (evalP a (a.f_Syms ++ b.f_Syms) vals).2)) = false := by simp
  simp only [hs2, cond_false]
  have hsub1 : ∀ s ∈ a.f_Syms, s ∈ a.f_Syms ++ b.f_Syms := fun s h => List.mem_append_left _ h
  have hsub2 : ∀ s ∈ b.f_Syms, s ∈ a.f_Syms ++ b.f_Syms := fun s h => List.mem_append_right _ h
  have hadd : ∃ s e, gexpr_Add 4000000 a b = some (s, e) ∧ (e = 0 → normE a = true ∧ normE b = true ∧ gexpr_plus 4000000 a b 1 = some s ∧ s.f_Syms.length ≤ 16) := by
    unfold gexpr_Add
    rw [norm_eqE _ a ha (by omega), norm_eqE _ b hb (by omega)]
    cases hna : normE a with
    | false => exact ⟨_, _, rfl, fun h => by cases h⟩
    | true =>
      cases hnb : normE b with
      | false => exact ⟨_, _, rfl, fun h => by cases h⟩
      | true =>
        have hA := norm_of hna
        have hB := norm_of hnb
        obtain ⟨r, r1, r2⟩ := plus_ok 4000000 a b 1 (a.f_Syms ++ b.f_Syms) hA.len hA.many hA.nd hB.len hB.many hK hsub1 hsub2 (by omega)
        simp only [Option.bind_some, Bool.not_true, cond_false, r1]
        by_cases h16 : r.f_Syms.length ≤ 16
        · rw [decide_eq_false (by omega : ¬ ((r.f_Syms.length : Nat) : Int) > 16)]
          exact ⟨_, _, rfl, fun _ => ⟨trivial, trivial, rfl, h16⟩⟩
        · rw [decide_eq_true (by omega : ((r.f_Syms.length : Nat) : Int) > 16)]
          exact ⟨_, _, rfl, fun h => by cases h⟩
  obtain ⟨s, e, hs, he⟩ := hadd
  rw [hs]
  simp only [Option.bind_some]
  obtain ⟨v, ok, hva⟩ : ∃ v ok, evalP a (a.f_Syms ++ b.f_Syms) vals = (v, ok) := ⟨_, _, rfl⟩
  obtain ⟨u, there, hub⟩ : ∃ v ok, evalP b (a.f_Syms ++ b.f_Syms) vals = (v, ok) := ⟨_, _, rfl⟩
  rw [hva, hub]
  simp only
  cases ok with
  | false => rfl
  | true =>
    cases there with
    | false => rfl
    | true =>
      by_cases he0 : e = 0
      case neg =>
        have : (e != 0) = true := by simpa using he0
        rw [this]; rfl
      subst he0
      obtain ⟨hna, hnb, hpl, h16⟩ := he rfl
      have hA := norm_of hna
      have hB := norm_of hnb
      obtain ⟨_, hv⟩ := evalP_norm hva
      obtain ⟨_, hu⟩ := evalP_norm hub
      obtain ⟨r, r1, r2, r3, r4, r5, r6, r7, r8⟩ := plus_ok 4000000 a b 1 (a.f_Syms ++ b.f_Syms) hA.len hA.many hA.nd hB.len hB.many hK hsub1 hsub2 (by omega)
      rw [hpl] at r1; cases r1
      have hfs : Fits (TLin.mk s.f_Syms s.f_Times s.f_Off) := ⟨by simp only; omega, by simp only; omega, fun x hx => hK x (r4 x hx)⟩
      have hE : (TLin.mk s.f_Syms s.f_Times s.f_Off) = s := rfl
      have hvs := sum_val 0 hA hB h16 hv hu r2 r4 r5 r6 r7 r8
      have hO : Norm (TLin.mk ([] : List ByteArray) ([] : List Int) 0) := ⟨rfl, by simp, by simp, by simp, by simp⟩
      obtain ⟨t, t1, t2, t3, t4, t5, t6, t7, t8⟩ := plus_ok 4000000 (TLin.mk ([] : List ByteArray) ([] : List Int) 0) a 7 a.f_Syms hO.len hO.many hO.nd hA.len hA.many ha.sizes (by simp) (fun s h => h) (by omega)
      have ht16 : t.f_Syms.length ≤ 16 := by
        have := hA.many
        simp only [List.length_nil, Nat.zero_add] at t3; omega
      have hft : Fits t := ⟨by omega, by omega, fun x hx => ha.sizes x (t4 x hx)⟩
      have hvt := sum_val 0 (c := 7) (names := a.f_Syms ++ b.f_Syms) (vals := vals) (v := 0) (u := v) hO hA ht16 rfl hv t2 (by simpa using t4) t5 t6 t7 t8
      have htimes : gexpr_Times 4000000 a 7 = some t := by
        unfold gexpr_Times
        rw [norm_eqE _ a ha (by omega), hna]
        simp only [Option.bind_some, Bool.not_true, cond_false, t1]
      rw [htimes, eval_eqE 4000000 hfs hnm (by omega), hE, hvs]
      simp only [Option.bind_some]
      rw [eval_eqE 4000000 hft hnm (by omega), hvt]
      simp only [Option.bind_some, Int.one_mul, Int.zero_add, Bool.not_true, Bool.or_self, Bool.false_or]
      simp
end Go.DM
