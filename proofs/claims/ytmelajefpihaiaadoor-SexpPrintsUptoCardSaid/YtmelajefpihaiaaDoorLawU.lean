/- The plain law of SexpPrints, first part: what the document's Copy, Sound, write and Print come to. Condition: trees of at most 2^20 values and letters. -/
import Derived.Test.YtmelajefpihaiaaDoorLawT
namespace Go.DM
open Go
set_option maxRecDepth 100000

/-! Copy -/
theorem copy3 (N : Nat) : ∀ (k : Nat) (l : List TTree), szL l < k → szL l < N → szL l ≤ 8000000 → gdovetailref03_Copy_rec N k l = some l := by
  intro k
  induction k with
  | zero => intro l h _ _; omega
  | succ k ihk =>
    intro l hk hN h8
    have hll := len_szL l
    have loop : ∀ (j y m : Nat) (acc : List TTree), l.length - y ≤ j → j < m → y ≤ l.length → acc.length = y → gdovetailref03_Copy_L1 N (gdovetailref03_Copy_rec N k) l m acc (y : Int) = some (acc ++ l.drop y) := by
      intro j
      induction j with
      | zero =>
        intro y m acc hj hm hy ha
        obtain ⟨m, rfl⟩ : ∃ m', m = m' + 1 := ⟨m - 1, by omega⟩
        rw [gdovetailref03_Copy_L1]
        have h1 : decide (((y : Nat) : Int) < ((l.length : Nat) : Int)) = false := by simp; omega
        rw [h1, List.drop_eq_nil_of_le (by omega), List.append_nil]; rfl
      | succ j ih =>
        intro y m acc hj hm hy ha
        obtain ⟨m, rfl⟩ : ∃ m', m = m' + 1 := ⟨m - 1, by omega⟩
        rw [gdovetailref03_Copy_L1]
        by_cases hlt : y < l.length
        · have h1 : decide (((y : Nat) : Int) < ((l.length : Nat) : Int)) = true := by simp; omega
          have hm1 := szL_mem (List.getElem_mem hlt)
          rw [szT_eq] at hm1
          rw [h1, atL_nat, List.getElem?_eq_getElem hlt]
          simp only [Option.bind_some, cond_true]
          rw [ihk l[y].f_Kids (by omega) (by omega) (by omega)]
          simp only [Option.bind_some]
          have e : TTree.mk l[y].f_Kind l[y].f_Word l[y].f_Num l[y].f_Kids = l[y] := by cases l[y]; rfl
          rw [e, appL_ok (by rw [List.length_singleton]; omega) (by omega)]
          simp only [Option.bind_some]
          rw [w64_succ (n := y) (by omega), ih (y + 1) m _ (by omega) (by omega) (by omega) (by rw [List.length_append, List.length_singleton]; omega), List.drop_eq_getElem_cons hlt]
          simp
        · have h1 : decide (((y : Nat) : Int) < ((l.length : Nat) : Int)) = false := by simp; omega
          rw [h1, List.drop_eq_nil_of_le (by omega), List.append_nil]; rfl
    rw [gdovetailref03_Copy_rec]
    have := loop l.length 0 N [] (by omega) (by omega) (by omega) rfl
    rw [show (((0 : Nat) : Nat) : Int) = 0 from rfl, List.drop_zero, List.nil_append] at this
    rw [this]; rfl
theorem Copy_eq3 (n : Nat) (l : List TTree) (h : szL l < n) (h8 : szL l ≤ 8000000) : gdovetailref03_Copy n l = some l := copy3 n n l h h h8

/-! Sound -/
theorem in_eq (n : Nat) (c : Int) : gdovetailref03_In n c = some (inR c) := by
  unfold gdovetailref03_In
  congr 1
  unfold inR
  simp only [bne]
  cases decide (c > 32) <;> cases decide (c < 127) <;> cases c == 40 <;> cases c == 41 <;> cases c == 34 <;> cases c == 59 <;> rfl
theorem isword_loop (N : Nat) (s : ByteArray) (hs : s.size ≤ 8000000) : ∀ (k y m : Nat), s.size - y ≤ k → k < m → y ≤ s.size →
    gdovetailref03_IsWord_L1 N s m (y : Int) = some (if ((bs s).drop y).all inR = true then .out () else .ret false) := by
  intro k
  induction k with
  | zero =>
    intro y m hk hm hy
    obtain ⟨m, rfl⟩ : ∃ m', m = m' + 1 := ⟨m - 1, by omega⟩
    have hlen := bs_length s
    rw [gdovetailref03_IsWord_L1]
    have h1 : decide (((y : Nat) : Int) < ((s.size : Nat) : Int)) = false := by simp; omega
    rw [h1, List.drop_eq_nil_of_le (by omega)]; rfl
  | succ k ih =>
    intro y m hk hm hy
    obtain ⟨m, rfl⟩ : ∃ m', m = m' + 1 := ⟨m - 1, by omega⟩
    have hlen := bs_length s
    rw [gdovetailref03_IsWord_L1]
    rcases hl : (bs s).drop y with _ | ⟨c, r⟩
    · have := drop_nil_le hl
      have h1 : decide (((y : Nat) : Int) < ((s.size : Nat) : Int)) = false := by simp; omega
      rw [h1]; rfl
    obtain ⟨hc, hr, hlt⟩ := drop_cons_at hl
    have h1 : decide (((y : Nat) : Int) < ((s.size : Nat) : Int)) = true := by simp; omega
    rw [h1, atS_bs, hc, List.all_cons]
    simp only [Option.bind_some, cond_true]
    rw [in_eq]
    simp only [Option.bind_some]
    cases hi : inR c
    · rfl
    · simp only [Bool.not_true, cond_false, Bool.true_and]
      rw [w64_succ (n := y) (by omega), ih (y + 1) m (by omega) (by omega) (by omega), hr]
theorem isword_eq (n : Nat) (s : ByteArray) (hs : s.size ≤ 8000000) (hn : s.size < n) : ∃ b, gdovetailref03_IsWord n s = some b ∧ (b = true ↔ (bs s ≠ [] ∧ (bs s).all inR = true ∧ numB (bs s) = false)) := by
  unfold gdovetailref03_IsWord
  have := isword_loop n s hs s.size 0 n (by omega) hn (by omega)
  rw [show (((0 : Nat) : Nat) : Int) = 0 from rfl, List.drop_zero] at this
  rw [this]
  have hlen := bs_length s
  cases ha : (bs s).all inR
  · rw [if_neg (by simp)]
    exact ⟨false, rfl, fun h => (by cases h), fun h => (by cases h.2.1)⟩
  · rw [if_pos rfl]
    simp only [Option.bind_some]
    have e : atS s 0 = (bs s)[0]? := atS_bs s 0
    rw [e]
    rcases hl : bs s with _ | ⟨c, r⟩
    · rw [hl, List.length_nil] at hlen
      have : decide (((s.size : Nat) : Int) > 0) = false := decide_eq_false (by omega)
      rw [this]
      exact ⟨false, rfl, fun h => (by cases h), fun h => absurd rfl h.1⟩
    · rw [hl, List.length_cons] at hlen
      have : decide (((s.size : Nat) : Int) > 0) = true := decide_eq_true (by omega)
      rw [this]
      simp only [List.getElem?_cons_zero, Option.bind_some, cond_true]
      by_cases h1 : c = 45
      · subst h1
        exact ⟨false, rfl, fun h => (by cases h), fun h => (by have := h.2.2; simp [numB] at this)⟩
      · have e2 : (c != 45) = true := by simpa using h1
        rw [e2]
        simp only [cond_true]
        have e3 : numB (c :: r) = (decide (c ≥ 48) && decide (c ≤ 57)) := by
          have e1 : (c == 45) = false := by simpa using h1
          rw [numB, e1, Bool.false_or]
        by_cases h2 : c < 48
        · rw [decide_eq_true h2]
          refine ⟨true, rfl, fun _ => ⟨by simp, trivial, ?_⟩, fun _ => rfl⟩
          rw [e3, decide_eq_false (by omega : ¬ c ≥ 48)]; rfl
        · rw [decide_eq_false h2]
          simp only [cond_false, Option.bind_some]
          refine ⟨_, rfl, fun h => ⟨by simp, trivial, ?_⟩, fun h => ?_⟩
          · have h3 := of_decide_eq_true h
            rw [e3, decide_eq_false (by omega : ¬ c ≤ 57), Bool.and_false]
          · have h3 := h.2.2
            rw [e3, decide_eq_true (by omega : c ≥ 48), Bool.true_and, decide_eq_false_iff_not] at h3
            exact decide_eq_true (by omega)
theorem istext_loop (N : Nat) (s : ByteArray) (hs : s.size ≤ 8000000) : ∀ (k y m : Nat), s.size - y ≤ k → k < m → y ≤ s.size →
    gdovetailref03_IsText_L1 N s m (y : Int) = some (if ((bs s).drop y).all inQ = true then .out () else .ret false) := by
  intro k
  induction k with
  | zero =>
    intro y m hk hm hy
    obtain ⟨m, rfl⟩ : ∃ m', m = m' + 1 := ⟨m - 1, by omega⟩
    have hlen := bs_length s
    rw [gdovetailref03_IsText_L1]
    have h1 : decide (((y : Nat) : Int) < ((s.size : Nat) : Int)) = false := by simp; omega
    rw [h1, List.drop_eq_nil_of_le (by omega)]; rfl
  | succ k ih =>
    intro y m hk hm hy
    obtain ⟨m, rfl⟩ : ∃ m', m = m' + 1 := ⟨m - 1, by omega⟩
    have hlen := bs_length s
    rw [gdovetailref03_IsText_L1]
    rcases hl : (bs s).drop y with _ | ⟨c, r⟩
    · have := drop_nil_le hl
      have h1 : decide (((y : Nat) : Int) < ((s.size : Nat) : Int)) = false := by simp; omega
      rw [h1]; rfl
    obtain ⟨hc, hr, hlt⟩ := drop_cons_at hl
    have h1 : decide (((y : Nat) : Int) < ((s.size : Nat) : Int)) = true := by simp; omega
    rw [h1, atS_bs, hc, List.all_cons]
    simp only [Option.bind_some, cond_true]
    by_cases h2 : c < 32
    · have : inQ c = false := by
        cases hi : inQ c
        · rfl
        · have := (inQ_iff c).1 hi; omega
      rw [decide_eq_true h2, this]; rfl
    · rw [decide_eq_false h2]
      simp only [cond_false, Option.bind_some]
      by_cases h3 : c > 126
      · have : inQ c = false := by
          cases hi : inQ c
          · rfl
          · have := (inQ_iff c).1 hi; omega
        rw [decide_eq_true h3, this]; rfl
      · rw [decide_eq_false h3]
        simp only [cond_false, Option.bind_some]
        by_cases h4 : c = 34
        · subst h4; rfl
        · have e : (c == 34) = false := by simpa using h4
          have : inQ c = true := (inQ_iff c).2 ⟨by omega, by omega, h4⟩
          rw [e, this]
          simp only [cond_false, Bool.true_and]
          rw [w64_succ (n := y) (by omega), ih (y + 1) m (by omega) (by omega) (by omega), hr]
theorem istext_eq (n : Nat) (s : ByteArray) (hs : s.size ≤ 8000000) (hn : s.size < n) : gdovetailref03_IsText n s = some ((bs s).all inQ) := by
  unfold gdovetailref03_IsText
  have := istext_loop n s hs s.size 0 n (by omega) hn (by omega)
  rw [show (((0 : Nat) : Nat) : Int) = 0 from rfl, List.drop_zero] at this
  rw [this]
  cases (bs s).all inQ <;> rfl
theorem rsound_mk (N k : Nat) (kd : Int) (w : ByteArray) (nv : Int) (l : List TTree) : gdovetailref03_Sound_rec N (k + 1) (.mk kd w nv l) = (cond (kd == 1) (((gdovetailref03_IsWord N w).bind fun r7 => some ((r7 && (nv == 0)) && (((l.length : Nat) : Int) == 0)))) ((cond (kd == 2) (some ((((decide (w = (ByteArray.mk #[]))) && (((l.length : Nat) : Int) == 0)) && (decide (nv > (-1000000000000000000)))) && (decide (nv < 1000000000000000000)))) ((cond (kd == 3) (((gdovetailref03_IsText N w).bind fun r37 => some ((r37 && (nv == 0)) && (((l.length : Nat) : Int) == 0)))) ((cond (kd == 4) (((gdovetailref03_Sound_L1 N (gdovetailref03_Sound_rec N k) (.mk kd w nv l) N 0).bind fun v => match v with | .out _ => some ((decide (w = (ByteArray.mk #[]))) && (nv == 0)) | .ret r114 => some r114)) (some false)))))))) := by rw [gdovetailref03_Sound_rec]; rfl
theorem rsound3 (N : Nat) : ∀ (k : Nat) (t : TTree), szT t ≤ k → szT t < N → szT t ≤ 8000000 → ∃ b, gdovetailref03_Sound_rec N k t = some b ∧ (b = true ↔ FormT t) := by
  intro k
  induction k with
  | zero => intro t h _ _; rw [szT_eq] at h; omega
  | succ k ihk =>
    intro t hk hN h8
    obtain ⟨kd, w, v, l⟩ := t
    rw [szT] at hk hN h8
    rw [rsound_mk]
    by_cases h1 : kd = 1
    · subst h1
      simp only [beq_self_eq_true, cond_true]
      obtain ⟨bw, hw1, hw2⟩ := isword_eq N w (by omega) (by omega)
      rw [hw1]
      refine ⟨_, rfl, ?_⟩
      rw [form1, Bool.and_eq_true, Bool.and_eq_true, kids_len, beq_iff_eq, hw2]
      constructor
      · rintro ⟨⟨⟨a, b, c⟩, d⟩, e⟩; exact ⟨d, e, a, b, c⟩
      · rintro ⟨d, e, a, b, c⟩; exact ⟨⟨⟨a, b, c⟩, d⟩, e⟩
    have e1 : (kd == 1) = false := by simpa using h1
    rw [e1]
    simp only [cond_false]
    by_cases h2 : kd = 2
    · subst h2
      simp only [beq_self_eq_true, cond_true]
      refine ⟨_, rfl, ?_⟩
      rw [form2, Bool.and_eq_true, Bool.and_eq_true, Bool.and_eq_true, decide_eq_true_eq, decide_eq_true_eq, decide_eq_true_eq, kids_len]
      unfold most18 nilB3
      constructor
      · rintro ⟨⟨⟨a, b⟩, c⟩, d⟩; exact ⟨a, b, by omega, by omega⟩
      · rintro ⟨a, b, c, d⟩; exact ⟨⟨⟨a, b⟩, by omega⟩, by omega⟩
    have e2 : (kd == 2) = false := by simpa using h2
    rw [e2]
    simp only [cond_false]
    by_cases h3 : kd = 3
    · subst h3
      simp only [beq_self_eq_true, cond_true]
      rw [istext_eq N w (by omega) (by omega)]
      refine ⟨_, rfl, ?_⟩
      rw [form3, Bool.and_eq_true, Bool.and_eq_true, kids_len, beq_iff_eq]
      constructor
      · rintro ⟨⟨a, b⟩, c⟩; exact ⟨b, c, a⟩
      · rintro ⟨b, c, a⟩; exact ⟨⟨a, b⟩, c⟩
    have e3 : (kd == 3) = false := by simpa using h3
    rw [e3]
    simp only [cond_false]
    by_cases h4 : kd = 4
    · subst h4
      simp only [beq_self_eq_true, cond_true]
      have hll := len_szL l
      have loop : ∀ (j y m : Nat), l.length - y ≤ j → j < m → y ≤ l.length →
          (FormL (l.drop y) ∧ gdovetailref03_Sound_L1 N (gdovetailref03_Sound_rec N k) (.mk 4 w v l) m (y : Int) = some (.out ())) ∨ (¬ FormL (l.drop y) ∧ gdovetailref03_Sound_L1 N (gdovetailref03_Sound_rec N k) (.mk 4 w v l) m (y : Int) = some (.ret false)) := by
        intro j
        induction j with
        | zero =>
          intro y m hj hm hy
          obtain ⟨m, rfl⟩ : ∃ m', m = m' + 1 := ⟨m - 1, by omega⟩
          rw [gdovetailref03_Sound_L1]
          have h1 : decide (((y : Nat) : Int) < (((TTree.mk 4 w v l).f_Kids.length : Nat) : Int)) = false := by simp only [TTree.f_Kids]; simp; omega
          rw [h1, List.drop_eq_nil_of_le (by omega)]
          exact .inl ⟨by rw [FormL]; trivial, rfl⟩
        | succ j ih =>
          intro y m hj hm hy
          obtain ⟨m, rfl⟩ : ∃ m', m = m' + 1 := ⟨m - 1, by omega⟩
          rw [gdovetailref03_Sound_L1]
          by_cases hlt : y < l.length
          · have h1 : decide (((y : Nat) : Int) < (((TTree.mk 4 w v l).f_Kids.length : Nat) : Int)) = true := by simp only [TTree.f_Kids]; simp; omega
            rw [h1, atL_nat]
            simp only [TTree.f_Kids]
            rw [List.getElem?_eq_getElem hlt, FormL_drop hlt]
            simp only [Option.bind_some, cond_true]
            have hmem := szL_mem (List.getElem_mem hlt)
            obtain ⟨b, g1, g2⟩ := ihk l[y] (by omega) (by omega) (by omega)
            rw [g1]
            simp only [Option.bind_some]
            cases b with
            | true =>
              simp only [Bool.not_true, cond_false]
              rw [w64_succ (n := y) (by omega)]
              rcases ih (y + 1) m (by omega) (by omega) (by omega) with ⟨k1, k2⟩ | ⟨k1, k2⟩
              · exact .inl ⟨⟨g2.1 rfl, k1⟩, k2⟩
              · exact .inr ⟨fun h => k1 h.2, k2⟩
            | false => exact .inr ⟨fun h => absurd (g2.2 h.1) (by simp), rfl⟩
          · have h1 : decide (((y : Nat) : Int) < (((TTree.mk 4 w v l).f_Kids.length : Nat) : Int)) = false := by simp only [TTree.f_Kids]; simp; omega
            rw [h1, List.drop_eq_nil_of_le (by omega)]
            exact .inl ⟨by rw [FormL]; trivial, rfl⟩
      have := loop l.length 0 N (by omega) (by omega) (by omega)
      rw [show (((0 : Nat) : Nat) : Int) = 0 from rfl, List.drop_zero] at this
      rcases this with ⟨k1, k2⟩ | ⟨k1, k2⟩
      · rw [k2]
        refine ⟨_, rfl, ?_⟩
        rw [form4, Bool.and_eq_true, decide_eq_true_eq, beq_iff_eq]
        exact ⟨fun h => ⟨h.1, h.2, k1⟩, fun h => ⟨h.1, h.2.1⟩⟩
      · rw [k2]
        refine ⟨_, rfl, ?_⟩
        rw [form4]
        exact ⟨fun h => (by cases h), fun h => absurd h.2.2 k1⟩
    · have e4 : (kd == 4) = false := by simpa using h4
      rw [e4]
      refine ⟨false, rfl, fun h => (by cases h), fun h => absurd h (form_else h1 h2 h3 h4)⟩
end Go.DM
namespace Go.DM
open Go
set_option maxRecDepth 100000

/-! Digits -/
theorem tdiv10 (m : Nat) : Int.tdiv (m : Int) 10 = ((m / 10 : Nat) : Int) := by
  rw [Int.tdiv_eq_ediv_of_nonneg (by omega)]; omega
theorem tmod10 (m : Nat) : Int.tmod (m : Int) 10 = ((m % 10 : Nat) : Int) := by
  rw [Int.tmod_eq_emod_of_nonneg (by omega)]; omega
theorem dec_small {u : Nat} (h : u < 10) : Lib.decDigits u = [UInt8.ofNat (48 + u)] := by rw [Lib.decDigits, dif_pos h]
theorem dec_big {u : Nat} (h : ¬ u < 10) : Lib.decDigits u = Lib.decDigits (u / 10) ++ [UInt8.ofNat (48 + u % 10)] := by rw [Lib.decDigits, dif_neg h]
theorem digit_map {d : Nat} (h : d < 10) : [UInt8.ofNat (48 + d)].map (fun b => (b.toNat : Int)) = [((48 + d : Nat) : Int)] := by
  have e : (UInt8.ofNat (48 + d)).toNat = 48 + d := by rw [UInt8.toNat_ofNat']; omega
  rw [List.map_cons, List.map_nil, e]
theorem bs_one {c : Int} (h0 : 0 ≤ c) (h1 : c < 256) : bs (ofB [c]) = [c] := bs_ofB (fun x hx => by rw [List.mem_singleton] at hx; omega)
theorem bs_45 : bs (ByteArray.mk #[45]) = [45] := rfl
theorem wrap_dig {x : Int} (h0 : 48 ≤ x) (h1 : x ≤ 57) : IntKind.wrap .u8 (IntKind.wrap .i64 x) = x := by
  rw [w64 (by omega) (by omega), wrap_u8 (by omega) (by omega)]
theorem dig_pos (N : Nat) : ∀ (k u : Nat), u < 1000000000000000000 → u < 10 ^ k → ∃ r, gdovetailref03_Digits_rec N (k + 1) (u : Int) = some r ∧ bs r = (Lib.decDigits u).map (fun b => (b.toNat : Int)) ∧ r.size ≤ k + 1 := by
  intro k
  induction k with
  | zero =>
    intro u _ hk
    obtain rfl : u = 0 := by simpa using hk
    exact ⟨_, rfl, by rw [dec_small (by omega), digit_map (by omega)]; rfl, by decide⟩
  | succ k ih =>
    intro u hu hk
    rw [gdovetailref03_Digits_rec, decide_eq_false (by omega : ¬ (u : Int) < 0)]
    simp only [cond_false]
    by_cases h9 : u < 10
    · rw [decide_eq_false (by omega : ¬ (u : Int) > 9)]
      simp only [cond_false]
      rw [wrap_dig (by omega) (by omega)]
      refine ⟨_, rfl, ?_, by rw [size_ofB]; simp⟩
      rw [bs_one (by omega) (by omega), dec_small h9, digit_map h9]
      congr 1
    · rw [decide_eq_true (by omega : (u : Int) > 9), tdiv10, tmod10, w64 (n := ((u / 10 : Nat) : Int)) (by omega) (by omega)]
      rw [Nat.pow_succ] at hk
      obtain ⟨r, g1, g2, g3⟩ := ih (u / 10) (by omega) (by omega)
      simp only [cond_true]
      rw [g1]
      simp only [Option.bind_some]
      rw [wrap_dig (by omega) (by omega)]
      have hz : (ofB [48 + ((u % 10 : Nat) : Int)]).size = 1 := size_ofB _
      have hk18 : r.size ≤ 100 := by
        rw [← bs_length, g2, List.length_map, Lib.decDigits_length]
        have := Lib.nDigits_le20 (u / 10) (by omega)
        omega
      rw [catS_ok (by omega)]
      refine ⟨_, rfl, ?_, by rw [ByteArray.size_append]; omega⟩
      rw [bs_app, g2, bs_one (by omega) (by omega), dec_big h9, List.map_append, digit_map (by omega)]
      congr 1
theorem dig_neg (N : Nat) : ∀ (k u : Nat), 1 ≤ u → u < 1000000000000000000 → u < 10 ^ k → ∃ r, gdovetailref03_Digits_rec N (k + 1) (-(u : Int)) = some r ∧ bs r = 45 :: (Lib.decDigits u).map (fun b => (b.toNat : Int)) := by
  intro k
  induction k with
  | zero => intro u h1 _ hk; simp at hk; omega
  | succ k ih =>
    intro u h1 hu hk
    rw [gdovetailref03_Digits_rec, decide_eq_true (by omega : -(u : Int) < 0)]
    simp only [cond_true]
    by_cases h9 : u < 10
    · rw [decide_eq_true (by omega : -(u : Int) > -10)]
      simp only [cond_true]
      rw [wrap_dig (by omega) (by omega)]
      have hz : (ofB [48 - -(u : Int)]).size = 1 := size_ofB _
      have z1 : (ByteArray.mk #[45]).size = 1 := rfl
      rw [catS_ok (by omega)]
      refine ⟨_, rfl, ?_⟩
      rw [bs_app, bs_45, bs_one (by omega) (by omega), dec_small h9, digit_map h9]
      simp only [List.singleton_append]
      congr 2; omega
    · rw [decide_eq_false (by omega : ¬ -(u : Int) > -10), Int.neg_tdiv, Int.neg_tmod, tdiv10, tmod10, w64 (n := -((u / 10 : Nat) : Int)) (by omega) (by omega)]
      rw [Nat.pow_succ] at hk
      obtain ⟨r, g1, g2⟩ := ih (u / 10) (by omega) (by omega) (by omega)
      simp only [cond_false]
      rw [g1]
      simp only [Option.bind_some]
      rw [wrap_dig (by omega) (by omega)]
      have hz : (ofB [48 - -((u % 10 : Nat) : Int)]).size = 1 := size_ofB _
      have hk18 : r.size ≤ 100 := by
        rw [← bs_length, g2, List.length_cons, List.length_map, Lib.decDigits_length]
        have := Lib.nDigits_le20 (u / 10) (by omega)
        omega
      rw [catS_ok (by omega)]
      refine ⟨_, rfl, ?_⟩
      rw [bs_app, g2, bs_one (by omega) (by omega), dec_big h9, List.map_append, digit_map (by omega), List.cons_append]
      congr 3; omega
theorem digits_eq (n : Nat) (hn : 20 ≤ n) {v : Int} (h : -most18 ≤ v ∧ v ≤ most18) : gdovetailref03_Digits n v = some (itoaS v) := by
  unfold most18 at h
  unfold gdovetailref03_Digits
  have key : ∃ r, gdovetailref03_Digits_rec n n v = some r ∧ bs r = itoaL v := by
    unfold itoaL Lib.itoa
    obtain ⟨m, rfl⟩ : ∃ m, n = m + 18 + 1 := ⟨n - 19, by omega⟩
    have hp : (10 : Nat) ^ 18 ≤ 10 ^ (m + 18) := Nat.pow_le_pow_right (by decide) (by omega)
    have hp' : (10 : Nat) ^ 18 = 1000000000000000000 := by decide
    by_cases hv : v < 0
    · rw [if_pos hv]
      obtain ⟨r, g1, g2⟩ := dig_neg (m + 18 + 1) (m + 18) v.natAbs (by omega) (by omega) (by omega)
      rw [show (-(v.natAbs : Int)) = v by omega] at g1
      exact ⟨r, g1, by rw [g2]; rfl⟩
    · rw [if_neg hv]
      obtain ⟨r, g1, g2, _⟩ := dig_pos (m + 18 + 1) (m + 18) v.toNat (by omega) (by omega)
      rw [show ((v.toNat : Int)) = v by omega] at g1
      exact ⟨r, g1, g2⟩
  obtain ⟨r, g1, g2⟩ := key
  rw [g1]
  congr 1
  exact bs_inj (by rw [g2, bs_itoaS])

/-! write, Print -/
theorem rwrite_mk (N k : Nat) (kd : Int) (w : ByteArray) (nv : Int) (l : List TTree) : gdovetailref03_write_rec N (k + 1) (.mk kd w nv l) = (cond (kd == 1) (some w) ((cond (kd == 2) (((gdovetailref03_Digits N nv).bind fun r8 => some r8)) ((cond (kd == 3) (((catS (ByteArray.mk #[34]) w).bind fun s12 => ((catS s12 (ByteArray.mk #[34])).bind fun s13 => some s13))) (((gdovetailref03_write_L1 N (gdovetailref03_write_rec N k) (.mk kd w nv l) N (ByteArray.mk #[40]) 0).bind fun x140 => ((catS x140 (ByteArray.mk #[41])).bind fun s209 => some s209)))))))) := by rw [gdovetailref03_write_rec]; rfl
theorem rwrite3 (N : Nat) : ∀ (k : Nat) (t : TTree), FormT t → szT t ≤ k → szT t < N → 20 ≤ N → szT t ≤ 8000000 → (wrT t).length ≤ 8000000 → gdovetailref03_write_rec N k t = some (ofB (wrT t)) := by
  intro k
  induction k with
  | zero => intro t _ h _ _; rw [szT_eq] at h; omega
  | succ k ihk =>
    intro t hf hk hN h20 hz h8
    obtain ⟨kd, w, v, l⟩ := t
    rw [szT] at hk hN hz
    rw [rwrite_mk]
    rcases form_cases hf with rfl | rfl | rfl | rfl
    · rw [wrT1, ofB_bs]
      simp only [beq_self_eq_true, cond_true]
    · have e1 : ((2 : Int) == 1) = false := rfl
      simp only [e1, beq_self_eq_true, cond_true, cond_false]
      rw [wrT2, digits_eq N h20 (form2.1 hf).2.2, ← bs_itoaS, ofB_bs]; rfl
    · have e1 : ((3 : Int) == 1) = false := rfl
      have e2 : ((3 : Int) == 2) = false := rfl
      simp only [e1, e2, beq_self_eq_true, cond_true, cond_false]
      have z1 : (ByteArray.mk #[34]).size = 1 := rfl
      have hz : (ByteArray.mk #[34] ++ w).size = 1 + w.size := by rw [ByteArray.size_append, z1]
      rw [catS_ok (by omega), Option.bind_some, catS_ok (by omega), Option.bind_some]
      have hb : bs (ByteArray.mk #[34] ++ w ++ ByteArray.mk #[34]) = wrT (.mk 3 w v l) := by
        rw [bs_app, bs_app, wrT3]; rfl
      rw [← hb, ofB_bs]
    · rw [wrT4] at h8
      rw [List.length_cons, List.length_append, List.length_singleton] at h8
      have hfl := (form4.1 hf).2.2
      have e1 : ((4 : Int) == 1) = false := rfl
      have e2 : ((4 : Int) == 2) = false := rfl
      have e3 : ((4 : Int) == 3) = false := rfl
      simp only [e1, e2, e3, cond_false]
      have hll := len_szL l
      have loop : ∀ (j y m : Nat) (acc : ByteArray), l.length - y ≤ j → j < m → y ≤ l.length → FormL (l.drop y) → acc.size + (if y = 0 then wrH (l.drop y) else wrS (l.drop y)).length ≤ 8000000 →
          ∃ r, gdovetailref03_write_L1 N (gdovetailref03_write_rec N k) (.mk 4 w v l) m acc (y : Int) = some r ∧ bs r = bs acc ++ (if y = 0 then wrH (l.drop y) else wrS (l.drop y)) := by
        intro j
        induction j with
        | zero =>
          intro y m acc hj hm hy hfy h8
          obtain ⟨m, rfl⟩ : ∃ m', m = m' + 1 := ⟨m - 1, by omega⟩
          rw [gdovetailref03_write_L1]
          have h1 : decide (((y : Nat) : Int) < (((TTree.mk 4 w v l).f_Kids.length : Nat) : Int)) = false := by simp only [TTree.f_Kids]; simp; omega
          rw [h1, List.drop_eq_nil_of_le (by omega), wrH, wrS]
          exact ⟨acc, rfl, by simp⟩
        | succ j ih =>
          intro y m acc hj hm hy hfy h8
          obtain ⟨m, rfl⟩ : ∃ m', m = m' + 1 := ⟨m - 1, by omega⟩
          rw [gdovetailref03_write_L1]
          by_cases hlt : y < l.length
          · have h1 : decide (((y : Nat) : Int) < (((TTree.mk 4 w v l).f_Kids.length : Nat) : Int)) = true := by simp only [TTree.f_Kids]; simp; omega
            rw [h1, atL_nat]
            simp only [TTree.f_Kids]
            rw [List.getElem?_eq_getElem hlt]
            simp only [Option.bind_some, cond_true]
            have hmem := szL_mem (List.getElem_mem hlt)
            rw [FormL_drop hlt] at hfy
            rw [List.drop_eq_getElem_cons hlt, wrH, wrS] at h8 ⊢
            have hwz : (ofB (wrT l[y])).size = (wrT l[y]).length := size_ofB _
            have hwb : bs (ofB (wrT l[y])) = wrT l[y] := by
              have := bs_ofB_pr (l := [l[y]]) (by rw [FormL, FormL]; exact ⟨hfy.1, trivial⟩)
              refine bs_ofB (fun c hc => ?_)
              have hm : c ∈ prP [l[y]] := by rw [prP]; exact List.mem_append_left _ hc
              rw [← this] at hm
              exact bs_byte hm
            by_cases hy0 : y = 0
            · subst hy0
              rw [if_pos rfl] at h8 ⊢
              rw [List.length_append] at h8
              have h2 : decide (((0 : Nat) : Int) > 0) = false := decide_eq_false (by omega)
              rw [h2]
              simp only [cond_false, Option.bind_some]
              rw [ihk l[0] hfy.1 (by omega) (by omega) h20 (by omega) (by omega)]
              simp only [Option.bind_some]
              rw [catS_ok (by omega), Option.bind_some]
              obtain ⟨r, g1, g2⟩ := ih (0 + 1) m (acc ++ ofB (wrT l[0])) (by omega) (by omega) (by omega) hfy.2 (by rw [if_neg (by omega), ByteArray.size_append]; omega)
              rw [if_neg (by omega)] at g2
              refine ⟨r, g1, ?_⟩
              rw [g2, bs_app, hwb, List.append_assoc]
            · rw [if_neg hy0] at h8 ⊢
              rw [List.length_cons, List.length_append] at h8
              have h2 : decide (((y : Nat) : Int) > 0) = true := decide_eq_true (by omega)
              rw [h2]
              simp only [cond_true]
              have z1 : (ByteArray.mk #[32]).size = 1 := rfl
              rw [catS_ok (by omega), Option.bind_some]
              simp only [Option.bind_some]
              rw [ihk l[y] hfy.1 (by omega) (by omega) h20 (by omega) (by omega)]
              simp only [Option.bind_some]
              rw [catS_ok (by rw [ByteArray.size_append]; omega), Option.bind_some]
              rw [w64_succ (n := y) (by omega)]
              obtain ⟨r, g1, g2⟩ := ih (y + 1) m (acc ++ ByteArray.mk #[32] ++ ofB (wrT l[y])) (by omega) (by omega) (by omega) hfy.2 (by rw [if_neg (by omega), ByteArray.size_append, ByteArray.size_append]; omega)
              rw [if_neg (by omega)] at g2
              refine ⟨r, g1, ?_⟩
              rw [g2, bs_app, bs_app, hwb]
              have : bs (ByteArray.mk #[32]) = [32] := rfl
              rw [this]; simp
          · have h1 : decide (((y : Nat) : Int) < (((TTree.mk 4 w v l).f_Kids.length : Nat) : Int)) = false := by simp only [TTree.f_Kids]; simp; omega
            rw [h1, List.drop_eq_nil_of_le (by omega), wrH, wrS]
            exact ⟨acc, rfl, by simp⟩
      have z1 : (ByteArray.mk #[40]).size = 1 := rfl
      have z2 : (ByteArray.mk #[41]).size = 1 := rfl
      obtain ⟨r, g1, g2⟩ := loop l.length 0 N (ByteArray.mk #[40]) (by omega) (by omega) (by omega) (by rw [List.drop_zero]; exact hfl) (by rw [if_pos rfl, List.drop_zero]; omega)
      rw [if_pos rfl, List.drop_zero] at g2
      rw [show (((0 : Nat) : Nat) : Int) = 0 from rfl] at g1
      rw [g1]
      simp only [Option.bind_some]
      have hrz : r.size = 1 + (wrH l).length := by
        rw [← bs_length, g2, List.length_append, bs_length, z1]
      rw [catS_ok (by omega), Option.bind_some]
      congr 1
      have hb : bs (r ++ ByteArray.mk #[41]) = wrT (.mk 4 w v l) := by
        rw [bs_app, g2, wrT4]; rfl
      rw [← hb, ofB_bs]
theorem wrT_bytes {t : TTree} (h : FormT t) : bs (ofB (wrT t)) = wrT t := by
  have := bs_ofB_pr (l := [t]) (by rw [FormL, FormL]; exact ⟨h, trivial⟩)
  refine bs_ofB (fun c hc => ?_)
  have hm : c ∈ prP [t] := by rw [prP]; exact List.mem_append_left _ hc
  rw [← this] at hm
  exact bs_byte hm
theorem rprint_L1 (n : Nat) (l : List TTree) (h8 : szL l ≤ 8000000) (hn : szL l < n) : ∀ (j y m : Nat), l.length - y ≤ j → j < m → y ≤ l.length →
    (FormL (l.drop y) ∧ gdovetailref03_Print_L1 n l m (y : Int) = some (.out ())) ∨ (¬ FormL (l.drop y) ∧ gdovetailref03_Print_L1 n l m (y : Int) = some (.ret (ByteArray.mk #[], 31))) := by
  have hll := len_szL l
  intro j
  induction j with
  | zero =>
    intro y m hj hm hy
    obtain ⟨m, rfl⟩ : ∃ m', m = m' + 1 := ⟨m - 1, by omega⟩
    rw [gdovetailref03_Print_L1]
    have h1 : decide (((y : Nat) : Int) < ((l.length : Nat) : Int)) = false := by simp; omega
    rw [h1, List.drop_eq_nil_of_le (by omega)]
    exact .inl ⟨by rw [FormL]; trivial, rfl⟩
  | succ j ih =>
    intro y m hj hm hy
    obtain ⟨m, rfl⟩ : ∃ m', m = m' + 1 := ⟨m - 1, by omega⟩
    rw [gdovetailref03_Print_L1]
    by_cases hlt : y < l.length
    · have h1 : decide (((y : Nat) : Int) < ((l.length : Nat) : Int)) = true := by simp; omega
      rw [h1, atL_nat, List.getElem?_eq_getElem hlt, FormL_drop hlt]
      simp only [Option.bind_some, cond_true]
      have hmem := szL_mem (List.getElem_mem hlt)
      obtain ⟨b, g1, g2⟩ := rsound3 n n l[y] (by omega) (by omega) (by omega)
      have g1' : gdovetailref03_Sound n l[y] = some b := g1
      rw [g1']
      simp only [Option.bind_some]
      cases b with
      | true =>
        simp only [Bool.not_true, cond_false]
        rw [w64_succ (n := y) (by omega)]
        rcases ih (y + 1) m (by omega) (by omega) (by omega) with ⟨k1, k2⟩ | ⟨k1, k2⟩
        · exact .inl ⟨⟨g2.1 rfl, k1⟩, k2⟩
        · exact .inr ⟨fun h => k1 h.2, k2⟩
      | false => exact .inr ⟨fun h => absurd (g2.2 h.1) (by simp), rfl⟩
    · have h1 : decide (((y : Nat) : Int) < ((l.length : Nat) : Int)) = false := by simp; omega
      rw [h1, List.drop_eq_nil_of_le (by omega)]
      exact .inl ⟨by rw [FormL]; trivial, rfl⟩
theorem rprint_L2 (n : Nat) (l : List TTree) (h8 : szL l ≤ 8000000) (hn : szL l < n) (h20 : 20 ≤ n) : ∀ (j y m : Nat) (acc : ByteArray), l.length - y ≤ j → j < m → y ≤ l.length → FormL (l.drop y) → acc.size ≤ 262144 → (prP (l.drop y)).length ≤ 7000000 →
    gdovetailref03_Print_L2 n l m acc (y : Int) = some (if 262144 < acc.size + (prP (l.drop y)).length then .ret (ByteArray.mk #[], 33) else .out (ofB (bs acc ++ prP (l.drop y)))) := by
  have hll := len_szL l
  intro j
  induction j with
  | zero =>
    intro y m acc hj hm hy hf ha hp
    obtain ⟨m, rfl⟩ : ∃ m', m = m' + 1 := ⟨m - 1, by omega⟩
    rw [gdovetailref03_Print_L2]
    have h1 : decide (((y : Nat) : Int) < ((l.length : Nat) : Int)) = false := by simp; omega
    rw [h1, List.drop_eq_nil_of_le (by omega), prP, List.append_nil, ofB_bs, if_neg (by rw [List.length_nil]; omega)]; rfl
  | succ j ih =>
    intro y m acc hj hm hy hf ha hp
    obtain ⟨m, rfl⟩ : ∃ m', m = m' + 1 := ⟨m - 1, by omega⟩
    rw [gdovetailref03_Print_L2]
    by_cases hlt : y < l.length
    · have h1 : decide (((y : Nat) : Int) < ((l.length : Nat) : Int)) = true := by simp; omega
      have hmem := szL_mem (List.getElem_mem hlt)
      rw [h1, atL_nat, List.getElem?_eq_getElem hlt]
      rw [FormL_drop hlt] at hf
      rw [List.drop_eq_getElem_cons hlt, prP] at hp ⊢
      rw [List.length_append, List.length_cons] at hp ⊢
      simp only [Option.bind_some, cond_true]
      have hw : gdovetailref03_write n l[y] = some (ofB (wrT l[y])) := rwrite3 n n l[y] hf.1 (by omega) (by omega) h20 (by omega) (by omega)
      rw [hw]
      simp only [Option.bind_some]
      have hwz : (ofB (wrT l[y])).size = (wrT l[y]).length := size_ofB _
      have z1 : (ByteArray.mk #[10]).size = 1 := rfl
      rw [catS_ok (by omega), Option.bind_some, catS_ok (by rw [ByteArray.size_append]; omega), Option.bind_some]
      have hz : (acc ++ (ofB (wrT l[y]) ++ ByteArray.mk #[10])).size = acc.size + ((wrT l[y]).length + 1) := by
        rw [ByteArray.size_append, ByteArray.size_append]; omega
      have hb : bs (acc ++ (ofB (wrT l[y]) ++ ByteArray.mk #[10])) = bs acc ++ (wrT l[y] ++ [10]) := by
        rw [bs_app, bs_app, wrT_bytes hf.1]; rfl
      by_cases hg : 262144 < acc.size + ((wrT l[y]).length + 1)
      · rw [decide_eq_true (by omega), if_pos (by omega)]; rfl
      · rw [decide_eq_false (by omega)]
        simp only [cond_false]
        rw [w64_succ (n := y) (by omega), ih (y + 1) m _ (by omega) (by omega) (by omega) hf.2 (by omega) (by omega), hz, hb]
        have e : bs acc ++ (wrT l[y] ++ [10]) ++ prP (l.drop (y + 1)) = bs acc ++ (wrT l[y] ++ 10 :: prP (l.drop (y + 1))) := by simp
        rw [e]
        have e2 : acc.size + ((wrT l[y]).length + 1) + (prP (l.drop (y + 1))).length = acc.size + ((wrT l[y]).length + ((prP (l.drop (y + 1))).length + 1)) := by omega
        rw [e2]
    · have h1 : decide (((y : Nat) : Int) < ((l.length : Nat) : Int)) = false := by simp; omega
      rw [h1, List.drop_eq_nil_of_le (by omega), prP, List.append_nil, ofB_bs, if_neg (by rw [List.length_nil]; omega)]; rfl
/-- the document's Print is sexp's -/
theorem rPrint_eq (n : Nat) (l : List TTree) (h8 : szL l ≤ 8000000) (hn : szL l < n) (h20 : 20 ≤ n) (hp : FormL l → cntL l ≤ 65536 → (prP l).length ≤ 7000000) : ∃ s e, gdovetailref03_Print n l = some (s, e) ∧ gsexp_Print n l = some (s, e) ∧
    (e = 0 → FormL l ∧ deepL l ≤ 32 ∧ cntL l ≤ 65536 ∧ s = ofB (prP l) ∧ (prP l).length ≤ 262144) := by
  have hll := len_szL l
  have h1 := rprint_L1 n l h8 hn l.length 0 n (by omega) (by omega) (by omega)
  rw [show (((0 : Nat) : Nat) : Int) = 0 from rfl, List.drop_zero] at h1
  unfold gdovetailref03_Print
  rcases h1 with ⟨hf, h1⟩ | ⟨hf, h1⟩
  · rw [h1]
    simp only [Option.bind_some]
    rw [Count_eq3 n l hn h8]
    simp only [Option.bind_some]
    by_cases hc : 65536 < cntL l
    · rw [decide_eq_true (by omega)]
      exact ⟨_, _, rfl, Print_many n l h8 hn hf (.inl hc), fun h => by cases h⟩
    · rw [decide_eq_false (by omega)]
      simp only [cond_false]
      rw [Deep_eq3 n l hn h8]
      simp only [Option.bind_some]
      by_cases hd : 32 < deepL l
      · rw [decide_eq_true (by omega)]
        exact ⟨_, _, rfl, Print_many n l h8 hn hf (.inr hd), fun h => by cases h⟩
      · rw [decide_eq_false (by omega)]
        simp only [cond_false]
        have hpp := hp hf (by omega)
        have h2 := rprint_L2 n l h8 hn h20 l.length 0 n (ByteArray.mk #[]) (by omega) (by omega) (by omega) (by rw [List.drop_zero]; exact hf) (by decide) (by rw [List.drop_zero]; exact hpp)
        rw [show (((0 : Nat) : Nat) : Int) = 0 from rfl, List.drop_zero] at h2
        have e0 : (ByteArray.mk #[]).size = 0 := rfl
        have e1 : bs (ByteArray.mk #[]) = [] := rfl
        rw [e0, e1, Nat.zero_add, List.nil_append] at h2
        rw [h2]
        have h3 := Print_ok n l h8 hn hf (by omega) (by omega) (by omega)
        rw [h3]
        by_cases hg : 262144 < (prP l).length
        · rw [if_pos hg, if_pos hg]
          exact ⟨_, _, rfl, rfl, fun h => by cases h⟩
        · rw [if_neg hg, if_neg hg]
          exact ⟨_, _, rfl, rfl, fun _ => ⟨hf, by omega, by omega, rfl, by omega⟩⟩
  · rw [h1]
    exact ⟨_, _, rfl, Print_bad n l h8 hn hf, fun h => by cases h⟩
mutual
theorem tk_szT : ∀ (t : TTree), FormT t → tkzs (toksT t) ≤ 24 * cntT t + szT t
  | .mk k w v l, h => by
    rcases form_cases h with rfl | rfl | rfl | rfl
    · rw [toksT, if_neg (by decide), cntT, szT]
      show w.size + 3 + 0 ≤ _
      omega
    · rw [toksT, if_neg (by decide), cntT, szT]
      show 23 + 0 ≤ _
      omega
    · rw [toksT, if_neg (by decide), cntT, szT]
      show w.size + 3 + 0 ≤ _
      omega
    · have := tk_szL l (form4.1 h).2.2
      rw [toksT, if_pos rfl, cntT, szT, tkzs, tkzs_app]
      show 3 + (tkzs (toksL l) + (3 + 0)) ≤ _
      omega
theorem tk_szL : ∀ (l : List TTree), FormL l → tkzs (toksL l) ≤ 24 * cntL l + szL l
  | [], _ => by rw [toksL, tkzs]; omega
  | t :: r, h => by
    rw [FormL] at h
    have := tk_szT t h.1
    have := tk_szL r h.2
    rw [toksL, tkzs_app, cntL, szL]; omega
end
/-- SexpPrints' function gives true. -/
theorem sexp_prints (l : List TTree) (h8 : szL l ≤ 2000000) : gdovetaillaw03_SexpPrints 8000000 l = some true := by
  have hp : FormL l → cntL l ≤ 65536 → (prP l).length ≤ 7000000 := fun hf hc => by
    have := prP_len l hf
    have := tk_szL l hf
    omega
  unfold gdovetaillaw03_SexpPrints
  rw [alive3]
  simp only [Option.bind_some, Bool.not_true, cond_false]
  rw [Copy_eq3 8000000 l (by omega) (by omega)]
  obtain ⟨s, e, h1, h2, h3⟩ := rPrint_eq 8000000 l (by omega) (by omega) (by omega) hp
  simp only [Option.bind_some]
  rw [h1, h2]
  simp only [Option.bind_some, bne_self_eq_false, decide_true, Bool.not_true, Bool.or_self, cond_false]
  rw [Same_refl3 8000000 l (by omega) (by omega)]
  simp only [Option.bind_some, Bool.not_true, cond_false]
  by_cases he : e = 0
  · obtain ⟨f1, f2, f3, rfl, f5⟩ := h3 he
    subst he
    simp only [bne_self_eq_false, cond_false]
    have hx := parse_prP f1 f2 f3
    rw [← bs_ofB_pr f1] at hx
    have hz := size_ofB_pr l
    rw [Parse_ok 8000000 _ (by omega) (by omega) hx]
    simp only [Option.bind_some, beq_self_eq_true, Bool.and_self, cond_true]
    rw [Same_refl3 8000000 l (by omega) (by omega)]
    rfl
  · have : (e != 0) = true := by simpa using he
    rw [this]; rfl
end Go.DM
