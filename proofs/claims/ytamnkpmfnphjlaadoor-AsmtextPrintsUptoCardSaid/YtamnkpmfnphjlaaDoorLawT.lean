/- The plain law of asmtext's tokens: the two sides' functions come to one list of tokens. Condition: lines of at most 6 million bytes. -/
import Derived.Test.YtamnkpmfnphjlaaDoorDmF
import Derived.Test.YtamnkpmfnphjlaaDoorWalkT2
import Derived.Lib.IndexBytes
import Derived.Lib.CutLaws
namespace Go.DM
open Go

def hexv (c : Int) : Int := if 48 ≤ c ∧ c ≤ 57 then c - 48 else if 97 ≤ c ∧ c ≤ 102 then c - 87 else -1
/-- a text behind its opening quote: its bytes, what follows -/
def textS : List Int → List Int → Option (List Int × List Int)
  | [], _ => none
  | c :: r, acc =>
    if c = 34 then some (acc, r) else if c < 32 ∨ c > 126 then none else if c ≠ 92 then textS r (acc ++ [c]) else
    match r with
    | [] => none
    | d :: r => if d = 110 then textS r (acc ++ [10]) else if d = 116 then textS r (acc ++ [9]) else if d = 48 then textS r (acc ++ [0]) else if d = 92 ∨ d = 34 then textS r (acc ++ [d]) else
      if d = 120 then match r with
        | a :: b :: r => if hexv a < 0 ∨ hexv b < 0 then none else textS r (acc ++ [16 * hexv a + hexv b])
        | _ => none
      else none

theorem hexv_lt (c : Int) : hexv c < 16 := by unfold hexv; split; omega; split <;> omega
theorem hexv_ge (c : Int) : -1 ≤ hexv c := by unfold hexv; split; omega; split <;> omega
theorem hex_eq (n : Nat) {c : Int} (h0 : 0 ≤ c) (h1 : c < 256) : gdovetailref13_hex n c = some (hexv c) := by
  unfold gdovetailref13_hex hexv
  by_cases h : 48 ≤ c ∧ c ≤ 57
  · have : (decide (c ≥ 48) && decide (c ≤ 57)) = true := by simp; omega
    rw [this, if_pos h]
    have h2 : IntKind.wrap .u8 (c - 48) = c - 48 := wrap_u8 (by omega) (by omega)
    simp only [cond_true, h2]
    rw [w64] <;> omega
  · have : (decide (c ≥ 48) && decide (c ≤ 57)) = false := by simp; omega
    rw [this, if_neg h]
    simp only [cond_false]
    by_cases h' : 97 ≤ c ∧ c ≤ 102
    · have : (decide (c ≥ 97) && decide (c ≤ 102)) = true := by simp; omega
      rw [this, if_pos h']
      have h2 : IntKind.wrap .u8 (c - 97) = c - 97 := wrap_u8 (by omega) (by omega)
      have h3 : IntKind.wrap .i64 (c - 97) = c - 97 := w64 (by omega) (by omega)
      have h4 : IntKind.wrap .i64 (c - 97 + 10) = c - 97 + 10 := w64 (by omega) (by omega)
      simp only [cond_true, h2, h3, h4]
      congr 1; omega
    · have : (decide (c ≥ 97) && decide (c ≤ 102)) = false := by simp; omega
      rw [this, if_neg h']; rfl
def nilB : ByteArray := ByteArray.mk #[]
theorem textS_len : ∀ (l acc : List Int) (t r : List Int), textS l acc = some (t, r) → r.length < l.length
  | [], acc, t, r, h => by simp [textS] at h
  | [c], acc, t, r, h => by
    unfold textS at h
    split at h
    · cases h; simp
    split at h
    · cases h
    split at h
    · simp [textS] at h
    · simp at h
  | c :: d :: l, acc, t, r, h => by
    unfold textS at h
    split at h
    · cases h; simp
    split at h
    · cases h
    split at h
    · have := textS_len (d :: l) _ _ _ h; simp at this ⊢; omega
    simp only at h
    split at h
    · have := textS_len l _ _ _ h; simp at this ⊢; omega
    split at h
    · have := textS_len l _ _ _ h; simp at this ⊢; omega
    split at h
    · have := textS_len l _ _ _ h; simp at this ⊢; omega
    split at h
    · have := textS_len l _ _ _ h; simp at this ⊢; omega
    split at h
    · split at h
      · rename_i a b r'
        split at h
        · cases h
        · have := textS_len r' _ _ _ h; simp at this ⊢; omega
      · cases h
    · cases h

/-- what the loop of the reference's 'text' comes to -/
def TextR (s : ByteArray) (v : LR Unit (ByteArray × Int × Bool)) : Option (List Int × List Int) → Prop
  | some (t, r) => v = .ret (ofB t, ((s.size - r.length : Nat) : Int), true)
  | none => v = .out () ∨ v = .ret (nilB, 0, false)
theorem text_loop (N : Nat) (s : ByteArray) (hs : s.size ≤ 6000000) : ∀ (k y m : Nat) (acc : List Int), s.size - y ≤ k → k < m → acc.length ≤ y → y ≤ s.size →
    ∃ v, gdovetailref13_text_L1 N s m acc (y : Int) = some v ∧ TextR s v (textS ((bs s).drop y) acc) := by
  intro k
  induction k using Nat.strongRecOn with
  | ind k ih =>
  intro y m acc hk hm hacc hy
  obtain ⟨m, rfl⟩ : ∃ m', m = m' + 1 := ⟨m - 1, by omega⟩
  have hlen := bs_length s
  rw [gdovetailref13_text_L1]
  rcases hl : (bs s).drop y with _ | ⟨c, r⟩
  · have := drop_nil_le hl
    have h1 : decide ((y : Int) < (s.size : Nat)) = false := by simp; omega
    exact ⟨.out (), by rw [h1]; rfl, .inl rfl⟩
  · obtain ⟨hc, hr, hlt⟩ := drop_cons_at hl
    have hbyte : 0 ≤ c ∧ c < 256 := bs_byte (List.mem_of_getElem? hc)
    have h1 : decide ((y : Int) < (s.size : Nat)) = true := by simp; omega
    have hrl : r.length = s.size - (y + 1) := by rw [← hr]; simp [hlen]
    rw [h1, atS_bs, hc]
    simp only [cond_true, Option.bind_some]
    unfold textS
    by_cases e34 : c = 34
    · have : (c == 34) = true := by simp [e34]
      rw [this, if_pos e34]
      refine ⟨_, rfl, ?_⟩
      simp only [TextR]
      rw [w64_succ (by omega), hrl]
      congr 3; omega
    have : (c == 34) = false := by simp [e34]
    rw [this, if_neg e34]
    simp only [cond_false]
    by_cases eb : c < 32 ∨ c > 126
    · have : (decide (c < 32) || decide (c > 126)) = true := by simpa using eb
      rw [this, if_pos eb]
      exact ⟨_, rfl, .inr rfl⟩
    have : (decide (c < 32) || decide (c > 126)) = false := by simp; omega
    rw [this, if_neg eb]
    simp only [cond_false]
    by_cases e92 : c ≠ 92
    · have : (c != 92) = true := by simpa using e92
      rw [this, if_pos e92]
      simp only [cond_true]
      rw [appL_ok (by simp; omega) (by omega), w64_succ (by omega)]
      simp only [Option.bind_some]
      have := ih (s.size - (y + 1)) (by omega) (y + 1) m (acc ++ [c]) (Nat.le_refl _) (by omega) (by simp; omega) (by omega)
      rw [hr] at this
      exact this
    have : (c != 92) = false := by simpa using e92
    rw [this, if_neg e92]
    simp only [cond_false]
    rw [w64_succ (by omega)]
    rcases hr2 : r with _ | ⟨d, r2⟩
    · subst hr2
      have : decide (((y + 1 : Nat) : Int) ≥ (s.size : Nat)) = true := by simp at hrl ⊢; omega
      rw [this]
      exact ⟨_, rfl, .inr rfl⟩
    subst hr2
    obtain ⟨hd, hdr, hlt2⟩ := drop_cons_at hr
    have hdb : 0 ≤ d ∧ d < 256 := bs_byte (List.mem_of_getElem? hd)
    have h2 : decide (((y + 1 : Nat) : Int) ≥ (s.size : Nat)) = false := by simp; omega
    rw [h2, atS_bs, hd]
    simp only [cond_false, Option.bind_some]
    have next : ∀ (z : Int), ∃ v, gdovetailref13_text_L1 N s m (acc ++ [z]) (IntKind.wrap .i64 ((y : Int) + 2)) = some v ∧ TextR s v (textS r2 (acc ++ [z])) := by
      intro z
      rw [w64 (by omega) (by omega)]
      have := ih (s.size - (y + 2)) (by omega) (y + 2) m (acc ++ [z]) (Nat.le_refl _) (by omega) (by simp; omega) (by omega)
      rw [hdr] at this
      exact this
    have app : ∀ z : Int, appL 1 acc [z] = some (acc ++ [z]) := fun z => appL_ok (by simp; omega) (by omega)
    by_cases e110 : d = 110
    · subst e110; simp only [if_true, app, Option.bind_some, cond_true, beq_self_eq_true]; exact next 10
    have : (d == 110) = false := by simp [e110]
    rw [this, if_neg e110]
    by_cases e116 : d = 116
    · subst e116; simp only [if_true, app, Option.bind_some, cond_true, cond_false, beq_self_eq_true]; exact next 9
    have : (d == 116) = false := by simp [e116]
    rw [this, if_neg e116]
    by_cases e48 : d = 48
    · subst e48; simp only [if_true, app, Option.bind_some, cond_true, cond_false, beq_self_eq_true]; exact next 0
    have : (d == 48) = false := by simp [e48]
    rw [this, if_neg e48]
    by_cases eq : d = 92 ∨ d = 34
    · rw [if_pos eq]
      have : (cond (d == 92) (some (d == 92)) (some (d == 34)) : Option Bool) = some true := by rcases eq with rfl | rfl <;> rfl
      simp only [cond_false, this, Option.bind_some, cond_true, app]
      exact next d
    have : (cond (d == 92) (some (d == 92)) (some (d == 34)) : Option Bool) = some false := by
      have h1 : (d == 92) = false := by simp; omega
      have h2 : (d == 34) = false := by simp; omega
      rw [h1, h2]; rfl
    simp only [cond_false, this, Option.bind_some]
    rw [if_neg eq]
    by_cases e120 : d = 120
    · subst e120
      simp only [if_true, beq_self_eq_true, cond_true]
      have e3 : IntKind.wrap .i64 ((y : Int) + 3) = ((y + 3 : Nat) : Int) := by rw [w64] <;> omega
      have e2 : IntKind.wrap .i64 ((y : Int) + 2) = ((y + 2 : Nat) : Int) := by rw [w64] <;> omega
      rw [e3, e2]
      rcases hr3 : r2 with _ | ⟨a, r3⟩
      · subst hr3
        have : decide (((y + 3 : Nat) : Int) ≥ (s.size : Nat)) = true := by have := drop_nil_le hdr; simp; omega
        rw [this]
        exact ⟨_, rfl, .inr rfl⟩
      subst hr3
      obtain ⟨ha, har, hlt3⟩ := drop_cons_at hdr
      rcases hr4 : r3 with _ | ⟨b, r4⟩
      · subst hr4
        have : decide (((y + 3 : Nat) : Int) ≥ (s.size : Nat)) = true := by have := drop_nil_le har; simp; omega
        rw [this]
        exact ⟨_, rfl, .inr rfl⟩
      subst hr4
      obtain ⟨hb, hbr, hlt4⟩ := drop_cons_at har
      have hab := bs_byte (List.mem_of_getElem? ha)
      have hbb := bs_byte (List.mem_of_getElem? hb)
      have : decide (((y + 3 : Nat) : Int) ≥ (s.size : Nat)) = false := by simp; omega
      rw [this]
      simp only [cond_false, atS_bs]
      have ha' : (bs s)[y + 2]? = some a := ha
      have hb' : (bs s)[y + 3]? = some b := hb
      simp only [ha', hb', Option.bind_some, hex_eq N hab.1 hab.2, hex_eq N hbb.1 hbb.2]
      by_cases n1 : hexv a < 0
      · have : decide (hexv a < 0) = true := by simpa using n1
        rw [this]
        simp only [cond_true, Option.bind_some]
        rw [if_pos (.inl n1)]
        exact ⟨_, rfl, .inr rfl⟩
      have : decide (hexv a < 0) = false := by simpa using n1
      rw [this]
      simp only [cond_false, Option.bind_some]
      by_cases n2 : hexv b < 0
      · have : decide (hexv b < 0) = true := by simpa using n2
        rw [this, if_pos (.inr n2)]
        exact ⟨_, rfl, .inr rfl⟩
      have : decide (hexv b < 0) = false := by simpa using n2
      rw [this, if_neg (by omega)]
      simp only [cond_false, app, Option.bind_some]
      have l1 := hexv_lt a
      have l2 := hexv_lt b
      have g1 : IntKind.wrap .i64 (hexv a * 16) = hexv a * 16 := w64 (by omega) (by omega)
      have g2 : IntKind.wrap .i64 (hexv a * 16 + hexv b) = hexv a * 16 + hexv b := w64 (by omega) (by omega)
      have g3 : IntKind.wrap .u8 (hexv a * 16 + hexv b) = 16 * hexv a + hexv b := by rw [wrap_u8 (by omega) (by omega)]; omega
      rw [g1, g2, g3, w64 (by omega) (by omega)]
      have := ih (s.size - (y + 4)) (by omega) (y + 4) m (acc ++ [16 * hexv a + hexv b]) (Nat.le_refl _) (by omega) (by simp; omega) (by omega)
      rw [hbr] at this
      have e4 : (((y + 2 : Nat) : Int) + 2) = ((y + 4 : Nat) : Int) := by omega
      rw [e4]
      exact this
    · have : (d == 120) = false := by simp [e120]
      rw [this, if_neg e120]
      exact ⟨_, rfl, .inr rfl⟩
end Go.DM
namespace Go.DM
open Go

theorem text_eq (n : Nat) (s : ByteArray) (hs : s.size ≤ 6000000) (y : Nat) (hy : y < s.size) (hn : s.size < n) :
    gdovetailref13_text n s (y : Int) = some (match textS ((bs s).drop (y + 1)) [] with | some (t, r) => (ofB t, ((s.size - r.length : Nat) : Int), true) | none => (nilB, 0, false)) := by
  unfold gdovetailref13_text
  rw [w64_succ (by omega)]
  obtain ⟨v, h1, h2⟩ := text_loop n s hs (s.size - (y + 1)) (y + 1) n [] (Nat.le_refl _) (by omega) (by simp) (by omega)
  rw [h1]
  cases ht : textS ((bs s).drop (y + 1)) [] with
  | none => rw [ht] at h2; rcases h2 with rfl | rfl <;> rfl
  | some p => obtain ⟨t, r⟩ := p; rw [ht] at h2; simp only [TextR] at h2; subst h2; rfl

/-! signs and words -/
def signL : List Int := [40, 41, 91, 93, 43, 45, 42, 44, 58, 37]
def signB (c : Int) : Bool := signL.contains c
theorem sign_loop (N : Nat) (c : Int) : ∀ (k y m : Nat), 10 - y ≤ k → k < m → y ≤ 10 → gdovetailref13_Sign_L1 N c m (y : Int) = some (if (signL.drop y).contains c then .ret true else .out ()) := by
  intro k
  induction k with
  | zero =>
    intro y m hk hm hy
    obtain ⟨m, rfl⟩ : ∃ m', m = m' + 1 := ⟨m - 1, by omega⟩
    have : y = 10 := by omega
    subst this
    rfl
  | succ k ih =>
    intro y m hk hm hy
    obtain ⟨m, rfl⟩ : ∃ m', m = m' + 1 := ⟨m - 1, by omega⟩
    rw [gdovetailref13_Sign_L1]
    have hl : ([40, 41, 91, 93, 43, 45, 42, 44, 58, 37] : List Int) = signL := rfl
    rw [hl]
    have hlen : signL.length = 10 := rfl
    by_cases h : y < 10
    · have h1 : decide ((y : Int) < ((signL.length : Nat) : Int)) = true := by simp [hlen]; omega
      rw [h1, atL_nat]
      have hlt : y < signL.length := by omega
      rw [List.drop_eq_getElem_cons hlt, List.getElem?_eq_getElem hlt]
      simp only [cond_true, Option.bind_some]
      cases he : c == signL[y]
      · simp only [cond_false]
        rw [w64_succ (by omega), ih (y + 1) m (by omega) (by omega) (by omega), List.contains_cons, he, Bool.false_or]
      · rw [List.contains_cons, he]; rfl
    · have : y = 10 := by omega
      subst this
      rfl
theorem sign_eq (n : Nat) (c : Int) (hn : 10 < n) : gdovetailref13_Sign n c = some (signB c) := by
  unfold gdovetailref13_Sign
  have := sign_loop n c 10 0 n (by omega) hn (by omega)
  rw [show ((0 : Nat) : Int) = 0 from rfl] at this
  rw [this]
  show _ = some ((signL.drop 0).contains c)
  cases (signL.drop 0).contains c <;> rfl
def inW (c : Int) : Bool := (((((((decide (c ≥ 65)) && (decide (c ≤ 90))) || ((decide (c ≥ 97)) && (decide (c ≤ 122)))) || ((decide (c ≥ 48)) && (decide (c ≤ 57)))) || (c == 95)) || (c == 46)) || (c == 36))
theorem word_eq (n : Nat) (c : Int) : gasmtext_word n c = some (inW c) := rfl
theorem inword_eq (n : Nat) (c : Int) : gdovetailref13_InWord n c = some (inW c) := by
  unfold gdovetailref13_InWord gdovetailref12_Letter gdovetailref12_Digit inW
  simp only [Option.bind_some]
  generalize (((decide (c ≥ 65)) && (decide (c ≤ 90))) || ((decide (c ≥ 97)) && (decide (c ≤ 122)))) = x
  generalize ((decide (c ≥ 48)) && (decide (c ≤ 57))) = y
  generalize (c == 95) = u
  generalize (c == 46) = v
  generalize (c == 36) = w
  cases x <;> cases y <;> cases u <;> cases v <;> cases w <;> rfl
/-- the reference's run of a word -/
theorem run_loop (N : Nat) (s : ByteArray) (hs : s.size ≤ 6000000) : ∀ (k y m : Nat), s.size - y ≤ k → k < m → y ≤ s.size → gdovetailref13_Words_L3 N s m (y : Int) = some (((y + (((bs s).drop y).takeWhile inW).length : Nat) : Int)) := by
  intro k
  induction k with
  | zero =>
    intro y m hk hm hy
    obtain ⟨m, rfl⟩ : ∃ m', m = m' + 1 := ⟨m - 1, by omega⟩
    have hlen := bs_length s
    rw [gdovetailref13_Words_L3]
    have h1 : decide ((y : Int) < (s.size : Nat)) = false := by simp; omega
    rw [h1, List.drop_eq_nil_of_le (by omega)]
    rfl
  | succ k ih =>
    intro y m hk hm hy
    obtain ⟨m, rfl⟩ : ∃ m', m = m' + 1 := ⟨m - 1, by omega⟩
    have hlen := bs_length s
    rw [gdovetailref13_Words_L3]
    rcases hl : (bs s).drop y with _ | ⟨c, r⟩
    · have := drop_nil_le hl
      have h1 : decide ((y : Int) < (s.size : Nat)) = false := by simp; omega
      rw [h1]; rfl
    · obtain ⟨hc, hr, hlt⟩ := drop_cons_at hl
      have h1 : decide ((y : Int) < (s.size : Nat)) = true := by simp; omega
      rw [h1, atS_bs, hc]
      simp only [cond_true, Option.bind_some, inword_eq]
      cases hw : inW c
      · simp [hw]
      · simp only [cond_true]
        rw [w64_succ (by omega), ih (y + 1) m (by omega) (by omega) (by omega), hr]
        simp [hw]; omega
/-- the program's run of a word -/
theorem run_loop' (N : Nat) (s : ByteArray) (hs : s.size ≤ 6000000) : ∀ (k y m : Nat), s.size - y ≤ k → k < m → y ≤ s.size → gasmtext_one_L1 N s m (y : Int) = some (((y + (((bs s).drop y).takeWhile inW).length : Nat) : Int)) := by
  intro k
  induction k with
  | zero =>
    intro y m hk hm hy
    obtain ⟨m, rfl⟩ : ∃ m', m = m' + 1 := ⟨m - 1, by omega⟩
    have hlen := bs_length s
    rw [gasmtext_one_L1]
    have h1 : decide ((y : Int) < (s.size : Nat)) = false := by simp; omega
    rw [h1, List.drop_eq_nil_of_le (by omega)]
    rfl
  | succ k ih =>
    intro y m hk hm hy
    obtain ⟨m, rfl⟩ : ∃ m', m = m' + 1 := ⟨m - 1, by omega⟩
    have hlen := bs_length s
    rw [gasmtext_one_L1]
    rcases hl : (bs s).drop y with _ | ⟨c, r⟩
    · have := drop_nil_le hl
      have h1 : decide ((y : Int) < (s.size : Nat)) = false := by simp; omega
      rw [h1]; rfl
    · obtain ⟨hc, hr, hlt⟩ := drop_cons_at hl
      have h1 : decide ((y : Int) < (s.size : Nat)) = true := by simp; omega
      rw [h1, atS_bs, hc]
      simp only [cond_true, Option.bind_some, word_eq]
      cases hw : inW c
      · simp [hw]
      · simp only [cond_true]
        rw [w64_succ (by omega), ih (y + 1) m (by omega) (by omega) (by omega), hr]
        simp [hw]; omega

/-! tokens -/
theorem take_tw (p : Int → Bool) : ∀ (l : List Int), l.take (l.takeWhile p).length = l.takeWhile p
  | [] => rfl
  | c :: l => by
    rw [List.takeWhile_cons]
    cases p c
    · rfl
    · simp only [if_true, List.length_cons, List.take_succ_cons, take_tw p l]
theorem drop_tw (p : Int → Bool) : ∀ (l : List Int), l.drop (l.takeWhile p).length = l.dropWhile p
  | [] => rfl
  | c :: l => by
    rw [List.takeWhile_cons, List.dropWhile_cons]
    cases p c
    · rfl
    · simp only [if_true, List.length_cons, List.drop_succ_cons, drop_tw p l]
theorem textS_suf : ∀ (l acc : List Int) (t r : List Int), textS l acc = some (t, r) → r <:+ l
  | [], acc, t, r, h => by simp [textS] at h
  | [c], acc, t, r, h => by
    unfold textS at h
    split at h
    · cases h; exact List.nil_suffix
    split at h
    · cases h
    split at h
    · simp [textS] at h
    · simp at h
  | c :: d :: l, acc, t, r, h => by
    unfold textS at h
    have s2 : l <:+ c :: d :: l := ⟨[c, d], rfl⟩
    split at h
    · cases h; exact List.suffix_cons _ _
    split at h
    · cases h
    split at h
    · exact (textS_suf (d :: l) _ _ _ h).trans (List.suffix_cons _ _)
    simp only at h
    split at h
    · exact (textS_suf l _ _ _ h).trans s2
    split at h
    · exact (textS_suf l _ _ _ h).trans s2
    split at h
    · exact (textS_suf l _ _ _ h).trans s2
    split at h
    · exact (textS_suf l _ _ _ h).trans s2
    split at h
    · split at h
      · rename_i a b r'
        split at h
        · cases h
        · exact (textS_suf r' _ _ _ h).trans (List.IsSuffix.trans ⟨[a, b], rfl⟩ s2)
      · cases h
    · cases h
theorem takeDrop_len (p : Int → Bool) (l : List Int) : (l.takeWhile p).length + (l.dropWhile p).length = l.length := by
  rw [← List.length_append, List.takeWhile_append_dropWhile]
def toksS (l : List Int) (acc : List TTok) : LR (List TTok) Unit :=
  match l with
  | [] => .out acc
  | c :: r => if c = 35 then .out acc else if c = 32 ∨ c = 9 then toksS r acc else if c = 34 then
      match h : textS r [] with
      | some (t, r') => toksS r' (acc ++ [⟨3, ofB t⟩])
      | none => .ret ()
    else if signB c = true then toksS r (acc ++ [⟨2, ofB [c]⟩])
    else if inW c = true then toksS (r.dropWhile inW) (acc ++ [⟨1, ofB (c :: r.takeWhile inW)⟩])
    else .ret ()
termination_by l.length
decreasing_by
  · simp
  · have := textS_len _ _ _ _ h; simp; omega
  · simp
  · have := takeDrop_len inW r; simp; omega
def errT : LR (List TTok) Unit → LR (List TTok) (List TTok × Int)
  | .out a => .out a
  | .ret _ => .ret ([], 131)
theorem refW_loop (N : Nat) (s : ByteArray) (hs : s.size ≤ 6000000) (hN : s.size < N) (hN' : 10 < N) : ∀ (k y m : Nat) (acc : List TTok), s.size - y ≤ k → k < m → acc.length ≤ y → y ≤ s.size →
    gdovetailref13_Words_L2 N s m acc (y : Int) = some (errT (toksS ((bs s).drop y) acc)) := by
  intro k
  induction k using Nat.strongRecOn with
  | ind k ih =>
  intro y m acc hk hm hacc hy
  obtain ⟨m, rfl⟩ : ∃ m', m = m' + 1 := ⟨m - 1, by omega⟩
  have hlen := bs_length s
  rw [gdovetailref13_Words_L2, toksS.eq_def]
  rcases hl : (bs s).drop y with _ | ⟨c, r⟩
  · have := drop_nil_le hl
    have h1 : decide ((y : Int) < (s.size : Nat)) = false := by simp; omega
    rw [h1]; rfl
  obtain ⟨hc, hr, hlt⟩ := drop_cons_at hl
  have h1 : decide ((y : Int) < (s.size : Nat)) = true := by simp; omega
  have hrl : r.length = s.size - (y + 1) := by rw [← hr]; simp [hlen]
  rw [h1, atS_bs, hc]
  simp only [cond_true, Option.bind_some]
  have app : ∀ t : TTok, appL 24 acc [t] = some (acc ++ [t]) := fun t => appL_ok (by simp; omega) (by omega)
  have next : ∀ (z : Nat) (acc' : List TTok), y < z → z ≤ s.size → acc'.length ≤ acc.length + 1 → gdovetailref13_Words_L2 N s m acc' (z : Int) = some (errT (toksS ((bs s).drop z) acc')) :=
    fun z acc' h2 h3 h4 => ih (s.size - z) (by omega) z m acc' (Nat.le_refl _) (by omega) (by omega) h3
  by_cases e35 : c = 35
  · subst e35; rfl
  have : (c != 35) = true := by simpa using e35
  rw [this, if_neg e35]
  simp only [cond_true]
  by_cases eb : c = 32 ∨ c = 9
  · have : ((c == 32) || (c == 9)) = true := by simpa using eb
    rw [this, if_pos eb]
    simp only [cond_true]
    rw [w64_succ (by omega), next (y + 1) acc (by omega) (by omega) (by omega), hr]
  have : ((c == 32) || (c == 9)) = false := by simp; omega
  rw [this, if_neg eb]
  simp only [cond_false]
  by_cases e34 : c = 34
  · have : (c == 34) = true := by simpa using e34
    rw [this, if_pos e34]
    simp only [cond_true]
    rw [text_eq N s hs y (by omega) hN, hr]
    cases ht : textS r [] with
    | none => rfl
    | some p =>
      obtain ⟨t, r'⟩ := p
      have hlt' := textS_len _ _ _ _ ht
      simp only [Option.bind_some, Bool.not_true, cond_false, app]
      have hsuf : (bs s).drop (s.size - r'.length) = r' := by
        have h1 : r' <:+ bs s := (textS_suf _ _ _ _ ht).trans (by rw [← hr]; exact List.drop_suffix _ _)
        have h2 := List.suffix_iff_eq_drop.1 h1
        rw [hlen] at h2
        exact h2.symm
      rw [next (s.size - r'.length) _ (by omega) (by omega) (by simp), hsuf]
  have : (c == 34) = false := by simpa using e34
  rw [this, if_neg e34]
  simp only [cond_false, sign_eq N c hN', Option.bind_some]
  cases hsg : signB c
  · simp only [cond_false, inword_eq, Option.bind_some, Bool.false_eq_true, if_false]
    cases hw : inW c
    · rfl
    · simp only [cond_true, if_true]
      rw [run_loop N s hs (s.size - y) y N (Nat.le_refl _) (by omega) hy, hl]
      have htw : ((c :: r).takeWhile inW).length = 1 + (r.takeWhile inW).length := by simp [hw]; omega
      have htd := takeDrop_len inW r
      rw [htw]
      simp only [Option.bind_some]
      rw [subS_nat _ _ _ (by omega) (by omega)]
      simp only [Option.bind_some, app]
      rw [next (y + (1 + (r.takeWhile inW).length)) _ (by omega) (by omega) (by simp), extract_ofB, hl]
      have e1 : (c :: r).take (y + (1 + (r.takeWhile inW).length) - y) = c :: r.takeWhile inW := by
        have : y + (1 + (r.takeWhile inW).length) - y = (r.takeWhile inW).length + 1 := by omega
        rw [this, List.take_succ_cons]
        congr 1
        exact take_tw _ _
      have e2 : (bs s).drop (y + (1 + (r.takeWhile inW).length)) = r.dropWhile inW := by
        rw [← Nat.add_assoc, ← List.drop_drop, hr]
        exact drop_tw _ _
      rw [e1, e2]
  · simp only [cond_true, if_true]
    rw [w64_succ (by omega), subS_nat _ _ _ (by omega) (by omega)]
    simp only [Option.bind_some, app]
    rw [next (y + 1) _ (by omega) (by omega) (by simp), hr, extract_ofB, hl]
    have : y + 1 - y = 1 := by omega
    rw [this]; rfl
end Go.DM
namespace Go.DM
open Go

/-! a byte's place in a text that is written out -/
theorem byte_fin {P : Int → Prop} (h : ∀ n : Fin 256, P ((n.val : Nat) : Int)) {c : Int} (h0 : 0 ≤ c) (h1 : c < 256) : P c := by
  have := h ⟨c.toNat, by omega⟩
  simpa [Int.toNat_of_nonneg h0] using this
theorem idx_hex {c : Int} (h0 : 0 ≤ c) (h1 : c < 256) : indexByteT (ByteArray.mk #[48, 49, 50, 51, 52, 53, 54, 55, 56, 57, 97, 98, 99, 100, 101, 102]) c = some (hexv c) :=
  byte_fin (P := fun c => indexByteT (ByteArray.mk #[48, 49, 50, 51, 52, 53, 54, 55, 56, 57, 97, 98, 99, 100, 101, 102]) c = some (hexv c)) (by decide +kernel) h0 h1
def escI (c : Int) : Int := if c = 110 then 0 else if c = 116 then 1 else if c = 48 then 2 else if c = 92 then 3 else if c = 34 then 4 else -1
theorem idx_esc {c : Int} (h0 : 0 ≤ c) (h1 : c < 256) : indexByteT (ByteArray.mk #[110, 116, 48, 92, 34]) c = some (escI c) :=
  byte_fin (P := fun c => indexByteT (ByteArray.mk #[110, 116, 48, 92, 34]) c = some (escI c)) (by decide +kernel) h0 h1
theorem idx_sign {c : Int} (h0 : 0 ≤ c) (h1 : c < 256) : ∃ i, indexByteT (ByteArray.mk #[40, 41, 91, 93, 43, 45, 42, 44, 58, 37]) c = some i ∧ decide (i ≥ 0) = signB c :=
  byte_fin (P := fun c => ∃ i, indexByteT (ByteArray.mk #[40, 41, 91, 93, 43, 45, 42, 44, 58, 37]) c = some i ∧ decide (i ≥ 0) = signB c)
    (fun n => by
      have h : ∀ n : Fin 256, decide (Lib.indexByte (ByteArray.mk #[40, 41, 91, 93, 43, 45, 42, 44, 58, 37]).data.toList ((n.val : Nat) : Int).toNat.toUInt8 ≥ 0) = signB ((n.val : Nat) : Int) := by decide +kernel
      exact ⟨_, rfl, h n⟩) h0 h1

def escS : List Int → Int × Int
  | [] => (0, 0)
  | d :: r => if d = 110 then (10, 1) else if d = 116 then (9, 1) else if d = 48 then (0, 1) else if d = 92 ∨ d = 34 then (d, 1) else
    if d = 120 then match r with
      | a :: b :: _ => if hexv a < 0 ∨ hexv b < 0 then (0, 0) else (16 * hexv a + hexv b, 3)
      | _ => (0, 0)
    else (0, 0)
theorem escaped_eq (n : Nat) (s : ByteArray) : gasmtext_escaped n s = some (escS (bs s)) := by
  unfold gasmtext_escaped
  have hlen := bs_length s
  rcases hl : bs s with _ | ⟨d, r⟩
  · have : decide (s = ByteArray.mk #[]) = true := by simp [← bs_nil, hl]
    rw [this]; rfl
  have hne : decide (s = ByteArray.mk #[]) = false := by
    rw [decide_eq_false_iff_not]; intro e; rw [← bs_nil, hl] at e; cases e
  have at0 : atS s 0 = some d := by have := atS_bs s 0; rw [hl] at this; exact this
  have hd : 0 ≤ d ∧ d < 256 := bs_byte (by rw [hl]; simp)
  rw [hne]
  simp only [cond_false, at0, Option.bind_some, idx_esc hd.1 hd.2, escS]
  by_cases e1 : d = 110
  · subst e1; rfl
  by_cases e2 : d = 116
  · subst e2; rfl
  by_cases e3 : d = 48
  · subst e3; rfl
  by_cases e4 : d = 92
  · subst e4; rfl
  by_cases e5 : d = 34
  · subst e5; rfl
  have : escI d = -1 := by simp [escI, e1, e2, e3, e4, e5]
  rw [this, if_neg e1, if_neg e2, if_neg e3, if_neg (by omega)]
  have : decide ((-1 : Int) ≥ 0) = false := rfl
  rw [this]
  simp only [cond_false]
  by_cases e6 : d = 120
  · subst e6
    simp only [if_true, bne_self_eq_false, Bool.false_or]
    rcases r with _ | ⟨a, _ | ⟨b, r⟩⟩
    · have : decide (((s.size : Nat) : Int) < 3) = true := by rw [hl] at hlen; simp at hlen ⊢; omega
      rw [this]; rfl
    · have : decide (((s.size : Nat) : Int) < 3) = true := by rw [hl] at hlen; simp at hlen ⊢; omega
      rw [this]; rfl
    · have : decide (((s.size : Nat) : Int) < 3) = false := by rw [hl] at hlen; simp at hlen ⊢; omega
      rw [this]
      have at1 : atS s 1 = some a := by have := atS_bs s 1; rw [hl] at this; exact this
      have at2 : atS s 2 = some b := by have := atS_bs s 2; rw [hl] at this; exact this
      have ha : 0 ≤ a ∧ a < 256 := bs_byte (by rw [hl]; simp)
      have hb : 0 ≤ b ∧ b < 256 := bs_byte (by rw [hl]; simp)
      simp only [cond_false, at1, at2, Option.bind_some, idx_hex ha.1 ha.2, idx_hex hb.1 hb.2]
      by_cases hn : hexv a < 0 ∨ hexv b < 0
      · have : (decide (hexv a < 0) || decide (hexv b < 0)) = true := by simpa using hn
        rw [this, if_pos hn]; rfl
      · have : (decide (hexv a < 0) || decide (hexv b < 0)) = false := by simp; omega
        rw [this, if_neg hn]
        have l1 := hexv_lt a
        have l2 := hexv_lt b
        have g1 : IntKind.wrap .i64 (16 * hexv a) = 16 * hexv a := w64 (by omega) (by omega)
        have g2 : IntKind.wrap .i64 (16 * hexv a + hexv b) = 16 * hexv a + hexv b := w64 (by omega) (by omega)
        have g3 : IntKind.wrap .u8 (16 * hexv a + hexv b) = 16 * hexv a + hexv b := wrap_u8 (by omega) (by omega)
        simp only [cond_false, g1, g2, g3]
  · rw [if_neg e6]
    have : (d != 120) = true := by simpa using e6
    rw [this]; rfl

def QuotR (s : ByteArray) (v : LR Unit (ByteArray × Int)) : Option (List Int × List Int) → Prop
  | some (t, r) => v = .ret (ofB t, ((s.size - r.length : Nat) : Int))
  | none => v = .out () ∨ v = .ret (nilB, 0)
theorem quoted_loop (N : Nat) (s : ByteArray) (hs : s.size ≤ 6000000) : ∀ (k y m : Nat) (acc : List Int), s.size - y ≤ k → k < m → acc.length ≤ y → y ≤ s.size →
    ∃ v, gasmtext_quoted_L1 N s m acc (y : Int) = some v ∧ QuotR s v (textS ((bs s).drop y) acc) := by
  intro k
  induction k using Nat.strongRecOn with
  | ind k ih =>
  intro y m acc hk hm hacc hy
  obtain ⟨m, rfl⟩ : ∃ m', m = m' + 1 := ⟨m - 1, by omega⟩
  have hlen := bs_length s
  rw [gasmtext_quoted_L1]
  rcases hl : (bs s).drop y with _ | ⟨c, r⟩
  · have := drop_nil_le hl
    have h1 : decide ((y : Int) < (s.size : Nat)) = false := by simp; omega
    exact ⟨.out (), by rw [h1]; rfl, .inl rfl⟩
  obtain ⟨hc, hr, hlt⟩ := drop_cons_at hl
  have h1 : decide ((y : Int) < (s.size : Nat)) = true := by simp; omega
  have hrl : r.length = s.size - (y + 1) := by rw [← hr]; simp [hlen]
  rw [h1, atS_bs, hc]
  simp only [cond_true, Option.bind_some]
  have app : ∀ z : Int, appL 1 acc [z] = some (acc ++ [z]) := fun z => appL_ok (by simp; omega) (by omega)
  have next : ∀ (w : Nat) (z : Int), y < w → w ≤ s.size → ∃ v, gasmtext_quoted_L1 N s m (acc ++ [z]) (w : Int) = some v ∧ QuotR s v (textS ((bs s).drop w) (acc ++ [z])) :=
    fun w z h2 h3 => ih (s.size - w) (by omega) w m (acc ++ [z]) (Nat.le_refl _) (by omega) (by simp; omega) h3
  unfold textS
  by_cases e34 : c = 34
  · have : (c == 34) = true := by simp [e34]
    rw [this, if_pos e34]
    refine ⟨_, rfl, ?_⟩
    simp only [QuotR]
    rw [w64_succ (by omega), hrl]
    congr 3; omega
  have : (c == 34) = false := by simp [e34]
  rw [this, if_neg e34]
  simp only [cond_false]
  by_cases e92 : c = 92
  · subst e92
    rw [if_neg (by omega), if_neg (by simp)]
    simp only [beq_self_eq_true, cond_true]
    rw [w64_succ (by omega), subS_nat _ _ _ (by omega) (by omega)]
    simp only [Option.bind_some, escaped_eq]
    have hsx : bs (s.extract (y + 1) s.size) = r := by
      rw [bs_extract, hr, List.take_of_length_le (by omega)]
    rw [hsx]
    have fin : ∀ (x : Int) (j : Nat), 0 < j → j ≤ r.length → escS r = (x, (j : Int)) → ∃ v, ((Option.bind (cond ((j : Int) == 0) (some (LR.ret (ByteArray.mk #[], 0))) ((appL 1 acc [x]).bind fun l222 => some (.out (l222, IntKind.wrap .i64 ((y : Int) + (j : Int)))))) fun v => match v with
        | .out (x204, x207) => gasmtext_quoted_L1 N s m x204 (IntKind.wrap .i64 (x207 + 1))
        | .ret r246 => some (.ret r246)) = some v) ∧ QuotR s v (textS ((bs s).drop (y + 1 + j)) (acc ++ [x])) := by
      intro x j hj0 hj hx
      have : ((j : Int) == 0) = false := by simp; omega
      rw [this]
      simp only [cond_false, app, Option.bind_some]
      have e1 : IntKind.wrap .i64 ((y : Int) + (j : Int)) = ((y + j : Nat) : Int) := by rw [w64] <;> omega
      rw [e1, w64_succ (by omega)]
      have := next (y + j + 1) x (by omega) (by omega)
      rw [show y + 1 + j = y + j + 1 by omega]
      exact this
    have bad : escS r = (0, 0) → ∃ v, ((Option.bind (cond ((escS r).2 == 0) (some (LR.ret (ByteArray.mk #[], 0))) ((appL 1 acc [(escS r).1]).bind fun l222 => some (.out (l222, IntKind.wrap .i64 ((y : Int) + (escS r).2))))) fun v => match v with
        | .out (x204, x207) => gasmtext_quoted_L1 N s m x204 (IntKind.wrap .i64 (x207 + 1))
        | .ret r246 => some (.ret r246)) = some v) ∧ QuotR s v none := by
      intro hx
      rw [hx]
      exact ⟨_, rfl, .inr rfl⟩
    have good : ∀ (x : Int) (j : Nat), 0 < j → j ≤ r.length → escS r = (x, (j : Int)) → ∃ v, ((Option.bind (cond ((escS r).2 == 0) (some (LR.ret (ByteArray.mk #[], 0))) ((appL 1 acc [(escS r).1]).bind fun l222 => some (.out (l222, IntKind.wrap .i64 ((y : Int) + (escS r).2))))) fun v => match v with
        | .out (x204, x207) => gasmtext_quoted_L1 N s m x204 (IntKind.wrap .i64 (x207 + 1))
        | .ret r246 => some (.ret r246)) = some v) ∧ QuotR s v (textS (r.drop j) (acc ++ [x])) := by
      intro x j h0 hj hx
      have := fin x j h0 hj hx
      rw [hx, ← hr, List.drop_drop]
      exact this
    rcases hr2 : r with _ | ⟨d, r2⟩
    · subst hr2; exact bad rfl
    subst hr2
    simp only
    by_cases e110 : d = 110
    · rw [if_pos e110]; exact good 10 1 (by omega) (by simp) (by simp [escS, e110])
    rw [if_neg e110]
    by_cases e116 : d = 116
    · rw [if_pos e116]; exact good 9 1 (by omega) (by simp) (by simp [escS, e116])
    rw [if_neg e116]
    by_cases e48 : d = 48
    · rw [if_pos e48]; exact good 0 1 (by omega) (by simp) (by simp [escS, e48])
    rw [if_neg e48]
    by_cases eq : d = 92 ∨ d = 34
    · rw [if_pos eq]; exact good d 1 (by omega) (by simp) (by simp [escS, e110, e116, e48, eq])
    rw [if_neg eq]
    by_cases e120 : d = 120
    · rw [if_pos e120]
      rcases r2 with _ | ⟨a, _ | ⟨b, r3⟩⟩
      · exact bad (by subst e120; rfl)
      · exact bad (by subst e120; rfl)
      · simp only
        by_cases hn : hexv a < 0 ∨ hexv b < 0
        · rw [if_pos hn]; exact bad (by subst e120; simp [escS, hn])
        · rw [if_neg hn]; exact good (16 * hexv a + hexv b) 3 (by omega) (by simp) (by subst e120; simp [escS, hn])
    · rw [if_neg e120]; exact bad (by simp [escS, e110, e116, e48, eq, e120])
  have : (c == 92) = false := by simp [e92]
  rw [this]
  simp only [cond_false]
  by_cases eb : c < 32 ∨ c > 126
  · have : (decide (c < 32) || decide (c > 126)) = true := by simpa using eb
    rw [this, if_pos eb]
    exact ⟨_, rfl, .inr rfl⟩
  have : (decide (c < 32) || decide (c > 126)) = false := by simp; omega
  rw [this, if_neg eb, if_pos e92]
  simp only [cond_false, app, Option.bind_some]
  rw [w64_succ (by omega)]
  have := next (y + 1) c (by omega) (by omega)
  rw [hr] at this
  exact this
end Go.DM
namespace Go.DM
open Go

def blank (c : Int) : Bool := c == 32 || c == 9
theorem dropWhile_map {α β : Type} (f : α → β) (p : β → Bool) : ∀ (l : List α), (l.map f).dropWhile p = (l.dropWhile fun a => p (f a)).map f
  | [] => rfl
  | a :: l => by
    simp only [List.map_cons, List.dropWhile_cons]
    cases p (f a)
    · rfl
    · simp only [if_true]; exact dropWhile_map f p l
theorem trim_eq (s : ByteArray) : ∃ t, trimLeftT s (ByteArray.mk #[32, 9]) = some t ∧ bs t = (bs s).dropWhile blank := by
  refine ⟨_, if_pos ⟨by decide, by decide⟩, ?_⟩
  have hf : (fun x : UInt8 => (ByteArray.mk #[32, 9]).data.toList.contains x) = fun b => blank ((b.toNat : Nat) : Int) := by
    funext b
    have h : ∀ n : Fin 256, (ByteArray.mk #[32, 9]).data.toList.contains (UInt8.ofNat n.val) = blank (((UInt8.ofNat n.val).toNat : Nat) : Int) := by decide +kernel
    have := h ⟨b.toNat, b.toNat_lt⟩
    rw [show UInt8.ofNat (⟨b.toNat, b.toNat_lt⟩ : Fin 256).val = b from by simp] at this
    exact this
  show List.map (fun b : UInt8 => (b.toNat : Int)) (List.dropWhile (fun x => (ByteArray.mk #[32, 9]).data.toList.contains x) s.data.toList) = List.dropWhile blank (s.data.toList.map fun b => (b.toNat : Int))
  rw [hf, dropWhile_map]
theorem toksS_blank : ∀ (l : List Int) (acc : List TTok), toksS l acc = toksS (l.dropWhile blank) acc
  | [], acc => rfl
  | c :: l, acc => by
    rw [List.dropWhile_cons]
    cases hb : blank c
    · rfl
    · simp only [if_true]
      rw [← toksS_blank l acc]
      conv => lhs; rw [toksS.eq_def]
      have : c = 32 ∨ c = 9 := by simpa [blank] using hb
      simp only
      rw [if_neg (by omega), if_pos this]
theorem dropWhile_head : ∀ {l : List Int} {c : Int} {r : List Int}, l.dropWhile blank = c :: r → blank c = false
  | [], _, _, h => by simp at h
  | a :: l, c, r, h => by
    rw [List.dropWhile_cons] at h
    cases hb : blank a
    · rw [hb] at h; cases h; exact hb
    · rw [hb] at h; exact dropWhile_head h
theorem dropWhile_le (p : Int → Bool) (l : List Int) : (l.dropWhile p).length ≤ l.length := by have := takeDrop_len p l; omega

/-- what the program's 'one' gives at a text that begins with c -/
theorem one_eq (n : Nat) (s : ByteArray) (hs : s.size ≤ 6000000) (hn : s.size < n) {c : Int} {r : List Int} (hl : bs s = c :: r) :
    gasmtext_one n s = some (if c = 34 then (match textS r [] with | some (t, r') => ((TTok.mk 3 (ofB t), ((s.size - r'.length : Nat) : Int)) : TTok × Int) | none => (TTok.mk 3 nilB, 0))
      else if signB c = true then (TTok.mk 2 (ofB [c]), 1) else (TTok.mk 1 (ofB ((c :: r).takeWhile inW)), ((((c :: r).takeWhile inW).length : Nat) : Int))) := by
  have hlen := bs_length s
  rw [hl] at hlen
  simp only [List.length_cons] at hlen
  have at0 : atS s 0 = some c := by have := atS_bs s 0; rw [hl] at this; exact this
  have hc : 0 ≤ c ∧ c < 256 := bs_byte (by rw [hl]; simp)
  unfold gasmtext_one
  simp only [at0, Option.bind_some]
  by_cases e34 : c = 34
  · have : (c == 34) = true := by simp [e34]
    rw [this, if_pos e34]
    simp only [cond_true]
    obtain ⟨v, h1, h2⟩ := quoted_loop n s hs (s.size - 1) 1 n [] (Nat.le_refl _) (by omega) (by simp) (by omega)
    have hd : (bs s).drop 1 = r := by rw [hl]; rfl
    rw [hd] at h2
    unfold gasmtext_quoted
    rw [show ((1 : Nat) : Int) = 1 from rfl] at h1
    rw [h1]
    cases ht : textS r [] with
    | none => rw [ht] at h2; rcases h2 with rfl | rfl <;> rfl
    | some p => obtain ⟨t, r'⟩ := p; rw [ht] at h2; simp only [QuotR] at h2; subst h2; rfl
  have : (c == 34) = false := by simp [e34]
  rw [this, if_neg e34]
  obtain ⟨i, hi1, hi2⟩ := idx_sign hc.1 hc.2
  simp only [cond_false, hi1, Option.bind_some, hi2]
  cases hsg : signB c
  · simp only [cond_false, Bool.false_eq_true, if_false]
    have := run_loop' n s hs s.size 0 n (by omega) hn (by omega)
    rw [show ((0 : Nat) : Int) = 0 from rfl] at this
    rw [this, List.drop_zero, hl, Nat.zero_add]
    have hle : ((c :: r).takeWhile inW).length ≤ s.size := by have := takeDrop_len inW (c :: r); simp at this; omega
    simp only [Option.bind_some]
    have := subS_nat s 0 ((c :: r).takeWhile inW).length (by omega) hle
    rw [show ((0 : Nat) : Int) = 0 from rfl] at this
    rw [this]
    simp only [Option.bind_some]
    rw [extract_ofB, List.drop_zero, hl, Nat.sub_zero, take_tw]
  · simp only [cond_true, if_true]
    have := subS_nat s 0 1 (by omega) (by omega)
    rw [show ((0 : Nat) : Int) = 0 from rfl, show ((1 : Nat) : Int) = 1 from rfl] at this
    rw [this]
    simp only [Option.bind_some]
    rw [extract_ofB, List.drop_zero, hl]
    rfl

theorem words_loop (N : Nat) : ∀ (k : Nat) (s : ByteArray) (m : Nat) (acc : List TTok), s.size ≤ k → k < m → s.size + acc.length ≤ 6000000 → s.size < N →
    gasmtext_Words_L1 N m s acc = some (errT (toksS (bs s) acc)) := by
  intro k
  induction k using Nat.strongRecOn with
  | ind k ih =>
  intro s m acc hk hm hacc hN
  obtain ⟨m, rfl⟩ : ∃ m', m = m' + 1 := ⟨m - 1, by omega⟩
  rw [gasmtext_Words_L1, toksS_blank]
  obtain ⟨t, ht1, ht2⟩ := trim_eq s
  rw [ht1, ← ht2]
  simp only [Option.bind_some]
  have htl := bs_length t
  have hsl := bs_length s
  have hle := dropWhile_le blank (bs s)
  rw [← ht2, htl, hsl] at hle
  rcases hl : bs t with _ | ⟨c, r⟩
  · have : decide (t = ByteArray.mk #[]) = true := by simp [← bs_nil, hl]
    rw [this, toksS.eq_def]; rfl
  have hne : decide (t = ByteArray.mk #[]) = false := by
    rw [decide_eq_false_iff_not]; intro e; rw [← bs_nil, hl] at e; cases e
  have at0 : atS t 0 = some c := by have := atS_bs t 0; rw [hl] at this; exact this
  have hb : blank c = false := dropWhile_head (by rw [← ht2]; exact hl)
  have hb' : ¬ (c = 32 ∨ c = 9) := by simpa [blank] using hb
  rw [hl] at htl
  simp only [List.length_cons] at htl
  rw [hne, toksS.eq_def]
  simp only [cond_false, at0, Option.bind_some]
  by_cases e35 : c = 35
  · subst e35; rfl
  have : (c == 35) = false := by simp [e35]
  rw [this, if_neg e35, if_neg hb']
  simp only [cond_false]
  rw [one_eq N t (by omega) (by omega) hl]
  have app : ∀ x : TTok, appL 24 acc [x] = some (acc ++ [x]) := fun x => appL_ok (by simp; omega) (by omega)
  have next : ∀ (x : TTok) (j : Nat), 0 < j → j ≤ t.size → ((appL 24 acc [x]).bind fun l112 => ((subS t (j : Int) ((t.size : Nat) : Int)).bind fun s117 => gasmtext_Words_L1 N m s117 l112)) = some (errT (toksS ((c :: r).drop j) (acc ++ [x]))) := by
    intro x j h0 hj
    rw [app, subS_nat _ _ _ hj (Nat.le_refl _)]
    simp only [Option.bind_some]
    have hbx : bs (t.extract j t.size) = (c :: r).drop j := by
      rw [bs_extract, hl, List.take_of_length_le (by simp; omega)]
    have hsz : (t.extract j t.size).size = t.size - j := by rw [← bs_length, hbx]; simp; omega
    rw [ih (t.size - j) (by omega) _ m _ (by omega) (by omega) (by rw [hsz]; simp; omega) (by omega), hbx]
  simp only [Option.bind_some]
  by_cases e34 : c = 34
  · rw [if_pos e34, if_pos e34]
    cases htx : textS r [] with
    | none => simp only; rfl
    | some p =>
      obtain ⟨tx, r'⟩ := p
      have hlt' := textS_len _ _ _ _ htx
      have hsf := List.suffix_iff_eq_drop.1 ((textS_suf _ _ _ _ htx).trans (List.suffix_cons c r))
      simp only
      have : (((t.size - r'.length : Nat) : Int) == 0) = false := by simp; omega
      rw [this]
      simp only [cond_false]
      rw [next _ (t.size - r'.length) (by omega) (by omega)]
      have : (c :: r).drop (t.size - r'.length) = r' := by
        rw [List.length_cons, htl] at hsf; exact hsf.symm
      rw [this]
  rw [if_neg e34, if_neg e34]
  cases hsg : signB c
  · simp only [Bool.false_eq_true, if_false]
    cases hw : inW c
    · simp only [List.takeWhile_cons, hw, Bool.false_eq_true, if_false, List.length_nil]
      rfl
    · have htw : (c :: r).takeWhile inW = c :: r.takeWhile inW := by simp [hw]
      have htd := takeDrop_len inW r
      rw [htw]
      simp only [if_true]
      have : ((((c :: r.takeWhile inW).length : Nat) : Int) == 0) = false := by simp; omega
      rw [this]
      simp only [cond_false]
      rw [next _ (c :: r.takeWhile inW).length (by simp) (by simp; omega)]
      rw [List.length_cons, List.drop_succ_cons, drop_tw]
  · simp only [if_true]
    have := next ⟨2, ofB [c]⟩ 1 (by omega) (by omega)
    rw [show ((1 : Nat) : Int) = 1 from rfl] at this
    simp only [show ((1 : Int) == 0) = false from rfl, cond_false]
    rw [this]; rfl

/-! whole lines -/
def wordsS (l : List Int) : List TTok × Int := if l.contains 10 = true then ([], 131) else match toksS l [] with
  | .ret _ => ([], 131)
  | .out x => if x.length > 64 then ([], 133) else (x, 0)
theorem nl_loop (N : Nat) (s : ByteArray) (hs : s.size ≤ 6000000) : ∀ (k y m : Nat), s.size - y ≤ k → k < m → y ≤ s.size → gdovetailref13_Words_L1 N s m (y : Int) = some (if ((bs s).drop y).contains 10 = true then .ret ([], 131) else .out ()) := by
  intro k
  induction k with
  | zero =>
    intro y m hk hm hy
    obtain ⟨m, rfl⟩ : ∃ m', m = m' + 1 := ⟨m - 1, by omega⟩
    have hlen := bs_length s
    rw [gdovetailref13_Words_L1]
    have h1 : decide ((y : Int) < (s.size : Nat)) = false := by simp; omega
    rw [h1, List.drop_eq_nil_of_le (by omega)]
    rfl
  | succ k ih =>
    intro y m hk hm hy
    obtain ⟨m, rfl⟩ : ∃ m', m = m' + 1 := ⟨m - 1, by omega⟩
    have hlen := bs_length s
    rw [gdovetailref13_Words_L1]
    rcases hl : (bs s).drop y with _ | ⟨c, r⟩
    · have := drop_nil_le hl
      have h1 : decide ((y : Int) < (s.size : Nat)) = false := by simp; omega
      rw [h1]; rfl
    · obtain ⟨hc, hr, hlt⟩ := drop_cons_at hl
      have h1 : decide ((y : Int) < (s.size : Nat)) = true := by simp; omega
      rw [h1, atS_bs, hc, List.contains_cons]
      simp only [cond_true, Option.bind_some]
      by_cases e : c = 10
      · subst e; rfl
      · have h2 : (c == 10) = false := by simp [e]
        have h3 : ((10 : Int) == c) = false := by simp; omega
        rw [h2, h3]
        simp only [cond_false, Bool.false_or]
        rw [w64_succ (by omega), ih (y + 1) m (by omega) (by omega) (by omega), hr]
theorem refWords_eq (n : Nat) (s : ByteArray) (hs : s.size ≤ 6000000) (hn : s.size + 10 < n) : gdovetailref13_Words n s = some (wordsS (bs s)) := by
  unfold gdovetailref13_Words wordsS
  have h1 := nl_loop n s hs s.size 0 n (by omega) (by omega) (by omega)
  have h2 := refW_loop n s hs (by omega) (by omega) s.size 0 n [] (by omega) (by omega) (by simp) (by omega)
  rw [show ((0 : Nat) : Int) = 0 from rfl] at h1 h2
  rw [h1, List.drop_zero]
  cases (bs s).contains 10
  · simp only [Bool.false_eq_true, if_false, Option.bind_some]
    rw [h2, List.drop_zero]
    cases toksS (bs s) [] with
    | ret _ => rfl
    | out x =>
      simp only [errT, Option.bind_some]
      by_cases h : x.length > 64
      · have : decide (((x.length : Nat) : Int) > 64) = true := by simp; omega
        rw [this, if_pos h]; rfl
      · have : decide (((x.length : Nat) : Int) > 64) = false := by simp; omega
        rw [this, if_neg h]; rfl
  · rfl
theorem indexByte_contains (c : UInt8) : ∀ (l : List UInt8), decide (0 ≤ Lib.indexByte l c) = l.contains c
  | [] => rfl
  | b :: l => by
    have ih := indexByte_contains c l
    unfold Lib.indexByte
    rw [List.contains_cons]
    have hsym : (c == b) = (b == c) := by
      by_cases h : c = b
      · subst h; rfl
      · have h1 : (c == b) = false := beq_eq_false_iff_ne.2 h
        have h2 : (b == c) = false := beq_eq_false_iff_ne.2 (fun e => h e.symm)
        rw [h1, h2]
    rw [hsym]
    cases b == c
    · simp only [Bool.false_eq_true, if_false, Bool.false_or, ← ih]
      have := Lib.indexByte_ge l c
      split
      · rename_i h; simp at h; rw [h]
      · rename_i h; simp at h; congr 1; apply propext; constructor <;> intro <;> omega
    · rfl
theorem contains_eq (s : ByteArray) : containsT s (ByteArray.mk #[10]) = some ((bs s).contains 10) := by
  show some (decide (0 ≤ Lib.indexByte s.data.toList 10)) = _
  rw [indexByte_contains]
  congr 1
  show _ = (s.data.toList.map (fun b => (b.toNat : Int))).contains 10
  generalize s.data.toList = l
  induction l with
  | nil => rfl
  | cons b l ih =>
    rw [List.map_cons, List.contains_cons, List.contains_cons, ih]
    congr 1
    have h : ∀ n : Fin 256, ((10 : UInt8) == UInt8.ofNat n.val) = ((10 : Int) == (((UInt8.ofNat n.val).toNat : Nat) : Int)) := by decide +kernel
    have := h ⟨b.toNat, b.toNat_lt⟩
    simpa using this
theorem words_eq (n : Nat) (s : ByteArray) (hs : s.size ≤ 6000000) (hn : s.size < n) : gasmtext_Words n s = some (wordsS (bs s)) := by
  unfold gasmtext_Words wordsS
  rw [contains_eq]
  simp only [Option.bind_some]
  cases (bs s).contains 10
  · simp only [Bool.false_eq_true, if_false, cond_false]
    rw [words_loop n s.size s n [] (Nat.le_refl _) hn (by simpa using hs) hn]
    cases toksS (bs s) [] with
    | ret _ => rfl
    | out x =>
      simp only [errT, Option.bind_some]
      by_cases h : x.length > 64
      · have : decide (((x.length : Nat) : Int) > 64) = true := by simp; omega
        rw [this, if_pos h]; rfl
      · have : decide (((x.length : Nat) : Int) > 64) = false := by simp; omega
        rw [this, if_neg h]; rfl
  · rfl
end Go.DM
namespace Go.DM
open Go

theorem tw_all (p : Int → Bool) : ∀ (l : List Int) (c : Int), c ∈ l.takeWhile p → p c = true
  | [], c, h => by simp at h
  | d :: l, c, h => by
    rw [List.takeWhile_cons] at h
    cases hd : p d
    · rw [hd] at h; simp at h
    · rw [hd] at h
      simp only [if_true] at h
      rcases List.mem_cons.1 h with rfl | h
      · exact hd
      · exact tw_all p l c h
/-- a token such as the words give -/
def TokOk (B : Nat) (t : TTok) : Prop := t.f_Kind = 1 → bs t.f_Text ≠ [] ∧ (∀ c ∈ bs t.f_Text, inW c = true) ∧ (bs t.f_Text).length ≤ B
theorem toksS_ok (B : Nat) : ∀ (k : Nat) (l : List Int) (acc x : List TTok), l.length ≤ k → l.length ≤ B → (∀ c ∈ l, 0 ≤ c ∧ c < 256) → (∀ t ∈ acc, TokOk B t) → toksS l acc = .out x → ∀ t ∈ x, TokOk B t := by
  intro k
  induction k using Nat.strongRecOn with
  | ind k ih =>
  intro l acc x hk hB hb hacc h
  rw [toksS.eq_def] at h
  rcases l with _ | ⟨c, r⟩
  · cases h; exact hacc
  simp only [List.length_cons] at hk hB
  have hbr : ∀ c ∈ r, 0 ≤ c ∧ c < 256 := fun c hc => hb c (List.mem_cons_of_mem _ hc)
  simp only at h
  split at h
  · cases h; exact hacc
  split at h
  · exact ih r.length (by omega) r acc x (Nat.le_refl _) (by omega) hbr hacc h
  split at h
  · split at h
    · rename_i t r' ht
      have h1 := textS_len _ _ _ _ ht
      have h2 := (textS_suf _ _ _ _ ht).subset
      refine ih r'.length (by omega) r' _ x (Nat.le_refl _) (by omega) (fun c hc => hbr c (h2 hc)) (fun t ht => ?_) h
      rcases List.mem_append.1 ht with ht | ht
      · exact hacc t ht
      · rw [List.mem_singleton] at ht; subst ht; intro e; simp at e
    · cases h
  split at h
  · refine ih r.length (by omega) r _ x (Nat.le_refl _) (by omega) hbr (fun t ht => ?_) h
    rcases List.mem_append.1 ht with ht | ht
    · exact hacc t ht
    · rw [List.mem_singleton] at ht; subst ht; intro e; simp at e
  split at h
  · rename_i hw
    have h1 := takeDrop_len inW r
    have h2 : ∀ c ∈ r.dropWhile inW, c ∈ r := fun c hc => (List.dropWhile_suffix inW).subset hc
    have h3 : ∀ c ∈ r.takeWhile inW, c ∈ r := fun c hc => (List.takeWhile_prefix inW).subset hc
    refine ih (r.dropWhile inW).length (by omega) _ _ x (Nat.le_refl _) (by omega) (fun c hc => hbr c (h2 c hc)) (fun t ht => ?_) h
    rcases List.mem_append.1 ht with ht | ht
    · exact hacc t ht
    · rw [List.mem_singleton] at ht
      subst ht
      intro _
      have hbs : bs (ofB (c :: r.takeWhile inW)) = c :: r.takeWhile inW := bs_ofB (fun d hd => by
        rcases List.mem_cons.1 hd with rfl | hd
        · exact hb _ (List.mem_cons_self ..)
        · exact hbr d (h3 d hd))
      simp only [hbs]
      refine ⟨by simp, fun d hd => ?_, by simp; omega⟩
      rcases List.mem_cons.1 hd with rfl | hd
      · exact hw
      · exact tw_all _ _ _ hd
  · cases h
theorem toksS_len : ∀ (k : Nat) (l : List Int) (acc x : List TTok), l.length ≤ k → toksS l acc = .out x → x.length ≤ acc.length + l.length := by
  intro k
  induction k using Nat.strongRecOn with
  | ind k ih =>
  intro l acc x hk h
  rw [toksS.eq_def] at h
  rcases l with _ | ⟨c, r⟩
  · cases h; simp
  simp only [List.length_cons] at hk
  simp only at h
  split at h
  · cases h; simp
  split at h
  · have := ih r.length (by omega) r acc x (Nat.le_refl _) h; simp; omega
  split at h
  · split at h
    · rename_i t r' ht
      have h1 := textS_len _ _ _ _ ht
      have := ih r'.length (by omega) r' _ x (Nat.le_refl _) h; simp at this ⊢; omega
    · cases h
  split at h
  · have := ih r.length (by omega) r _ x (Nat.le_refl _) h; simp at this ⊢; omega
  split at h
  · have h1 := takeDrop_len inW r
    have := ih (r.dropWhile inW).length (by omega) _ _ x (Nat.le_refl _) h; simp at this ⊢; omega
  · cases h

/-! names -/
def digB (c : Int) : Bool := decide (c ≥ 48) && decide (c ≤ 57)
theorem letter_of (n : Nat) {c : Int} (h : inW c = true) : gdovetailref12_Letter n c = some (!digB c) := by
  unfold gdovetailref12_Letter digB
  congr 1
  unfold inW at h
  by_cases hd : 48 ≤ c ∧ c ≤ 57
  · have h1 : decide (c ≥ 48) = true := by simp; omega
    have h2 : decide (c ≤ 57) = true := by simp; omega
    have h3 : decide (c ≥ 65) = false := by simp; omega
    have h4 : decide (c ≥ 97) = false := by simp; omega
    have h5 : (c == 95) = false := by simp; omega
    have h6 : (c == 46) = false := by simp; omega
    have h7 : (c == 36) = false := by simp; omega
    simp only [h1, h2, h3, h4, h5, h6, h7]; rfl
  · have h1 : (decide (c ≥ 48) && decide (c ≤ 57)) = false := by simp; omega
    rw [h1] at h ⊢
    simpa using h
theorem name_loop (N : Nat) (s : ByteArray) (hs : s.size ≤ 1048576) (hw : ∀ c ∈ bs s, inW c = true) : ∀ (k y m : Nat), s.size - y ≤ k → k < m → y ≤ s.size → gdovetailref12_Name_L1 N s m (y : Int) = some (.out ()) := by
  intro k
  induction k with
  | zero =>
    intro y m hk hm hy
    obtain ⟨m, rfl⟩ : ∃ m', m = m' + 1 := ⟨m - 1, by omega⟩
    rw [gdovetailref12_Name_L1]
    have h1 : decide ((y : Int) < (s.size : Nat)) = false := by simp; omega
    rw [h1]; rfl
  | succ k ih =>
    intro y m hk hm hy
    obtain ⟨m, rfl⟩ : ∃ m', m = m' + 1 := ⟨m - 1, by omega⟩
    have hlen := bs_length s
    rw [gdovetailref12_Name_L1]
    rcases hl : (bs s).drop y with _ | ⟨c, r⟩
    · have := drop_nil_le hl
      have h1 : decide ((y : Int) < (s.size : Nat)) = false := by simp; omega
      rw [h1]; rfl
    · obtain ⟨hc, hr, hlt⟩ := drop_cons_at hl
      have h1 : decide ((y : Int) < (s.size : Nat)) = true := by simp; omega
      have hwc := hw c (List.mem_of_getElem? hc)
      rw [h1, atS_bs, hc]
      simp only [cond_true, Option.bind_some, letter_of N hwc]
      have : gdovetailref12_Digit N c = some (digB c) := rfl
      simp only [this, Option.bind_some]
      rw [w64_succ (by omega), ih (y + 1) m (by omega) (by omega) (by omega)]
      cases digB c <;> rfl
theorem name_eq (n : Nat) {s : ByteArray} (hs : s.size ≤ 1048576) (hn : s.size < n) (hw : ∀ c ∈ bs s, inW c = true) {c : Int} {r : List Int} (hl : bs s = c :: r) : gdovetailref12_Name n s = some (!digB c) := by
  unfold gdovetailref12_Name
  have hne : decide (s = ByteArray.mk #[]) = false := by
    rw [decide_eq_false_iff_not]; intro e; rw [← bs_nil, hl] at e; cases e
  have at0 : atS s 0 = some c := by have := atS_bs s 0; rw [hl] at this; exact this
  have hsz : 1 ≤ s.size := by rw [← bs_length, hl]; simp
  rw [hne]
  simp only [cond_false, at0, Option.bind_some, letter_of n (hw c (by rw [hl]; simp))]
  have := name_loop n s hs hw s.size 1 n (by omega) hn hsz
  rw [show ((1 : Nat) : Int) = 1 from rfl] at this
  rw [this]
  cases digB c <;> rfl
/-- do the tokens begin with a label? -/
def labS : List TTok → Bool
  | a :: b :: _ => a.f_Kind == 1 && (!digB ((bs a.f_Text).headD 0)) && (b.f_Kind == 2 && decide (b.f_Text = ByteArray.mk #[58]))
  | _ => false
theorem isName_eq (n B : Nat) {t : TTok} (h : TokOk B t) : gasmtext_isName n t = some (t.f_Kind == 1 && !digB ((bs t.f_Text).headD 0)) := by
  unfold gasmtext_isName
  by_cases e : t.f_Kind = 1
  · have : (t.f_Kind == 1) = true := by simpa using e
    rw [this]
    obtain ⟨h1, h2, h3⟩ := h e
    rcases hl : bs t.f_Text with _ | ⟨c, r⟩
    · exact absurd hl h1
    have at0 : atS t.f_Text 0 = some c := by have := atS_bs t.f_Text 0; rw [hl] at this; exact this
    have hh : (c :: r).headD 0 = c := rfl
    rw [hh]
    simp only [cond_true, at0, Option.bind_some, Bool.true_and]
    unfold digB
    by_cases h4 : c < 48
    · have a1 : decide (c < 48) = true := by simpa using h4
      have a2 : decide (c ≥ 48) = false := by simp; omega
      rw [a1, a2]; rfl
    · have a1 : decide (c < 48) = false := by simpa using h4
      have a2 : decide (c ≥ 48) = true := by simp; omega
      rw [a1, a2]
      simp only [cond_false, Option.bind_some, Bool.true_and]
      congr 1
      by_cases h5 : c ≤ 57
      · have b1 : decide (c > 57) = false := by simp; omega
        have b2 : decide (c ≤ 57) = true := by simpa using h5
        rw [b1, b2]; rfl
      · have b1 : decide (c > 57) = true := by simp; omega
        have b2 : decide (c ≤ 57) = false := by simpa using h5
        rw [b1, b2]; rfl
  · have : (t.f_Kind == 1) = false := by simpa using e
    rw [this]; rfl
theorem labelled_eq (n B : Nat) (l : List TTok) (h : ∀ t ∈ l, TokOk B t) : gasmtext_labelled n l = some (labS l) := by
  unfold gasmtext_labelled
  rcases l with _ | ⟨a, _ | ⟨b, l⟩⟩
  · rfl
  · rfl
  · have : decide ((((a :: b :: l).length : Nat) : Int) > 1) = true := by simp; omega
    rw [this]
    have at0 : atL (a :: b :: l) 0 = some a := rfl
    have at1 : atL (a :: b :: l) 1 = some b := rfl
    simp only [cond_true, at0, at1, Option.bind_some, isName_eq n B (h a (by simp)), labS]
    cases (a.f_Kind == 1 && !digB ((bs a.f_Text).headD 0))
    · rfl
    · simp
theorem refLabelled_eq (n B : Nat) (hB : B ≤ 1048576) (hn : B < n) (l : List TTok) (h : ∀ t ∈ l, TokOk B t) : gdovetailref13_Labelled n l = some (labS l) := by
  unfold gdovetailref13_Labelled
  rcases l with _ | ⟨a, _ | ⟨b, l⟩⟩
  · rfl
  · rfl
  · have : decide ((((a :: b :: l).length : Nat) : Int) ≥ 2) = true := by simp; omega
    rw [this]
    have at0 : atL (a :: b :: l) 0 = some a := rfl
    have at1 : atL (a :: b :: l) 1 = some b := rfl
    simp only [cond_true, at0, at1, Option.bind_some, labS]
    by_cases e : a.f_Kind = 1
    · have h0 : (a.f_Kind == 1) = true := by simpa using e
      obtain ⟨h1, h2, h3⟩ := h a (by simp) e
      rcases hl : bs a.f_Text with _ | ⟨c, r⟩
      · exact absurd hl h1
      rw [bs_length] at h3
      rw [h0, name_eq n (by omega) (by omega) h2 hl]
      simp only [cond_true, Option.bind_some, List.headD_cons, Bool.true_and]
      cases digB c <;> cases (b.f_Kind == 2) <;> rfl
    · have h0 : (a.f_Kind == 1) = false := by simpa using e
      rw [h0]; rfl
/-- the labels taken off -/
def labsS (l : List TTok) (acc : List ByteArray) : List TTok × List ByteArray :=
  match l with
  | a :: b :: r => if labS (a :: b :: r) = true then labsS r (acc ++ [a.f_Text]) else (a :: b :: r, acc)
  | l => (l, acc)
termination_by l.length
theorem labs_loops (n B : Nat) (hB : B ≤ 1048576) (hn : B < n) : ∀ (k : Nat) (l : List TTok) (acc : List ByteArray) (m : Nat), l.length ≤ k → k < m → acc.length + l.length ≤ 1048576 → (∀ t ∈ l, TokOk B t) →
    gdovetailref13_Parse_L2 n m l acc = some (labsS l acc) ∧ gasmtext_Parse_L2 n m l acc = some (labsS l acc) ∧ (labsS l acc).1.length + (labsS l acc).2.length ≤ l.length + acc.length := by
  intro k
  induction k using Nat.strongRecOn with
  | ind k ih =>
  intro l acc m hk hm hacc hl
  obtain ⟨m, rfl⟩ : ∃ m', m = m' + 1 := ⟨m - 1, by omega⟩
  rw [gdovetailref13_Parse_L2, gasmtext_Parse_L2, refLabelled_eq n B hB hn l hl, labelled_eq n B l hl]
  simp only [Option.bind_some]
  rcases l with _ | ⟨a, _ | ⟨b, l⟩⟩
  · rw [labsS]; simp [labS]; intro a b r h; cases h
  · rw [labsS]; simp [labS]; intro a b r h; cases h
  · rw [labsS]
    have at0 : atL (a :: b :: l) 0 = some a := rfl
    have sub : subL (a :: b :: l) 2 ((((a :: b :: l).length : Nat) : Int)) = some l := by
      have := subL_nat (a :: b :: l) 2 (a :: b :: l).length (by simp) (Nat.le_refl _)
      rw [show ((2 : Nat) : Int) = 2 from rfl] at this
      rw [this]; simp
    have app : appL 16 acc [a.f_Text] = some (acc ++ [a.f_Text]) := appL_ok (by simp at hacc ⊢; omega) (by omega)
    simp only [at0, sub, app, Option.bind_some]
    simp only [List.length_cons] at hk hacc
    obtain ⟨h1, h2, h3⟩ := ih l.length (by omega) l (acc ++ [a.f_Text]) m (Nat.le_refl _) (by omega) (by simp; omega) (fun t ht => hl t (by simp [ht]))
    cases labS (a :: b :: l)
    · simp
    · simp only [cond_true, if_true]
      exact ⟨h1, h2, by simp at h3 ⊢; omega⟩

/-! lines -/
def splitS : List Int → List Int → List (List Int)
  | [], cur => [cur]
  | c :: r, cur => if c = 10 then cur :: splitS r [] else splitS r (cur ++ [c])
def finS : List Int → List Int → List (List Int)
  | [], cur => if cur = [] then [] else [cur]
  | c :: r, cur => if c = 10 then cur :: finS r [] else finS r (cur ++ [c])
theorem splitS_none : ∀ (l cur : List Int), (10 : Int) ∉ l → splitS l cur = [cur ++ l]
  | [], cur, _ => by simp [splitS]
  | c :: r, cur, h => by
    have h1 : ¬ c = 10 := fun e => h (by simp [e])
    rw [splitS, if_neg h1, splitS_none r _ (fun e => h (List.mem_cons_of_mem _ e))]
    simp
theorem splitS_hit : ∀ (a r cur : List Int), (10 : Int) ∉ a → splitS (a ++ 10 :: r) cur = (cur ++ a) :: splitS r []
  | [], r, cur, _ => by simp [splitS]
  | c :: a, r, cur, h => by
    have h1 : ¬ c = 10 := fun e => h (by simp [e])
    rw [List.cons_append, splitS, if_neg h1, splitS_hit a r _ (fun e => h (List.mem_cons_of_mem _ e))]
    simp
theorem splitS_fin : ∀ (l cur : List Int), ∃ a z, splitS l cur = a ++ [z] ∧ finS l cur = if z = [] then a else a ++ [z]
  | [], cur => ⟨[], cur, rfl, by simp [finS]⟩
  | c :: r, cur => by
    rw [splitS, finS]
    by_cases h : c = 10
    · rw [if_pos h, if_pos h]
      obtain ⟨a, z, h1, h2⟩ := splitS_fin r []
      exact ⟨cur :: a, z, by rw [h1]; rfl, by rw [h2]; split <;> rfl⟩
    · rw [if_neg h, if_neg h]
      exact splitS_fin r _
theorem finS_len : ∀ (l cur : List Int), (finS l cur).length ≤ l.length + 1
  | [], cur => by unfold finS; split <;> simp
  | c :: r, cur => by
    rw [finS]
    split
    · have := finS_len r []; simp; omega
    · have := finS_len r (cur ++ [c]); simp; omega
theorem finS_each (B : Nat) : ∀ (l cur : List Int), cur.length + l.length ≤ B → ∀ x ∈ finS l cur, x.length ≤ B
  | [], cur, h, x, hx => by
    unfold finS at hx
    split at hx
    · cases hx
    · rw [List.mem_singleton] at hx; subst hx; simpa using h
  | c :: r, cur, h, x, hx => by
    rw [finS] at hx
    simp only [List.length_cons] at h
    split at hx
    · rcases List.mem_cons.1 hx with rfl | hx
      · omega
      · exact finS_each B r [] (by simp; omega) x hx
    · exact finS_each B r _ (by simp; omega) x hx
end Go.DM
namespace Go.DM
open Go

theorem refSplit_loop (N : Nat) (s : ByteArray) (hs : s.size ≤ 1048576) : ∀ (k i m fr : Nat) (out : List ByteArray), s.size - i ≤ k → k < m → i ≤ s.size → fr ≤ i → out.length ≤ i →
    ∃ (out' : List ByteArray) (fr' : Nat), gdovetailref13_Split_L1 N s m out (fr : Int) (i : Int) = some (out', (fr' : Int)) ∧ fr' ≤ s.size ∧ out'.length ≤ s.size ∧
      out' ++ (if fr' < s.size then [s.extract fr' s.size] else []) = out ++ (finS ((bs s).drop i) (((bs s).take i).drop fr)).map ofB := by
  intro k
  induction k with
  | zero =>
    intro i m fr out hk hm hi hfr hout
    obtain ⟨m, rfl⟩ : ∃ m', m = m' + 1 := ⟨m - 1, by omega⟩
    have hlen := bs_length s
    rw [gdovetailref13_Split_L1]
    have h1 : decide ((i : Int) < (s.size : Nat)) = false := by simp; omega
    rw [h1]
    refine ⟨out, fr, rfl, by omega, by omega, ?_⟩
    rw [List.drop_eq_nil_of_le (by omega), List.take_of_length_le (by omega), finS]
    have he : ((bs s).drop fr = []) ↔ ¬ fr < s.size := by rw [List.drop_eq_nil_iff, hlen]; omega
    by_cases h : fr < s.size
    · rw [if_pos h, if_neg (fun e => he.1 e h), extract_ofB, List.take_of_length_le (by simp [hlen])]; rfl
    · rw [if_neg h, if_pos (he.2 h)]; rfl
  | succ k ih =>
    intro i m fr out hk hm hi hfr hout
    obtain ⟨m, rfl⟩ : ∃ m', m = m' + 1 := ⟨m - 1, by omega⟩
    have hlen := bs_length s
    rw [gdovetailref13_Split_L1]
    rcases hl : (bs s).drop i with _ | ⟨c, r⟩
    · have := drop_nil_le hl
      have h1 : decide ((i : Int) < (s.size : Nat)) = false := by simp; omega
      rw [h1]
      refine ⟨out, fr, rfl, by omega, by omega, ?_⟩
      rw [List.take_of_length_le (by omega), finS]
      have he : ((bs s).drop fr = []) ↔ ¬ fr < s.size := by rw [List.drop_eq_nil_iff, hlen]; omega
      by_cases h : fr < s.size
      · rw [if_pos h, if_neg (fun e => he.1 e h), extract_ofB, List.take_of_length_le (by simp [hlen])]; rfl
      · rw [if_neg h, if_pos (he.2 h)]; rfl
    · obtain ⟨hc, hr, hlt⟩ := drop_cons_at hl
      have h1 : decide ((i : Int) < (s.size : Nat)) = true := by simp; omega
      have htk : (bs s).take (i + 1) = (bs s).take i ++ [c] := by rw [List.take_add_one, hc]; rfl
      rw [h1, atS_bs, hc, finS]
      simp only [cond_true, Option.bind_some]
      by_cases h10 : c = 10
      · have : (c == 10) = true := by simpa using h10
        rw [this, if_pos h10]
        simp only [cond_true]
        rw [subS_nat _ _ _ hfr (by omega)]
        simp only [Option.bind_some]
        rw [appL_ok (by simp; omega) (by omega), w64_succ (by omega)]
        simp only [Option.bind_some]
        obtain ⟨out', fr', g1, g2, g3, g4⟩ := ih (i + 1) m (i + 1) (out ++ [s.extract fr i]) (by omega) (by omega) (by omega) (Nat.le_refl _) (by simp; omega)
        refine ⟨out', fr', ?_, g2, g3, ?_⟩
        · exact g1
        · rw [g4, hr]
          have e1 : ((bs s).take (i + 1)).drop (i + 1) = [] := by rw [List.drop_eq_nil_iff]; simp; omega
          have e2 : ofB (((bs s).take i).drop fr) = s.extract fr i := by rw [extract_ofB, List.drop_take]
          rw [e1, List.map_cons, e2]
          simp
      · have : (c == 10) = false := by simpa using h10
        rw [this, if_neg h10]
        simp only [cond_false, Option.bind_some]
        rw [w64_succ (by omega)]
        obtain ⟨out', fr', g1, g2, g3, g4⟩ := ih (i + 1) m fr out (by omega) (by omega) (by omega) (by omega) (by omega)
        refine ⟨out', fr', g1, g2, g3, ?_⟩
        rw [g4, hr, htk, List.drop_append_of_le_length (by simp; omega)]
theorem refSplit_eq (n : Nat) (s : ByteArray) (hs : s.size ≤ 1048576) (hn : s.size < n) : gdovetailref13_Split n s = some ((finS (bs s) []).map ofB) := by
  unfold gdovetailref13_Split
  obtain ⟨out', fr', g1, g2, g3, g4⟩ := refSplit_loop n s hs s.size 0 n 0 [] (by omega) hn (by omega) (by omega) (by simp)
  rw [show ((0 : Nat) : Int) = 0 from rfl] at g1
  rw [g1]
  simp only [Option.bind_some]
  have g5 : out' ++ (if fr' < s.size then [s.extract fr' s.size] else []) = (finS (bs s) []).map ofB := by simpa using g4
  by_cases h : fr' < s.size
  · have : decide ((fr' : Int) < (s.size : Nat)) = true := by simp; omega
    rw [this]
    simp only [cond_true]
    rw [subS_nat _ _ _ (by omega) (Nat.le_refl _)]
    simp only [Option.bind_some]
    rw [appL_ok (by simp; omega) (by omega)]
    rw [if_pos h] at g5
    simp [g5]
  · have : decide ((fr' : Int) < (s.size : Nat)) = false := by simp; omega
    rw [this]
    rw [if_neg h, List.append_nil] at g5
    simp [g5]

/-! strings.Split at a line's end -/
def nlB : ByteArray := ⟨#[10]⟩
theorem mem10 {l : List UInt8} (h : ∀ k : Nat, l[k]? ≠ some 10) : (10 : Int) ∉ l.map (fun b => (b.toNat : Int)) := by
  intro hm
  obtain ⟨b, hb, he⟩ := List.mem_map.1 hm
  have : b = 10 := UInt8.toNat.inj (by show b.toNat = 10; omega)
  subst this
  obtain ⟨k, hk⟩ := List.getElem?_of_mem hb
  exact h k hk
theorem splitB_eq : ∀ (k : Nat) (s : ByteArray), s.size ≤ k → Lib.splitB nlB 0 (Lib.countB s nlB) s = (splitS (bs s) []).map ofB := by
  intro k
  induction k using Nat.strongRecOn with
  | ind k ih =>
  intro s hk
  have hix : Lib.indexB s nlB = Lib.indexByte s.data.toList 10 := Lib.index_one _ _
  rcases Lib.indexB_cases s nlB with h | ⟨i, h, hi⟩
  · have hnot := Lib.indexByte_none (hix.symm.trans h)
    rw [Lib.countB_miss s nlB h, Lib.splitB_zero, splitS_none (bs s) [] (mem10 hnot)]
    simp [ofB_bs]
  · have hsz : nlB.size = 1 := rfl
    rw [hsz] at hi
    obtain ⟨h1, h2⟩ := Lib.indexByte_some (hix.symm.trans h)
    have hlen := bs_length s
    have hbi : (bs s)[i]? = some 10 := by
      show (s.data.toList.map (fun b => (b.toNat : Int)))[i]? = _
      rw [List.getElem?_map, h1]; rfl
    have hbn : (10 : Int) ∉ (bs s).take i := by
      show (10 : Int) ∉ (s.data.toList.map (fun b => (b.toNat : Int))).take i
      rw [← List.map_take]
      refine mem10 (fun j hj => ?_)
      rw [List.getElem?_take] at hj
      split at hj
      · rename_i hji; exact h2 j hji hj
      · cases hj
    rw [Lib.countB_hit s nlB i (by decide) h, Nat.add_comm, Lib.splitB_hit nlB 0 _ s i h, hsz]
    have hx : bs (s.extract (i + 1) s.size) = (bs s).drop (i + 1) := by rw [bs_extract, List.take_of_length_le (by simp; omega)]
    have hxs : (s.extract (i + 1) s.size).size = s.size - (i + 1) := by rw [← bs_length, hx]; simp; omega
    rw [ih (s.size - (i + 1)) (by omega) _ (by omega), hx]
    have hsplit : bs s = (bs s).take i ++ 10 :: (bs s).drop (i + 1) := by
      conv => lhs; rw [← List.take_append_drop i (bs s)]
      congr 1
      have hlt : i < (bs s).length := by omega
      rw [List.drop_eq_getElem_cons hlt]
      congr 1
      rw [List.getElem?_eq_getElem hlt] at hbi
      exact Option.some.inj hbi
    conv => rhs; rw [hsplit]
    rw [splitS_hit _ _ _ hbn, List.nil_append, List.map_cons]
    congr 1
    rw [extract_ofB]; simp
theorem lines_eq (n : Nat) (s : ByteArray) (hs : s.size ≤ 1048576) : gasmtext_lines n s = some ((finS (bs s) []).map ofB) := by
  unfold gasmtext_lines
  have h1 : splitT s (ByteArray.mk #[10]) = some ((splitS (bs s) []).map ofB) := by
    unfold splitT
    rw [if_pos ⟨by omega, by decide⟩]
    exact congrArg some (splitB_eq s.size s (Nat.le_refl _))
  obtain ⟨a, z, h2, h3⟩ := splitS_fin (bs s) []
  have hal : a.length ≤ s.size + 1 := by
    have := finS_len (bs s) []
    rw [h3, bs_length] at this
    split at this
    · exact this
    · simp at this; omega
  rw [h1, h2, h3]
  simp only [Option.bind_some, List.map_append, List.map_cons, List.map_nil]
  have hl : ((a.map ofB ++ [ofB z]).length : Int) = ((a.length + 1 : Nat) : Int) := by simp
  have e1 : IntKind.wrap .i64 (((a.map ofB ++ [ofB z]).length : Nat) - 1 : Int) = ((a.length : Nat) : Int) := by
    rw [hl, w64] <;> omega
  rw [e1, atL_nat]
  have e2 : (a.map ofB ++ [ofB z])[a.length]? = some (ofB z) := by
    rw [List.getElem?_append_right (by simp)]; simp
  rw [e2]
  simp only [Option.bind_some]
  have hz : ∀ c ∈ z, 0 ≤ c ∧ c < 256 := by
    have hall : ∀ (l cur : List Int), (∀ c ∈ l, 0 ≤ c ∧ c < 256) → (∀ c ∈ cur, 0 ≤ c ∧ c < 256) → ∀ x ∈ splitS l cur, ∀ c ∈ x, 0 ≤ c ∧ c < 256 := by
      intro l
      induction l with
      | nil => intro cur _ h x hx c hc; rw [splitS, List.mem_singleton] at hx; subst hx; exact h c hc
      | cons d l ih =>
        intro cur hl hc x hx
        rw [splitS] at hx
        split at hx
        · rcases List.mem_cons.1 hx with rfl | hx
          · exact hc
          · exact ih [] (fun c h => hl c (List.mem_cons_of_mem _ h)) (fun c h => by simp at h) x hx
        · refine ih _ (fun c h => hl c (List.mem_cons_of_mem _ h)) (fun c h => ?_) x hx
          rcases List.mem_append.1 h with h | h
          · exact hc c h
          · rw [List.mem_singleton] at h; subst h; exact hl _ (List.mem_cons_self ..)
    exact hall (bs s) [] (fun c h => bs_byte h) (fun c h => by simp at h) z (by rw [h2]; simp)
  by_cases hz0 : z = []
  · subst hz0
    have : decide (ofB [] = ByteArray.mk #[]) = true := rfl
    rw [this, if_pos rfl]
    simp only [cond_true]
    have := subL_nat (a.map ofB ++ [ofB []]) 0 a.length (by omega) (by simp)
    rw [show ((0 : Nat) : Int) = 0 from rfl] at this
    rw [this]
    simp
  · have : decide (ofB z = ByteArray.mk #[]) = false := by
      rw [decide_eq_false_iff_not]
      intro e
      rw [← bs_nil, bs_ofB hz] at e
      exact hz0 e
    rw [this, if_neg hz0]
    simp

/-! whole texts -/
def LineOk (B : Nat) (x : TLine) : Prop := x.f_Labels.length ≤ B ∧ x.f_Toks.length ≤ B
theorem wordsS_ok {s : ByteArray} {x : List TTok} {e : Int} (h : wordsS (bs s) = (x, e)) (he : e = 0) : x.length ≤ 64 ∧ ∀ t ∈ x, TokOk s.size t := by
  unfold wordsS at h
  split at h
  · cases h; cases he
  · split at h
    · cases h; cases he
    · rename_i y hy
      split at h
      · cases h; cases he
      · cases h
        exact ⟨by omega, toksS_ok s.size (bs s).length (bs s) [] _ (Nat.le_refl _) (by rw [bs_length]; omega) (fun c hc => bs_byte hc) (fun t ht => by simp at ht) hy⟩
theorem parse_loops (n : Nat) (r2 : List ByteArray) (hlen : r2.length ≤ 16384) (hr : ∀ s ∈ r2, s.size ≤ 1048576) (hn : 1048576 + 10 < n) : ∀ (k y m : Nat) (acc : List TLine), r2.length - y ≤ k → k < m → acc.length ≤ y → y ≤ r2.length → (∀ x ∈ acc, LineOk 64 x) →
    ∃ v, gdovetailref13_Parse_L1 n r2 m acc (y : Int) = some v ∧ gasmtext_Parse_L1 n r2 m acc (y : Int) = some v ∧ match v with
      | .out x => x.length ≤ r2.length ∧ ∀ l ∈ x, LineOk 64 l
      | .ret (x, _, _) => x = [] := by
  intro k
  induction k with
  | zero =>
    intro y m acc hk hm hacc hy ha
    obtain ⟨m, rfl⟩ : ∃ m', m = m' + 1 := ⟨m - 1, by omega⟩
    rw [gdovetailref13_Parse_L1, gasmtext_Parse_L1]
    have h1 : decide ((y : Int) < ((r2.length : Nat) : Int)) = false := by simp; omega
    rw [h1]
    exact ⟨.out acc, rfl, rfl, by omega, ha⟩
  | succ k ih =>
    intro y m acc hk hm hacc hy ha
    obtain ⟨m, rfl⟩ : ∃ m', m = m' + 1 := ⟨m - 1, by omega⟩
    rw [gdovetailref13_Parse_L1, gasmtext_Parse_L1]
    by_cases hlt : y < r2.length
    · have h1 : decide ((y : Int) < ((r2.length : Nat) : Int)) = true := by simp; omega
      rw [h1, atL_nat, List.getElem?_eq_getElem hlt]
      have hsz := hr r2[y] (List.getElem_mem hlt)
      simp only [cond_true, Option.bind_some]
      rw [refWords_eq n _ (Nat.le_trans hsz (by decide)) (by omega), words_eq n _ (Nat.le_trans hsz (by decide)) (by omega), w64_succ (by omega)]
      rcases hw : wordsS (bs r2[y]) with ⟨x, e⟩
      simp only [Option.bind_some]
      by_cases he : e = 0
      · have : (e != 0) = false := by simpa using he
        rw [this]
        simp only [cond_false]
        obtain ⟨hx1, hx2⟩ := wordsS_ok hw he
        obtain ⟨g1, g2, g3⟩ := labs_loops n r2[y].size hsz (by omega) x.length x [] n (Nat.le_refl _) (by omega) (by simp; omega) hx2
        rw [g1, g2]
        rcases hL : labsS x [] with ⟨t, b⟩
        rw [hL] at g3
        simp only [List.length_nil, Nat.add_zero] at g3
        simp only [Option.bind_some]
        have e1 : decide (IntKind.wrap .i64 (((b.length : Nat) : Int) + ((t.length : Nat) : Int)) > 0) = decide (0 < b.length + t.length) := by
          rw [w64 (by omega) (by omega)]
          congr 1
          exact propext ⟨fun h => by omega, fun h => by omega⟩
        have e2 : (decide (((b.length : Nat) : Int) > 0) || decide (((t.length : Nat) : Int) > 0)) = decide (0 < b.length + t.length) := by
          by_cases hb : 0 < b.length
          · have q1 : decide (((b.length : Nat) : Int) > 0) = true := by simp; omega
            have q2 : decide (0 < b.length + t.length) = true := by simp; omega
            rw [q1, q2]; rfl
          · have q1 : decide (((b.length : Nat) : Int) > 0) = false := decide_eq_false (by omega)
            rw [q1, Bool.false_or]
            congr 1
            exact propext ⟨fun h => by omega, fun h => by omega⟩
        rw [e1, e2]
        have app : appL 56 acc [TLine.mk ((y + 1 : Nat) : Int) b t] = some (acc ++ [TLine.mk ((y + 1 : Nat) : Int) b t]) := appL_ok (by simp; omega) (by omega)
        rw [app]
        cases decide (0 < b.length + t.length)
        · simp only [cond_false, Option.bind_some]
          exact ih (y + 1) m acc (by omega) (by omega) (by omega) (by omega) ha
        · simp only [cond_true, Option.bind_some]
          refine ih (y + 1) m _ (by omega) (by omega) (by simp; omega) (by omega) (fun l hl => ?_)
          rcases List.mem_append.1 hl with hl | hl
          · exact ha l hl
          · rw [List.mem_singleton] at hl; subst hl; exact ⟨show b.length ≤ 64 by omega, show t.length ≤ 64 by omega⟩
      · have : (e != 0) = true := by simpa using he
        rw [this]
        exact ⟨.ret ([], ((y + 1 : Nat) : Int), e), rfl, rfl, rfl⟩
    · have h1 : decide ((y : Int) < ((r2.length : Nat) : Int)) = false := by simp; omega
      rw [h1]
      exact ⟨.out acc, rfl, rfl, by omega, ha⟩
theorem parse_eq (n : Nat) (s : ByteArray) (hn : 1048576 + 10 < n) : ∃ x at_ e, gdovetailref13_Parse n s = some (x, at_, e) ∧ gasmtext_Parse n s = some (x, at_, e) ∧ x.length ≤ 16384 ∧ ∀ l ∈ x, LineOk 64 l := by
  unfold gdovetailref13_Parse gasmtext_Parse
  by_cases hs : s.size > 262144
  · have : decide (((s.size : Nat) : Int) > 262144) = true := by simp; omega
    rw [this]
    exact ⟨[], 0, 133, rfl, rfl, by simp, by simp⟩
  have : decide (((s.size : Nat) : Int) > 262144) = false := by simp; omega
  rw [this, refSplit_eq n s (by omega) (by omega), lines_eq n s (by omega)]
  simp only [cond_false, Option.bind_some]
  generalize hr : (finS (bs s) []).map ofB = r2
  have hall : ∀ x ∈ r2, x.size ≤ 1048576 := by
    intro x hx
    rw [← hr] at hx
    obtain ⟨l, hl, rfl⟩ := List.mem_map.1 hx
    have := finS_each 262144 (bs s) [] (by simp [bs_length]; omega) l hl
    have h2 : (ofB l).size = l.length := by simp [ofB, ByteArray.size]
    omega
  by_cases hl : r2.length > 16384
  · have : decide (((r2.length : Nat) : Int) > 16384) = true := by simp; omega
    rw [this]
    exact ⟨[], 0, 133, rfl, rfl, by simp, by simp⟩
  have : decide (((r2.length : Nat) : Int) > 16384) = false := by simp; omega
  rw [this]
  simp only [cond_false]
  obtain ⟨v, g1, g2, g3⟩ := parse_loops n r2 (by omega) hall hn r2.length 0 n [] (by omega) (by omega) (by simp) (by omega) (by simp)
  rw [show ((0 : Nat) : Int) = 0 from rfl] at g1 g2
  rw [g1, g2]
  cases v with
  | out x => exact ⟨x, 0, 0, rfl, rfl, by simp only at g3; omega, g3.2⟩
  | ret p => obtain ⟨x, a, e⟩ := p; simp only at g3; subst g3; exact ⟨[], a, e, rfl, rfl, by simp, by simp⟩

/-! the same lines -/
theorem sameTexts_refl (n : Nat) (l : List ByteArray) (hl : l.length ≤ 1048576) (hn : l.length < n) : gdovetailref13_SameTexts n l l = some true := by
  unfold gdovetailref13_SameTexts
  have : (((l.length : Nat) : Int) != ((l.length : Nat) : Int)) = false := by simp
  rw [this]
  have key : ∀ (k y m : Nat), l.length - y ≤ k → k < m → y ≤ l.length → gdovetailref13_SameTexts_L1 n l l m (y : Int) = some (.out ()) := by
    intro k
    induction k with
    | zero =>
      intro y m hk hm hy
      obtain ⟨m, rfl⟩ : ∃ m', m = m' + 1 := ⟨m - 1, by omega⟩
      rw [gdovetailref13_SameTexts_L1]
      have h1 : decide ((y : Int) < ((l.length : Nat) : Int)) = false := by simp; omega
      rw [h1]; rfl
    | succ k ih =>
      intro y m hk hm hy
      obtain ⟨m, rfl⟩ : ∃ m', m = m' + 1 := ⟨m - 1, by omega⟩
      rw [gdovetailref13_SameTexts_L1]
      by_cases hlt : y < l.length
      · have h1 : decide ((y : Int) < ((l.length : Nat) : Int)) = true := by simp; omega
        rw [h1, atL_nat, List.getElem?_eq_getElem hlt]
        simp only [cond_true, Option.bind_some, decide_true, Bool.not_true, cond_false]
        rw [w64_succ (by omega)]
        exact ih (y + 1) m (by omega) (by omega) (by omega)
      · have h1 : decide ((y : Int) < ((l.length : Nat) : Int)) = false := by simp; omega
        rw [h1]; rfl
  have := key l.length 0 n (by omega) hn (by omega)
  rw [show ((0 : Nat) : Int) = 0 from rfl] at this
  rw [this]; rfl
theorem sameToks_refl (n : Nat) (l : List TTok) (hl : l.length ≤ 1048576) (hn : l.length < n) : gdovetailref13_SameToks n l l = some true := by
  unfold gdovetailref13_SameToks
  have : (((l.length : Nat) : Int) != ((l.length : Nat) : Int)) = false := by simp
  rw [this]
  have key : ∀ (k y m : Nat), l.length - y ≤ k → k < m → y ≤ l.length → gdovetailref13_SameToks_L1 n l l m (y : Int) = some (.out ()) := by
    intro k
    induction k with
    | zero =>
      intro y m hk hm hy
      obtain ⟨m, rfl⟩ : ∃ m', m = m' + 1 := ⟨m - 1, by omega⟩
      rw [gdovetailref13_SameToks_L1]
      have h1 : decide ((y : Int) < ((l.length : Nat) : Int)) = false := by simp; omega
      rw [h1]; rfl
    | succ k ih =>
      intro y m hk hm hy
      obtain ⟨m, rfl⟩ : ∃ m', m = m' + 1 := ⟨m - 1, by omega⟩
      rw [gdovetailref13_SameToks_L1]
      by_cases hlt : y < l.length
      · have h1 : decide ((y : Int) < ((l.length : Nat) : Int)) = true := by simp; omega
        rw [h1, atL_nat, List.getElem?_eq_getElem hlt]
        simp only [cond_true, Option.bind_some, decide_true, beq_self_eq_true, Bool.and_self, Bool.not_true, cond_false]
        rw [w64_succ (by omega)]
        exact ih (y + 1) m (by omega) (by omega) (by omega)
      · have h1 : decide ((y : Int) < ((l.length : Nat) : Int)) = false := by simp; omega
        rw [h1]; rfl
  have := key l.length 0 n (by omega) hn (by omega)
  rw [show ((0 : Nat) : Int) = 0 from rfl] at this
  rw [this]; rfl
theorem same_refl (n : Nat) (l : List TLine) (hl : l.length ≤ 1048576) (hn : 1048576 < n) (hx : ∀ x ∈ l, LineOk 1048576 x) : gdovetailref13_Same n l l = some true := by
  unfold gdovetailref13_Same
  have : (((l.length : Nat) : Int) != ((l.length : Nat) : Int)) = false := by simp
  rw [this]
  have key : ∀ (k y m : Nat), l.length - y ≤ k → k < m → y ≤ l.length → gdovetailref13_Same_L1 n l l m (y : Int) = some (.out ()) := by
    intro k
    induction k with
    | zero =>
      intro y m hk hm hy
      obtain ⟨m, rfl⟩ : ∃ m', m = m' + 1 := ⟨m - 1, by omega⟩
      rw [gdovetailref13_Same_L1]
      have h1 : decide ((y : Int) < ((l.length : Nat) : Int)) = false := by simp; omega
      rw [h1]; rfl
    | succ k ih =>
      intro y m hk hm hy
      obtain ⟨m, rfl⟩ : ∃ m', m = m' + 1 := ⟨m - 1, by omega⟩
      rw [gdovetailref13_Same_L1]
      by_cases hlt : y < l.length
      · have h1 : decide ((y : Int) < ((l.length : Nat) : Int)) = true := by simp; omega
        have hok := hx l[y] (List.getElem_mem hlt)
        have hb : (l[y].f_No != l[y].f_No) = false := by simp
        rw [h1, atL_nat, List.getElem?_eq_getElem hlt]
        simp only [cond_true, Option.bind_some, hb, sameTexts_refl n l[y].f_Labels hok.1 (by have := hok.1; omega), sameToks_refl n l[y].f_Toks hok.2 (by have := hok.2; omega), Bool.not_true, cond_false]
        rw [w64_succ (by omega)]
        exact ih (y + 1) m (by omega) (by omega) (by omega)
      · have h1 : decide ((y : Int) < ((l.length : Nat) : Int)) = false := by simp; omega
        rw [h1]; rfl
  have := key l.length 0 n (by omega) (by omega) (by omega)
  rw [show ((0 : Nat) : Int) = 0 from rfl] at this
  rw [this]; rfl
end Go.DM
namespace Go.DM
open Go
set_option maxRecDepth 100000
theorem alive_eq (k : Nat) : gdovetaillaw13_asmtextAlive (k + 100) = some true := by kernel_rfl
theorem parses_law (s : ByteArray) : gdovetaillaw13_AsmtextParses 2000000 s = some true := by
  unfold gdovetaillaw13_AsmtextParses
  obtain ⟨x, a, e, h1, h2, h3, h4⟩ := parse_eq 2000000 s (by omega)
  have := alive_eq 1999900
  rw [show 1999900 + 100 = 2000000 from rfl] at this
  rw [this, h1, h2]
  simp only [Option.bind_some, Bool.not_true, cond_false, beq_self_eq_true, Bool.and_self, cond_true]
  rw [same_refl 2000000 x (by omega) (by omega) (fun l hl => ⟨by have := (h4 l hl).1; omega, by have := (h4 l hl).2; omega⟩)]
  rfl
end Go.DM
