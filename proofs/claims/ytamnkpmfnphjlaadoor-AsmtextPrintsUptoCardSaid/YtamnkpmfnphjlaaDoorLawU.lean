/- The plain law of asmtext's tokens: tokens printed on a line, and read again. No condition. -/
import Derived.Test.YtamnkpmfnphjlaaDoorLawT
import Derived.Test.YtamnkpmfnphjlaaDoorWalkU
namespace Go.DM
open Go

def hexd (c : Int) : Int := if c < 10 then 48 + c else 87 + c
def bad (c : Int) : Bool := ((decide (c < 32) || decide (c > 126)) || (c == 34)) || (c == 92)
def escP (c : Int) : List Int := if bad c = true then [92, 120, hexd (c / 16), hexd (c % 16)] else [c]
def quoP (l : List Int) : List Int := l.flatMap escP
def tokP (t : TTok) : List Int := if t.f_Kind = 3 then 34 :: (quoP (bs t.f_Text) ++ [34]) else bs t.f_Text
def joinP : List TTok → List Int
  | [] => []
  | [t] => tokP t
  | t :: u :: r => tokP t ++ 32 :: joinP (u :: r)
/-- a token such as the words of a line are -/
def TokS (t : TTok) : Prop := (∀ c ∈ bs t.f_Text, 0 ≤ c ∧ c < 256) ∧ (t.f_Kind = 3 ∨ (t.f_Kind = 2 ∧ ∃ c, bs t.f_Text = [c] ∧ signB c = true) ∨ (t.f_Kind = 1 ∧ bs t.f_Text ≠ [] ∧ ∀ c ∈ bs t.f_Text, inW c = true))

theorem hexv_hexd {c : Int} (h0 : 0 ≤ c) (h1 : c < 16) : hexv (hexd c) = c := by
  unfold hexv hexd
  split
  · rw [if_pos (by omega)]; omega
  · rw [if_neg (by omega), if_pos (by omega)]; omega
theorem hexd_ge {c : Int} (h0 : 0 ≤ c) (h1 : c < 16) : 48 ≤ hexd c ∧ hexd c ≤ 102 := by
  unfold hexd; split <;> omega
theorem bad_iff (c : Int) : bad c = true ↔ (c < 32 ∨ c > 126 ∨ c = 34 ∨ c = 92) := by
  unfold bad; simp only [Bool.or_eq_true, decide_eq_true_eq, beq_iff_eq]; omega

/-- the bytes of a printed text are read again, whatever follows -/
theorem textS_quo : ∀ (l : List Int) (r acc : List Int), (∀ c ∈ l, 0 ≤ c ∧ c < 256) → textS (quoP l ++ 34 :: r) acc = some (acc ++ l, r)
  | [], r, acc, _ => by
    show textS (34 :: r) acc = _
    unfold textS
    rw [if_pos rfl, List.append_nil]
  | c :: l, r, acc, h => by
    have hc := h c (List.mem_cons_self ..)
    have hl : ∀ c ∈ l, 0 ≤ c ∧ c < 256 := fun x hx => h x (List.mem_cons_of_mem _ hx)
    have e : quoP (c :: l) = escP c ++ quoP l := by simp [quoP, List.flatMap_cons]
    rw [e]
    unfold escP
    by_cases hb : bad c = true
    · rw [if_pos hb]
      have a1 := hexv_hexd (c := c / 16) (by omega) (by omega)
      have a2 := hexv_hexd (c := c % 16) (by omega) (by omega)
      show textS (92 :: 120 :: hexd (c / 16) :: hexd (c % 16) :: (quoP l ++ 34 :: r)) acc = _
      unfold textS
      rw [if_neg (by omega), if_neg (by omega), if_neg (by omega)]
      simp only []
      rw [if_neg (by omega), if_neg (by omega), if_neg (by omega), if_neg (by omega), if_pos trivial, a1, a2, if_neg (by omega), textS_quo l r _ hl]
      rw [show 16 * (c / 16) + c % 16 = c by omega]
      simp
    · rw [if_neg hb]
      have hb' : ¬ (c < 32 ∨ c > 126 ∨ c = 34 ∨ c = 92) := fun x => hb ((bad_iff c).2 x)
      show textS (c :: (quoP l ++ 34 :: r)) acc = _
      unfold textS
      rw [if_neg (by omega), if_neg (by omega), if_pos (by omega), textS_quo l r _ hl]
      simp

theorem inW_iff (c : Int) : inW c = true ↔ ((65 ≤ c ∧ c ≤ 90) ∨ (97 ≤ c ∧ c ≤ 122) ∨ (48 ≤ c ∧ c ≤ 57) ∨ c = 95 ∨ c = 46 ∨ c = 36) := by
  unfold inW; simp only [Bool.or_eq_true, Bool.and_eq_true, decide_eq_true_eq, beq_iff_eq]; omega
theorem signB_iff (c : Int) : signB c = true ↔ (c = 40 ∨ c = 41 ∨ c = 91 ∨ c = 93 ∨ c = 43 ∨ c = 45 ∨ c = 42 ∨ c = 44 ∨ c = 58 ∨ c = 37) := by
  simp [signB, signL]

/-- what may follow a token -/
def Sep (r : List Int) : Prop := r = [] ∨ ∃ c q, r = c :: q ∧ inW c = false
theorem toksS_tok (t : TTok) (ht : TokS t) (r : List Int) (hr : Sep r) (acc : List TTok) : toksS (tokP t ++ r) acc = toksS r (acc ++ [t]) := by
  obtain ⟨kd, tx⟩ := t
  obtain ⟨hb, hk⟩ := ht
  simp only at hb hk
  rcases hk with rfl | ⟨rfl, c, hc, hs⟩ | ⟨rfl, hne, hw⟩
  · show toksS (34 :: (quoP (bs tx) ++ [34]) ++ r) acc = _
    rw [show 34 :: (quoP (bs tx) ++ [34]) ++ r = 34 :: (quoP (bs tx) ++ 34 :: r) by simp]
    have e := textS_quo (bs tx) r [] hb
    rw [toksS.eq_def]
    simp only
    rw [if_neg (by omega), if_neg (by omega), if_pos trivial]
    split
    · rename_i t r' h
      rw [e] at h
      cases h
      rw [List.nil_append, ofB_bs]
    · rename_i h
      rw [e] at h; cases h
  · have e : tokP ⟨2, tx⟩ = [c] := by simpa [tokP] using hc
    have hs' := (signB_iff c).1 hs
    rw [e]
    show toksS (c :: r) acc = _
    rw [toksS.eq_def]
    simp only
    rw [if_neg (by omega), if_neg (by omega), if_neg (by omega), if_pos hs, ← hc, ofB_bs]
  · have e : tokP ⟨1, tx⟩ = bs tx := by simp [tokP]
    rw [e]
    rcases hl : bs tx with _ | ⟨c, l⟩
    · exact absurd hl hne
    rw [hl] at hw
    have hc := hw c (List.mem_cons_self ..)
    have hc' := (inW_iff c).1 hc
    have hsg : ¬ (signB c = true) := fun x => by have := (signB_iff c).1 x; omega
    have hwl : ∀ x ∈ l, inW x = true := fun x hx => hw x (List.mem_cons_of_mem _ hx)
    have h1 : (l ++ r).takeWhile inW = l ∧ (l ++ r).dropWhile inW = r := by
      have hr' : r.takeWhile inW = [] ∧ r.dropWhile inW = r := by
        rcases hr with rfl | ⟨d, q, rfl, hd⟩
        · exact ⟨rfl, rfl⟩
        · simp [hd]
      constructor
      · rw [List.takeWhile_append_of_pos hwl, hr'.1, List.append_nil]
      · rw [List.dropWhile_append_of_pos hwl, hr'.2]
    show toksS (c :: (l ++ r)) acc = _
    rw [toksS.eq_def]
    simp only
    rw [if_neg (by omega), if_neg (by omega), if_neg (by omega), if_neg hsg, if_pos hc, h1.1, h1.2, ← hl, ofB_bs]

theorem toksS_sp (r : List Int) (acc : List TTok) : toksS (32 :: r) acc = toksS r acc := by
  rw [toksS.eq_def]
  simp only
  rw [if_neg (by decide), if_pos (by decide)]
theorem toksS_nil (acc : List TTok) : toksS [] acc = .out acc := by rw [toksS.eq_def]
theorem toksS_join : ∀ (l acc : List TTok), (∀ t ∈ l, TokS t) → toksS (joinP l) acc = .out (acc ++ l)
  | [], acc, _ => by rw [joinP, toksS_nil, List.append_nil]
  | [t], acc, h => by
    rw [joinP]
    have := toksS_tok t (h t (by simp)) [] (.inl rfl) acc
    rw [List.append_nil] at this
    rw [this, toksS_nil]
  | t :: u :: r, acc, h => by
    rw [joinP, toksS_tok t (h t (by simp)) _ (.inr ⟨32, _, rfl, by decide⟩) acc, toksS_sp, toksS_join (u :: r) _ (fun x hx => h x (List.mem_cons_of_mem _ hx))]
    simp

theorem quoP_ge (l : List Int) (h : ∀ c ∈ l, 0 ≤ c ∧ c < 256) : ∀ c ∈ quoP l, 32 ≤ c ∧ c ≤ 126 := by
  intro c hc
  simp only [quoP, List.mem_flatMap] at hc
  obtain ⟨x, hx, hc⟩ := hc
  have hx' := h x hx
  unfold escP at hc
  split at hc
  · have a1 := hexd_ge (c := x / 16) (by omega) (by omega)
    have a2 := hexd_ge (c := x % 16) (by omega) (by omega)
    simp only [List.mem_cons, List.not_mem_nil, or_false] at hc
    omega
  · rename_i hb
    have : ¬ (x < 32 ∨ x > 126 ∨ x = 34 ∨ x = 92) := fun q => hb ((bad_iff x).2 q)
    rw [List.mem_singleton] at hc
    omega
theorem tokP_ge (t : TTok) (ht : TokS t) : ∀ c ∈ tokP t, 32 ≤ c ∧ c ≤ 126 := by
  intro c hc
  obtain ⟨hb, hk⟩ := ht
  unfold tokP at hc
  split at hc
  · simp only [List.mem_cons, List.mem_append, List.not_mem_nil, or_false] at hc
    rcases hc with rfl | hc | rfl
    · omega
    · exact quoP_ge _ hb c hc
    · omega
  · rename_i h3
    rcases hk with h | ⟨_, d, hd, hs⟩ | ⟨_, _, hw⟩
    · exact absurd h h3
    · rw [hd, List.mem_singleton] at hc
      subst hc
      have := (signB_iff c).1 hs; omega
    · have := (inW_iff c).1 (hw c hc); omega
theorem joinP_ge : ∀ (l : List TTok), (∀ t ∈ l, TokS t) → ∀ c ∈ joinP l, 32 ≤ c ∧ c ≤ 126
  | [], _, c, hc => by simp [joinP] at hc
  | [t], h, c, hc => tokP_ge t (h t (by simp)) c (by simpa [joinP] using hc)
  | t :: u :: r, h, c, hc => by
    rw [joinP, List.mem_append, List.mem_cons] at hc
    rcases hc with hc | rfl | hc
    · exact tokP_ge t (h t (by simp)) c hc
    · omega
    · exact joinP_ge (u :: r) (fun x hx => h x (List.mem_cons_of_mem _ hx)) c hc
theorem wordsS_join (l : List TTok) (h : ∀ t ∈ l, TokS t) (hl : l.length ≤ 64) : wordsS (joinP l) = (l, 0) := by
  unfold wordsS
  rw [if_neg (by
    intro hc
    have := joinP_ge l h 10 (by simpa using hc)
    omega), toksS_join l [] h]
  simp only [List.nil_append]
  rw [if_neg (by omega)]

/-- how much a list of tokens takes -/
def tsize : List TTok → Nat
  | [] => 0
  | t :: r => t.f_Text.size + tsize r
theorem tsize_append (l m : List TTok) : tsize (l ++ m) = tsize l + tsize m := by
  induction l with
  | nil => simp [tsize]
  | cons t l ih => simp only [List.cons_append, tsize, ih]; omega
theorem quoP_len (l : List Int) : (quoP l).length ≤ 4 * l.length := by
  induction l with
  | nil => simp [quoP]
  | cons c l ih =>
    have e : quoP (c :: l) = escP c ++ quoP l := by simp [quoP, List.flatMap_cons]
    rw [e, List.length_append]
    have : (escP c).length ≤ 4 := by unfold escP; split <;> simp
    simp only [List.length_cons]; omega
theorem tokP_len (t : TTok) : (tokP t).length ≤ 4 * t.f_Text.size + 2 := by
  unfold tokP
  have := bs_length t.f_Text
  split
  · have := quoP_len (bs t.f_Text)
    simp only [List.length_cons, List.length_append, List.length_nil]; omega
  · omega
theorem joinP_len : ∀ (l : List TTok), (joinP l).length ≤ 4 * tsize l + 3 * l.length
  | [] => by simp [joinP]
  | [t] => by have := tokP_len t; simp only [joinP, tsize, List.length_cons, List.length_nil]; omega
  | t :: u :: r => by
    have h1 := tokP_len t
    have h2 := joinP_len (u :: r)
    simp only [joinP, tsize, List.length_append, List.length_cons] at h2 ⊢
    omega
theorem textS_size : ∀ (l acc : List Int) (t r : List Int), textS l acc = some (t, r) → t.length + r.length < acc.length + l.length
  | [], acc, t, r, h => by simp [textS] at h
  | [c], acc, t, r, h => by
    unfold textS at h
    split at h
    · cases h; simp
    split at h
    · cases h
    split at h
    · simp [textS] at h
    · simp at h
  | c :: d :: l, acc, t, r, h => by
    unfold textS at h
    split at h
    · cases h; simp
    split at h
    · cases h
    split at h
    · have := textS_size (d :: l) _ _ _ h; simp at this ⊢; omega
    simp only at h
    split at h
    · have := textS_size l _ _ _ h; simp at this ⊢; omega
    split at h
    · have := textS_size l _ _ _ h; simp at this ⊢; omega
    split at h
    · have := textS_size l _ _ _ h; simp at this ⊢; omega
    split at h
    · have := textS_size l _ _ _ h; simp at this ⊢; omega
    split at h
    · split at h
      · rename_i a b r'
        split at h
        · cases h
        · have := textS_size r' _ _ _ h; simp at this ⊢; omega
      · cases h
    · cases h
/-- the bytes of a text read are bytes -/
theorem textS_bytes : ∀ (l acc : List Int) (t r : List Int), (∀ c ∈ l, 0 ≤ c ∧ c < 256) → (∀ c ∈ acc, 0 ≤ c ∧ c < 256) → textS l acc = some (t, r) → ∀ c ∈ t, 0 ≤ c ∧ c < 256
  | [], acc, t, r, _, _, h => by simp [textS] at h
  | [c], acc, t, r, _, ha, h => by
    unfold textS at h
    split at h
    · cases h; exact ha
    split at h
    · cases h
    split at h
    · simp [textS] at h
    · simp at h
  | c :: d :: l, acc, t, r, hl, ha, h => by
    have hc := hl c (by simp)
    have hd := hl d (by simp)
    have hl1 : ∀ c ∈ d :: l, 0 ≤ c ∧ c < 256 := fun x hx => hl x (List.mem_cons_of_mem _ hx)
    have hl2 : ∀ c ∈ l, 0 ≤ c ∧ c < 256 := fun x hx => hl1 x (List.mem_cons_of_mem _ hx)
    have ha' : ∀ x : Int, 0 ≤ x → x < 256 → ∀ c ∈ acc ++ [x], 0 ≤ c ∧ c < 256 := fun x h0 h1 c hc => by
      rcases List.mem_append.1 hc with hc | hc
      · exact ha c hc
      · rw [List.mem_singleton] at hc; subst hc; exact ⟨h0, h1⟩
    unfold textS at h
    split at h
    · cases h; exact ha
    split at h
    · cases h
    split at h
    · exact textS_bytes (d :: l) _ _ _ hl1 (ha' c hc.1 hc.2) h
    simp only at h
    split at h
    · exact textS_bytes l _ _ _ hl2 (ha' 10 (by omega) (by omega)) h
    split at h
    · exact textS_bytes l _ _ _ hl2 (ha' 9 (by omega) (by omega)) h
    split at h
    · exact textS_bytes l _ _ _ hl2 (ha' 0 (by omega) (by omega)) h
    split at h
    · exact textS_bytes l _ _ _ hl2 (ha' d hd.1 hd.2) h
    split at h
    · split at h
      · rename_i a b r'
        split at h
        · cases h
        · rename_i hn
          have := hexv_lt a; have := hexv_lt b
          exact textS_bytes r' _ _ _ (fun x hx => hl2 x (List.mem_cons_of_mem _ (List.mem_cons_of_mem _ hx))) (ha' _ (by omega) (by omega)) h
      · cases h
    · cases h
theorem twAll (p : Int → Bool) : ∀ (l : List Int) (x : Int), x ∈ l.takeWhile p → p x = true
  | [], x, h => by simp at h
  | c :: l, x, h => by
    rw [List.takeWhile_cons] at h
    cases hp : p c
    · rw [hp] at h; simp at h
    · rw [hp] at h
      rcases List.mem_cons.1 h with rfl | h
      · exact hp
      · exact twAll p l x h
theorem toksS_sound : ∀ (k : Nat) (l : List Int) (acc x : List TTok), l.length ≤ k → (∀ c ∈ l, 0 ≤ c ∧ c < 256) → (∀ t ∈ acc, TokS t) → toksS l acc = .out x → (∀ t ∈ x, TokS t) ∧ tsize x ≤ tsize acc + l.length := by
  intro k
  induction k using Nat.strongRecOn with
  | ind k ih =>
  intro l acc x hk hb hacc h
  rw [toksS.eq_def] at h
  rcases l with _ | ⟨c, r⟩
  · cases h; exact ⟨hacc, by omega⟩
  simp only [List.length_cons] at hk ⊢
  have hbr : ∀ c ∈ r, 0 ≤ c ∧ c < 256 := fun c hc => hb c (List.mem_cons_of_mem _ hc)
  have hbc := hb c (List.mem_cons_self ..)
  have app : ∀ u : TTok, TokS u → ∀ t ∈ acc ++ [u], TokS t := fun u hu t ht => by
    rcases List.mem_append.1 ht with ht | ht
    · exact hacc t ht
    · rw [List.mem_singleton] at ht; subst ht; exact hu
  have siz : ∀ u : TTok, tsize (acc ++ [u]) = tsize acc + (bs u.f_Text).length := fun u => by
    rw [tsize_append, bs_length]; simp [tsize]
  simp only at h
  split at h
  · cases h; exact ⟨hacc, by omega⟩
  split at h
  · have := ih r.length (by omega) r acc x (Nat.le_refl _) hbr hacc h
    exact ⟨this.1, by omega⟩
  split at h
  · split at h
    · rename_i t r' ht
      have h1 := textS_len _ _ _ _ ht
      have h2 := (textS_suf _ _ _ _ ht).subset
      have h3 := textS_size _ _ _ _ ht
      have h4 := textS_bytes _ _ _ _ hbr (by simp) ht
      have h5 := bs_ofB h4
      have := ih r'.length (by omega) r' _ x (Nat.le_refl _) (fun c hc => hbr c (h2 hc)) (app ⟨3, ofB t⟩ ⟨by rw [h5]; exact h4, .inl rfl⟩) h
      refine ⟨this.1, ?_⟩
      have h6 := this.2
      rw [siz] at h6
      simp only [h5] at h6
      simp at h3
      omega
    · cases h
  split at h
  · rename_i hs
    have h5 : bs (ofB [c]) = [c] := bs_ofB (by simpa using hbc)
    have := ih r.length (by omega) r _ x (Nat.le_refl _) hbr (app ⟨2, ofB [c]⟩ ⟨by rw [h5]; simpa using hbc, .inr (.inl ⟨rfl, c, h5, hs⟩)⟩) h
    refine ⟨this.1, ?_⟩
    have h6 := this.2
    rw [siz] at h6
    simp only [h5, List.length_cons, List.length_nil] at h6
    omega
  split at h
  · rename_i hw
    have h1 := takeDrop_len inW r
    have h2 : ∀ c ∈ r.dropWhile inW, c ∈ r := fun c hc => (List.dropWhile_suffix inW).subset hc
    have h3 : ∀ c ∈ r.takeWhile inW, c ∈ r := fun c hc => (List.takeWhile_prefix inW).subset hc
    have h4 : ∀ x ∈ c :: r.takeWhile inW, 0 ≤ x ∧ x < 256 := fun x hx => by
      rcases List.mem_cons.1 hx with rfl | hx
      · exact hbc
      · exact hbr x (h3 x hx)
    have h5 : bs (ofB (c :: r.takeWhile inW)) = c :: r.takeWhile inW := bs_ofB h4
    have h6 : ∀ x ∈ c :: r.takeWhile inW, inW x = true := fun x hx => by
      rcases List.mem_cons.1 hx with rfl | hx
      · exact hw
      · exact twAll inW r x hx
    have := ih (r.dropWhile inW).length (by omega) _ _ x (Nat.le_refl _) (fun c hc => hbr c (h2 c hc)) (app ⟨1, ofB (c :: r.takeWhile inW)⟩ ⟨by rw [h5]; exact h4, .inr (.inr ⟨rfl, by rw [h5]; simp, by rw [h5]; exact h6⟩)⟩) h
    refine ⟨this.1, ?_⟩
    have h7 := this.2
    rw [siz] at h7
    simp only [h5, List.length_cons] at h7
    omega
  · cases h
end Go.DM
namespace Go.DM
open Go

def hexD : ByteArray := ByteArray.mk #[48, 49, 50, 51, 52, 53, 54, 55, 56, 57, 97, 98, 99, 100, 101, 102]
def escQ (b347 : Int) : Option ByteArray := (subS hexD (Int.fdiv b347 (2 ^ 4)) (IntKind.wrap .u8 ((Int.fdiv b347 (2 ^ 4)) + 1))).bind fun s381 => (catS (ByteArray.mk #[92, 120]) s381).bind fun s382 => (subS hexD (IntKind.wrap .u8 ((BitVec.ofInt 8 b347 &&& BitVec.ofInt 8 15).toNat : Nat)) (IntKind.wrap .u8 ((IntKind.wrap .u8 ((BitVec.ofInt 8 b347 &&& BitVec.ofInt 8 15).toNat : Nat)) + 1))).bind fun s383 => catS s382 s383
def chk (i : Nat) : Bool := decide ((escQ (i : Int)).map bs = some [92, 120, hexd ((i : Int) / 16), hexd ((i : Int) % 16)]) && decide (atS hexD (IntKind.wrap .u8 (Int.tdiv (i : Int) 16)) = some (hexd ((i : Int) / 16))) && decide (atS hexD (Int.tmod (i : Int) 16) = some (hexd ((i : Int) % 16)))
set_option maxRecDepth 100000 in
theorem chk_all : (List.range 256).all chk = true := by kernel_rfl
theorem chk_at {c : Int} (h0 : 0 ≤ c) (h1 : c < 256) : ∃ r, escQ c = some r ∧ bs r = [92, 120, hexd (c / 16), hexd (c % 16)] ∧ atS hexD (IntKind.wrap .u8 (Int.tdiv c 16)) = some (hexd (c / 16)) ∧ atS hexD (Int.tmod c 16) = some (hexd (c % 16)) := by
  have h := List.all_eq_true.1 chk_all c.toNat (List.mem_range.2 (by omega))
  have e : ((c.toNat : Nat) : Int) = c := by omega
  unfold chk at h
  rw [e] at h
  simp only [Bool.and_eq_true, decide_eq_true_eq] at h
  obtain ⟨⟨h1, h2⟩, h3⟩ := h
  cases hq : escQ c with
  | none => rw [hq] at h1; cases h1
  | some r => rw [hq] at h1; exact ⟨r, rfl, by simpa using h1, h2, h3⟩

theorem quote_loop (N : Nat) (s : ByteArray) (hs : s.size ≤ 1048576) : ∀ (k y m : Nat) (acc : List Int), s.size - y ≤ k → k < m → acc.length ≤ 4 * y + 1 → y ≤ s.size →
    gasmtext_quote_L1 N s m (y : Int) acc = some (acc ++ quoP ((bs s).drop y)) := by
  intro k
  induction k with
  | zero =>
    intro y m acc hk hm hacc hy
    obtain ⟨m, rfl⟩ : ∃ m', m = m' + 1 := ⟨m - 1, by omega⟩
    rw [gasmtext_quote_L1]
    have h1 : decide ((y : Int) < (s.size : Nat)) = false := by simp; omega
    have hlen := bs_length s
    rw [h1, List.drop_eq_nil_of_le (by omega)]
    simp [quoP]
  | succ k ih =>
    intro y m acc hk hm hacc hy
    obtain ⟨m, rfl⟩ : ∃ m', m = m' + 1 := ⟨m - 1, by omega⟩
    have hlen := bs_length s
    rw [gasmtext_quote_L1]
    rcases hl : (bs s).drop y with _ | ⟨c, r⟩
    · have := drop_nil_le hl
      have h1 : decide ((y : Int) < (s.size : Nat)) = false := by simp; omega
      rw [h1]; simp [quoP]
    obtain ⟨hc, hr, hlt⟩ := drop_cons_at hl
    have hbyte : 0 ≤ c ∧ c < 256 := bs_byte (List.mem_of_getElem? hc)
    have h1 : decide ((y : Int) < (s.size : Nat)) = true := by simp; omega
    have e : quoP (c :: r) = escP c ++ quoP r := by simp [quoP, List.flatMap_cons]
    rw [h1, atS_bs, hc, w64_succ (by omega), e]
    simp only [cond_true, Option.bind_some]
    have next : ∀ q : List Int, q.length ≤ 4 → gasmtext_quote_L1 N s m ((y + 1 : Nat) : Int) (acc ++ q) = some (acc ++ (q ++ quoP r)) := fun q hq => by
      rw [ih (y + 1) m (acc ++ q) (by omega) (by omega) (by simp; omega) (by omega), hr, List.append_assoc]
    show Option.bind (cond (bad c) _ _) _ = _
    unfold escP
    cases hb : bad c
    · simp only [cond_false, Bool.false_eq_true, if_false]
      rw [appL_ok (by simp; omega) (by omega)]
      exact next [c] (by simp)
    · simp only [cond_true, if_true]
      obtain ⟨q, hq, hq2, _, _⟩ := chk_at hbyte.1 hbyte.2
      obtain ⟨s1, e1, hq⟩ := bind_some hq
      obtain ⟨s2, e2, hq⟩ := bind_some hq
      obtain ⟨s3, e3, e4⟩ := bind_some hq
      unfold hexD at e1 e3
      rw [e1, Option.bind_some, e2, Option.bind_some, e3, Option.bind_some, e4, Option.bind_some, hq2, appL_ok (by simp; omega) (by omega)]
      exact next [92, 120, hexd (c / 16), hexd (c % 16)] (by simp)
theorem quote_eq (n : Nat) (s : ByteArray) (hs : s.size ≤ 1048576) (hn : s.size < n) : gasmtext_quote n s = some (ofB (34 :: (quoP (bs s) ++ [34]))) := by
  unfold gasmtext_quote
  rw [appL_ok (by simp) (by omega), Option.bind_some, show (0 : Int) = ((0 : Nat) : Int) from rfl, quote_loop n s hs s.size 0 n _ (by omega) hn (by simp) (by omega), Option.bind_some]
  have h1 := quoP_len (bs s)
  have h2 := bs_length s
  rw [appL_ok (by simp; omega) (by omega), Option.bind_some]
  unfold strT
  rw [if_pos (by simp; omega)]
  simp

theorem tokP_quo (t : TTok) : tokP t = if t.f_Kind = 3 then 34 :: (quoP (bs t.f_Text) ++ [34]) else bs t.f_Text := rfl
theorem join_loop (N : Nat) (l : List TTok) (hl : l.length ≤ 1048576) (hs : ∀ t ∈ l, t.f_Text.size ≤ 1048576) (hN : 1048576 < N) : ∀ (k y m : Nat) (acc : List ByteArray), l.length - y ≤ k → k < m → acc.length ≤ y → y ≤ l.length →
    gasmtext_Join_L1 N l m acc (y : Int) = some (acc ++ (l.drop y).map fun t => ofB (tokP t)) := by
  intro k
  induction k with
  | zero =>
    intro y m acc hk hm hacc hy
    obtain ⟨m, rfl⟩ : ∃ m', m = m' + 1 := ⟨m - 1, by omega⟩
    rw [gasmtext_Join_L1]
    have h1 : decide ((y : Int) < (l.length : Nat)) = false := by simp; omega
    rw [h1, List.drop_eq_nil_of_le (by omega)]
    simp
  | succ k ih =>
    intro y m acc hk hm hacc hy
    obtain ⟨m, rfl⟩ : ∃ m', m = m' + 1 := ⟨m - 1, by omega⟩
    rw [gasmtext_Join_L1]
    rcases Nat.lt_or_ge y l.length with hlt | hge
    · have h1 : decide ((y : Int) < (l.length : Nat)) = true := by simp; omega
      have hx : l[y]? = some l[y] := by simp [hlt]
      have hsz := hs l[y] (List.getElem_mem hlt)
      rw [h1, atL_nat, hx, w64_succ (by omega), List.drop_eq_getElem_cons hlt]
      simp only [cond_true, Option.bind_some, List.map_cons]
      have next : ∀ q : ByteArray, gasmtext_Join_L1 N l m (acc ++ [q]) ((y + 1 : Nat) : Int) = some (acc ++ (q :: (l.drop (y + 1)).map fun t => ofB (tokP t))) := fun q => by
        rw [ih (y + 1) m (acc ++ [q]) (by omega) (by omega) (by simp; omega) (by omega)]; simp
      rw [tokP_quo]
      by_cases h3 : l[y].f_Kind = 3
      · have : (l[y].f_Kind == 3) = true := by simpa using h3
        rw [this, if_pos h3]
        simp only [cond_true]
        rw [quote_eq N _ hsz (by omega), Option.bind_some, appL_ok (by simp; omega) (by omega)]
        exact next _
      · have : (l[y].f_Kind == 3) = false := by simpa using h3
        rw [this, if_neg h3]
        simp only [cond_false]
        rw [appL_ok (by simp; omega) (by omega), ofB_bs]
        exact next _
    · have h1 : decide ((y : Int) < (l.length : Nat)) = false := by simp; omega
      rw [h1, List.drop_eq_nil_of_le hge]
      simp
theorem lib_join : ∀ (l : List (List UInt8)) (m : List TTok), l.map (fun q => q.map fun b : UInt8 => (b.toNat : Int)) = m.map tokP → (Lib.join l [32]).map (fun b : UInt8 => (b.toNat : Int)) = joinP m
  | [], [], _ => rfl
  | [], _ :: _, h => by cases h
  | _ :: _, [], h => by cases h
  | [a], [t], h => by
    simp only [List.map_cons, List.map_nil, List.cons.injEq, and_true] at h
    show (List.flatten [a]).map _ = tokP t
    simpa using h
  | [_], _ :: _ :: _, h => by simp at h
  | _ :: _ :: _, [_], h => by simp at h
  | a :: b :: l, t :: u :: r, h => by
    have h' : a.map (fun b : UInt8 => (b.toNat : Int)) = tokP t ∧ (b :: l).map (fun q => q.map fun b : UInt8 => (b.toNat : Int)) = (u :: r).map tokP := by
      rw [List.map_cons, List.map_cons (f := tokP)] at h
      exact List.cons.inj h
    have := lib_join (b :: l) (u :: r) h'.2
    rw [joinP, ← this, ← h'.1]
    show (a ++ ([32] ++ Lib.join (b :: l) [32])).map _ = _
    simp
theorem tsize_mem {t : TTok} : ∀ {l : List TTok}, t ∈ l → t.f_Text.size ≤ tsize l
  | u :: l, h => by
    rcases List.mem_cons.1 h with rfl | h
    · simp only [tsize]; omega
    · have := tsize_mem h; simp only [tsize]; omega
theorem bs_map (s : ByteArray) : s.data.toList.map (fun b : UInt8 => (b.toNat : Int)) = bs s := rfl
theorem Join_eq (n : Nat) (l : List TTok) (hl : l.length ≤ 1048576) (hs : tsize l ≤ 1048576) (hn : 1048576 < n) (ht : ∀ t ∈ l, TokS t) : gasmtext_Join n l = some (ofB (joinP l)) := by
  unfold gasmtext_Join
  rw [show (0 : Int) = ((0 : Nat) : Int) from rfl, join_loop n l hl (fun t h => Nat.le_trans (tsize_mem h) hs) hn l.length 0 n [] (by omega) (by omega) (by simp) (by omega), Option.bind_some, List.nil_append, List.drop_zero]
  have hj : (Lib.join ((l.map fun t => ofB (tokP t)).map (·.data.toList)) [32]).map (fun b : UInt8 => (b.toNat : Int)) = joinP l := by
    refine lib_join _ l ?_
    rw [List.map_map, List.map_map]
    refine List.map_congr_left fun t h => ?_
    show bs (ofB (tokP t)) = tokP t
    exact bs_ofB (fun c hc => by have := tokP_ge t (ht t h) c hc; omega)
  have hlen : (Lib.join ((l.map fun t => ofB (tokP t)).map (·.data.toList)) [32]).length = (joinP l).length := by rw [← hj, List.length_map]
  have hjl := joinP_len l
  unfold joinT
  have e : (ByteArray.mk #[32]).data.toList = [32] := rfl
  rw [e, if_pos ⟨by simp; omega, by rw [hlen]; omega⟩, Option.bind_some]
  congr 1
  refine bs_inj ?_
  rw [bs_ofB (fun c hc => by have := joinP_ge l ht c hc; omega), ← hj]
  rfl

/-! the reference's -/
theorem refQuote_loop (N : Nat) (t : TTok) (hs : t.f_Text.size ≤ 1048576) : ∀ (k y m : Nat) (acc : List Int), t.f_Text.size - y ≤ k → k < m → acc.length + 4 * (t.f_Text.size - y) ≤ 6000000 → y ≤ t.f_Text.size →
    gdovetailref13_Join_L2 N t m acc (y : Int) = some (acc ++ quoP ((bs t.f_Text).drop y)) := by
  intro k
  induction k with
  | zero =>
    intro y m acc hk hm hacc hy
    obtain ⟨m, rfl⟩ : ∃ m', m = m' + 1 := ⟨m - 1, by omega⟩
    rw [gdovetailref13_Join_L2]
    have h1 : decide ((y : Int) < (t.f_Text.size : Nat)) = false := by simp; omega
    have hlen := bs_length t.f_Text
    rw [h1, List.drop_eq_nil_of_le (by omega)]
    simp [quoP]
  | succ k ih =>
    intro y m acc hk hm hacc hy
    obtain ⟨m, rfl⟩ : ∃ m', m = m' + 1 := ⟨m - 1, by omega⟩
    have hlen := bs_length t.f_Text
    rw [gdovetailref13_Join_L2]
    rcases hl : (bs t.f_Text).drop y with _ | ⟨c, r⟩
    · have := drop_nil_le hl
      have h1 : decide ((y : Int) < (t.f_Text.size : Nat)) = false := by simp; omega
      rw [h1]; simp [quoP]
    obtain ⟨hc, hr, hlt⟩ := drop_cons_at hl
    have hbyte : 0 ≤ c ∧ c < 256 := bs_byte (List.mem_of_getElem? hc)
    have h1 : decide ((y : Int) < (t.f_Text.size : Nat)) = true := by simp; omega
    have e : quoP (c :: r) = escP c ++ quoP r := by simp [quoP, List.flatMap_cons]
    rw [h1, atS_bs, hc, w64_succ (by omega), e]
    simp only [cond_true, Option.bind_some]
    have next : ∀ q : List Int, q.length ≤ 4 → gdovetailref13_Join_L2 N t m (acc ++ q) ((y + 1 : Nat) : Int) = some (acc ++ (q ++ quoP r)) := fun q hq => by
      rw [ih (y + 1) m (acc ++ q) (by omega) (by omega) (by simp; omega) (by omega), hr, List.append_assoc]
    show Option.bind (cond (bad c) _ _) _ = _
    unfold escP
    cases hb : bad c
    · simp only [cond_false, Bool.false_eq_true, if_false]
      rw [appL_ok (by simp; omega) (by omega)]
      exact next [c] (by simp)
    · simp only [cond_true, if_true]
      obtain ⟨_, _, _, e1, e2⟩ := chk_at hbyte.1 hbyte.2
      unfold hexD at e1 e2
      rw [e1, Option.bind_some, e2, Option.bind_some, appL_ok (by simp; omega) (by omega)]
      exact next [92, 120, hexd (c / 16), hexd (c % 16)] (by simp)
def tailP (l : List TTok) : List Int := l.flatMap fun t => 32 :: tokP t
theorem joinP_tail : ∀ (t : TTok) (l : List TTok), joinP (t :: l) = tokP t ++ tailP l
  | t, [] => by simp [joinP, tailP]
  | t, u :: r => by
    rw [joinP, joinP_tail u r]
    simp [tailP, List.flatMap_cons]
theorem refTok (N : Nat) (t : TTok) (hs : t.f_Text.size ≤ 1048576) (hN : 1048576 < N) (acc : List Int) (ha : acc.length + 4 * t.f_Text.size ≤ 5900000) :
    (cond (t.f_Kind != 3) (((appL 1 acc (bs t.f_Text)).bind fun l2309 => some l2309)) (((appL 1 acc ([34] : List Int)).bind fun l2318 => ((gdovetailref13_Join_L2 N t N l2318 0).bind fun x2575 => ((appL 1 x2575 ([34] : List Int)).bind fun l2712 => some l2712)))) : Option (List Int)) = some (acc ++ tokP t) := by
  have h2 := bs_length t.f_Text
  have h4 := quoP_len (bs t.f_Text)
  rw [tokP_quo]
  by_cases h3 : t.f_Kind = 3
  · have : (t.f_Kind != 3) = false := by simpa using h3
    rw [this, if_pos h3]
    simp only [cond_false]
    rw [appL_ok (by simp; omega) (by omega), Option.bind_some, show (0 : Int) = ((0 : Nat) : Int) from rfl, refQuote_loop N t hs t.f_Text.size 0 N _ (by omega) (by omega) (by simp; omega) (by omega), Option.bind_some, List.drop_zero, appL_ok (by simp; omega) (by omega)]
    simp
  · have : (t.f_Kind != 3) = true := by simpa using h3
    rw [this, if_neg h3]
    simp only [cond_true]
    rw [appL_ok (by omega) (by omega)]
    rfl
theorem tsize_drop (l : List TTok) (y : Nat) (h : y < l.length) : tsize (l.drop y) = l[y].f_Text.size + tsize (l.drop (y + 1)) := by
  rw [List.drop_eq_getElem_cons h]; rfl
theorem refJoin_loop (N : Nat) (l : List TTok) (hs : ∀ t ∈ l, t.f_Text.size ≤ 1048576) (hN : 1048576 < N) : ∀ (k y m : Nat) (acc : List Int), l.length - y ≤ k → k < m → acc.length + 4 * tsize (l.drop y) + 3 * (l.length - y) ≤ 5000000 → y ≤ l.length → l.length ≤ 64 → 0 < y →
    gdovetailref13_Join_L1 N l m acc (y : Int) = some (acc ++ tailP (l.drop y)) := by
  intro k
  induction k with
  | zero =>
    intro y m acc hk hm hacc hy hl h0
    obtain ⟨m, rfl⟩ : ∃ m', m = m' + 1 := ⟨m - 1, by omega⟩
    rw [gdovetailref13_Join_L1]
    have h1 : decide ((y : Int) < (l.length : Nat)) = false := by simp; omega
    rw [h1, List.drop_eq_nil_of_le (by omega)]
    simp [tailP]
  | succ k ih =>
    intro y m acc hk hm hacc hy hl h0
    obtain ⟨m, rfl⟩ : ∃ m', m = m' + 1 := ⟨m - 1, by omega⟩
    rw [gdovetailref13_Join_L1]
    rcases Nat.lt_or_ge y l.length with hlt | hge
    · have h1 : decide ((y : Int) < (l.length : Nat)) = true := by simp; omega
      have hx : l[y]? = some l[y] := by simp [hlt]
      have hsz := hs l[y] (List.getElem_mem hlt)
      have h2 : decide ((y : Int) > 0) = true := by simp; omega
      have h3 := tsize_drop l y hlt
      have h4 := tokP_len l[y]
      rw [h1, atL_nat, hx, w64_succ (by omega)]
      simp only [cond_true, Option.bind_some]
      rw [h2]
      simp only [cond_true]
      rw [appL_ok (by simp; omega) (by omega)]
      simp only [Option.bind_some]
      have e := refTok N l[y] hsz hN (acc ++ [32]) (by simp; omega)
      rw [e, Option.bind_some, ih (y + 1) m _ (by omega) (by omega) (by simp; omega) (by omega) hl (by omega), List.drop_eq_getElem_cons hlt]
      simp only [tailP, List.flatMap_cons, List.append_assoc, List.cons_append, List.nil_append]
    · have h1 : decide ((y : Int) < (l.length : Nat)) = false := by simp; omega
      rw [h1, List.drop_eq_nil_of_le hge]
      simp [tailP]
theorem refJoin_eq (n : Nat) (l : List TTok) (hl : l.length ≤ 64) (hs : tsize l ≤ 1048576) (hn : 1048576 < n) : gdovetailref13_Join n l = some (ofB (joinP l)) := by
  unfold gdovetailref13_Join
  have hs' : ∀ t ∈ l, t.f_Text.size ≤ 1048576 := fun t h => Nat.le_trans (tsize_mem h) hs
  obtain ⟨m, rfl⟩ : ∃ m', n = m' + 1 := ⟨n - 1, by omega⟩
  suffices h : gdovetailref13_Join_L1 (m + 1) l (m + 1) [] 0 = some (joinP l) by rw [h]; rfl
  rw [gdovetailref13_Join_L1]
  rcases l with _ | ⟨t, r⟩
  · rfl
  have h1 : decide ((0 : Int) < (((t :: r).length : Nat) : Int)) = true := by simp only [List.length_cons, decide_eq_true_eq]; omega
  have h2 := hs' t (List.mem_cons_self ..)
  have h3 : tsize (t :: r) = t.f_Text.size + tsize r := rfl
  have h4 := tokP_len t
  have hx : atL (t :: r) 0 = some t := rfl
  rw [h1, hx]
  simp only [cond_true, Option.bind_some]
  rw [show decide ((0 : Int) > 0) = false from rfl]
  simp only [cond_false, Option.bind_some]
  have e := refTok (m + 1) t h2 hn [] (by simp; omega)
  rw [e, Option.bind_some, show IntKind.wrap .i64 ((0 : Int) + 1) = ((1 : Nat) : Int) from rfl, refJoin_loop (m + 1) (t :: r) hs' hn r.length 1 m _ (by simp) (by simp at hl; omega) (by simp only [List.length_cons, List.nil_append, List.drop_succ_cons, List.drop_zero] at hl ⊢; omega) (by simp) hl (by omega), joinP_tail]
  simp

theorem words_law (s : ByteArray) (hs : s.size ≤ 1048576) : gdovetaillaw13_AsmtextWords 8000000 s = some true := by
  unfold gdovetaillaw13_AsmtextWords
  have ha := alive_eq 7999900
  rw [show 7999900 + 100 = 8000000 from rfl] at ha
  rw [ha, refWords_eq 8000000 s (by omega) (by omega), words_eq 8000000 s (by omega) (by omega)]
  simp only [Option.bind_some, Bool.not_true, cond_false]
  obtain ⟨x, e, hx⟩ : ∃ x e, wordsS (bs s) = (x, e) := ⟨_, _, rfl⟩
  have hw := hx
  unfold wordsS at hw
  rw [hx]
  have hlen : x.length ≤ 64 := by
    split at hw
    · cases hw; simp
    split at hw
    · cases hw; simp
    split at hw
    · cases hw; simp
    · cases hw; omega
  have hne : (e != e) = false := by simp
  simp only [hne, cond_false]
  rw [sameToks_refl 8000000 x (by omega) (by omega)]
  simp only [Option.bind_some, Bool.not_true, cond_false]
  by_cases h0 : e = 0
  · subst h0
    simp only [bne_self_eq_false, cond_false]
    have ht : toksS (bs s) [] = .out x := by
      split at hw
      · cases hw
      split at hw
      · cases hw
      split at hw
      · cases hw
      · rename_i hq _; cases hw; exact hq
    obtain ⟨hso, hsz⟩ := toksS_sound (bs s).length (bs s) [] x (Nat.le_refl _) (fun c hc => bs_byte hc) (by simp) ht
    have hbl := bs_length s
    have hsz' : tsize x ≤ 1048576 := by simp only [tsize] at hsz; omega
    have hjl := joinP_len x
    have hb : bs (ofB (joinP x)) = joinP x := bs_ofB (fun c hc => by have := joinP_ge x hso c hc; omega)
    have hz : (ofB (joinP x)).size = (joinP x).length := by rw [← bs_length, hb]
    rw [Join_eq 8000000 x (by omega) hsz' (by omega) hso, refJoin_eq 8000000 x hlen hsz' (by omega)]
    simp only [Option.bind_some]
    rw [words_eq 8000000 _ (by omega) (by omega), hb, wordsS_join x hso hlen]
    simp only [Option.bind_some, decide_true, beq_self_eq_true, Bool.and_self, cond_true]
    rw [sameToks_refl 8000000 x (by omega) (by omega)]
    rfl
  · have : (e != 0) = true := by simpa using h0
    rw [this]
    rfl
end Go.DM
namespace Go.DM
open Go

/-! what Parse gives -/
def linesS : List (List Int) → Nat → List TLine → LR (List TLine) (List TLine × Int × Int)
  | [], _, acc => .out acc
  | l :: r, y, acc => if (wordsS l).2 = 0 then
      (if 0 < (labsS (wordsS l).1 []).2.length + (labsS (wordsS l).1 []).1.length then linesS r (y + 1) (acc ++ [⟨((y + 1 : Nat) : Int), (labsS (wordsS l).1 []).2, (labsS (wordsS l).1 []).1⟩]) else linesS r (y + 1) acc)
    else .ret ([], ((y + 1 : Nat) : Int), (wordsS l).2)
theorem linesS_loop (n : Nat) (ls : List (List Int)) (hb : ∀ l ∈ ls, ∀ c ∈ l, 0 ≤ c ∧ c < 256) (hlen : ls.length ≤ 16384) (hr : ∀ l ∈ ls, l.length ≤ 1048576) (hn : 1048576 + 10 < n) : ∀ (k y m : Nat) (acc : List TLine), ls.length - y ≤ k → k < m → acc.length ≤ y → y ≤ ls.length →
    gasmtext_Parse_L1 n (ls.map ofB) m acc (y : Int) = some (linesS (ls.drop y) y acc) := by
  intro k
  induction k with
  | zero =>
    intro y m acc hk hm hacc hy
    obtain ⟨m, rfl⟩ : ∃ m', m = m' + 1 := ⟨m - 1, by omega⟩
    rw [gasmtext_Parse_L1]
    have h1 : decide ((y : Int) < (((ls.map ofB).length : Nat) : Int)) = false := by simp; omega
    rw [h1, List.drop_eq_nil_of_le (by omega)]
    rfl
  | succ k ih =>
    intro y m acc hk hm hacc hy
    obtain ⟨m, rfl⟩ : ∃ m', m = m' + 1 := ⟨m - 1, by omega⟩
    rw [gasmtext_Parse_L1]
    by_cases hlt : y < ls.length
    · have h1 : decide ((y : Int) < (((ls.map ofB).length : Nat) : Int)) = true := by simp; omega
      have hbs := bs_ofB (hb ls[y] (List.getElem_mem hlt))
      have hsz : (ofB ls[y]).size ≤ 1048576 := by rw [← bs_length, hbs]; exact hr _ (List.getElem_mem hlt)
      have hat : (ls.map ofB)[y]? = some (ofB ls[y]) := by simp [hlt]
      rw [h1, atL_nat, hat, List.drop_eq_getElem_cons hlt, linesS]
      simp only [cond_true, Option.bind_some]
      rw [words_eq n _ (Nat.le_trans hsz (by decide)) (by omega), w64_succ (by omega)]
      rcases hw : wordsS (bs (ofB ls[y])) with ⟨x, e⟩
      have hw2 := hw
      rw [hbs] at hw2
      rw [hw2]
      simp only [Option.bind_some]
      by_cases he : e = 0
      · have : (e != 0) = false := by simpa using he
        rw [this, if_pos he]
        simp only [cond_false]
        obtain ⟨hx1, hx2⟩ := wordsS_ok hw he
        obtain ⟨g1, g2, g3⟩ := labs_loops n (ofB ls[y]).size hsz (by omega) x.length x [] n (Nat.le_refl _) (by omega) (by simp; omega) hx2
        rw [g2]
        rcases hL : labsS x [] with ⟨t, b⟩
        rw [hL] at g3
        simp only [List.length_nil, Nat.add_zero] at g3
        simp only [Option.bind_some]
        have e2 : (decide (((b.length : Nat) : Int) > 0) || decide (((t.length : Nat) : Int) > 0)) = decide (0 < b.length + t.length) := by
          by_cases hb : 0 < b.length
          · have q1 : decide (((b.length : Nat) : Int) > 0) = true := by simp; omega
            have q2 : decide (0 < b.length + t.length) = true := by simp; omega
            rw [q1, q2]; rfl
          · have q1 : decide (((b.length : Nat) : Int) > 0) = false := decide_eq_false (by omega)
            rw [q1, Bool.false_or]
            congr 1
            exact propext ⟨fun h => by omega, fun h => by omega⟩
        rw [e2]
        have app : appL 56 acc [TLine.mk ((y + 1 : Nat) : Int) b t] = some (acc ++ [TLine.mk ((y + 1 : Nat) : Int) b t]) := appL_ok (by simp; omega) (by omega)
        rw [app]
        by_cases hp : 0 < b.length + t.length
        · rw [if_pos hp, decide_eq_true hp]
          simp only [cond_true, Option.bind_some]
          exact ih (y + 1) m _ (by omega) (by omega) (by simp; omega) (by omega)
        · rw [if_neg hp, decide_eq_false hp]
          simp only [cond_false, Option.bind_some]
          exact ih (y + 1) m acc (by omega) (by omega) (by omega) (by omega)
      · have : (e != 0) = true := by simpa using he
        rw [this, if_neg he]
        rfl
    · have h1 : decide ((y : Int) < (((ls.map ofB).length : Nat) : Int)) = false := by simp; omega
      rw [h1, List.drop_eq_nil_of_le (by omega)]
      rfl
theorem finS_bytes : ∀ (l cur : List Int), (∀ c ∈ l, 0 ≤ c ∧ c < 256) → (∀ c ∈ cur, 0 ≤ c ∧ c < 256) → ∀ x ∈ finS l cur, ∀ c ∈ x, 0 ≤ c ∧ c < 256
  | [], cur, _, h, x, hx, c, hc => by
    unfold finS at hx
    split at hx
    · cases hx
    · rw [List.mem_singleton] at hx; subst hx; exact h c hc
  | d :: l, cur, hl, h, x, hx, c, hc => by
    rw [finS] at hx
    have hl' : ∀ c ∈ l, 0 ≤ c ∧ c < 256 := fun c h => hl c (List.mem_cons_of_mem _ h)
    split at hx
    · rcases List.mem_cons.1 hx with rfl | hx
      · exact h c hc
      · exact finS_bytes l [] hl' (fun c h => by simp at h) x hx c hc
    · refine finS_bytes l _ hl' (fun c h' => ?_) x hx c hc
      rcases List.mem_append.1 h' with h' | h'
      · exact h c h'
      · rw [List.mem_singleton] at h'; subst h'; exact hl _ (List.mem_cons_self ..)
/-- Parse, as a value -/
def parseS (l : List Int) : List TLine × Int × Int :=
  if 262144 < l.length then ([], 0, 133) else if 16384 < (finS l []).length then ([], 0, 133) else
    match linesS (finS l []) 0 [] with
    | .out x => (x, 0, 0)
    | .ret r => r
theorem parse_val (n : Nat) (s : ByteArray) (hn : 1048576 + 10 < n) : gasmtext_Parse n s = some (parseS (bs s)) := by
  unfold gasmtext_Parse parseS
  have hbl := bs_length s
  by_cases hs : s.size > 262144
  · have : decide (((s.size : Nat) : Int) > 262144) = true := by simp; omega
    rw [this, if_pos (by omega)]; rfl
  have : decide (((s.size : Nat) : Int) > 262144) = false := by simp; omega
  rw [this, if_neg (by omega), lines_eq n s (by omega)]
  simp only [cond_false, Option.bind_some]
  by_cases hl : 16384 < (finS (bs s) []).length
  · have : decide (((((finS (bs s) []).map ofB).length : Nat) : Int) > 16384) = true := by simp; omega
    rw [this, if_pos hl]; rfl
  have : decide (((((finS (bs s) []).map ofB).length : Nat) : Int) > 16384) = false := by simp; omega
  rw [this, if_neg hl]
  simp only [cond_false]
  have h := linesS_loop n (finS (bs s) []) (finS_bytes _ _ (fun c hc => bs_byte hc) (by simp)) (by omega)
    (fun l hl => by have := finS_each 262144 (bs s) [] (by simp [bs_length]; omega) l hl; omega) hn (finS (bs s) []).length 0 n [] (by omega) (by omega) (by simp) (by omega)
  rw [show ((0 : Nat) : Int) = 0 from rfl, List.drop_zero] at h
  rw [h]
  cases linesS (finS (bs s) []) 0 [] <;> rfl

/-! lines that may be printed -/
def nameB (s : ByteArray) : Bool := (bs s).all inW && (!(bs s).isEmpty) && (!digB ((bs s).headD 0))
/-- a sound line behind line number a -/
structure LineR (x : TLine) : Prop where
  lo : 0 < x.f_No
  some : 0 < x.f_Labels.length + x.f_Toks.length
  names : ∀ s ∈ x.f_Labels, nameB s = true
  toks : ∀ t ∈ x.f_Toks, TokS t
  free : labS x.f_Toks = false
def labP (s : ByteArray) : List Int := bs s ++ [58, 32]
def lineP (x : TLine) : List Int := x.f_Labels.flatMap labP ++ joinP x.f_Toks
def colon : TTok := ⟨2, ofB [58]⟩
def labT : List ByteArray → List TTok
  | [] => []
  | s :: r => ⟨1, s⟩ :: colon :: labT r
theorem nameB_iff {s : ByteArray} (h : nameB s = true) : (∀ c ∈ bs s, inW c = true) ∧ bs s ≠ [] ∧ digB ((bs s).headD 0) = false := by
  unfold nameB at h
  simp only [Bool.and_eq_true, List.all_eq_true, Bool.not_eq_true'] at h
  exact ⟨h.1.1, fun e => by rw [e] at h; simp at h, h.2⟩
theorem toksS_labs : ∀ (l : List ByteArray) (r : List Int) (acc : List TTok), (∀ s ∈ l, nameB s = true) → toksS (l.flatMap labP ++ r) acc = toksS r (acc ++ labT l)
  | [], r, acc, _ => by simp [labT]
  | s :: l, r, acc, h => by
    obtain ⟨h1, h2, h3⟩ := nameB_iff (h s (List.mem_cons_self ..))
    have e : (s :: l).flatMap labP ++ r = tokP ⟨1, s⟩ ++ (tokP colon ++ (32 :: (l.flatMap labP ++ r))) := by
      have : tokP colon = [58] := rfl
      rw [this]
      simp [labP, tokP, List.flatMap_cons]
    have c1 : bs (ofB [58]) = [58] := rfl
    rw [e, toksS_tok ⟨1, s⟩ ⟨fun c hc => bs_byte hc, .inr (.inr ⟨rfl, h2, h1⟩)⟩ (tokP colon ++ 32 :: (l.flatMap labP ++ r)) (.inr ⟨58, 32 :: (l.flatMap labP ++ r), rfl, by decide⟩) acc,
      toksS_tok colon ⟨fun c hc => bs_byte hc, .inr (.inl ⟨rfl, 58, c1, by decide⟩)⟩ (32 :: (l.flatMap labP ++ r)) (.inr ⟨32, l.flatMap labP ++ r, rfl, by decide⟩) _, toksS_sp,
      toksS_labs l r _ (fun s hs => h s (List.mem_cons_of_mem _ hs))]
    simp [labT]
theorem labT_len : ∀ l : List ByteArray, (labT l).length = 2 * l.length
  | [] => rfl
  | s :: l => by simp only [labT, List.length_cons, labT_len l]; omega
theorem labsS_labT : ∀ (l : List ByteArray) (t : List TTok) (acc : List ByteArray), (∀ s ∈ l, nameB s = true) → labS t = false → labsS (labT l ++ t) acc = (t, acc ++ l)
  | [], t, acc, _, ht => by
    rw [labT, List.nil_append]
    rcases t with _ | ⟨a, _ | ⟨b, t⟩⟩
    · rw [labsS]; simp; intro a b r h; cases h
    · rw [labsS]; simp; intro a b r h; cases h
    · rw [labsS, if_neg (by rw [ht]; decide), List.append_nil]
  | s :: l, t, acc, h, ht => by
    obtain ⟨h1, h2, h3⟩ := nameB_iff (h s (List.mem_cons_self ..))
    have e : labT (s :: l) ++ t = ⟨1, s⟩ :: colon :: (labT l ++ t) := by simp [labT]
    have e2 : labS (⟨1, s⟩ :: colon :: (labT l ++ t)) = true := by
      simp only [labS, h3]
      rfl
    rw [e, labsS, if_pos e2, labsS_labT l t _ (fun s hs => h s (List.mem_cons_of_mem _ hs)) ht]
    simp
theorem labP_ge {s : ByteArray} (h : nameB s = true) : ∀ c ∈ labP s, 32 ≤ c ∧ c ≤ 126 := by
  intro c hc
  obtain ⟨h1, h2, h3⟩ := nameB_iff h
  simp only [labP, List.mem_append, List.mem_cons, List.not_mem_nil, or_false] at hc
  rcases hc with hc | rfl | rfl
  · have := (inW_iff c).1 (h1 c hc); omega
  · omega
  · omega
theorem lineP_ge {x : TLine} (h : LineR x) : ∀ c ∈ lineP x, 32 ≤ c ∧ c ≤ 126 := by
  intro c hc
  rcases List.mem_append.1 hc with hc | hc
  · obtain ⟨s, hs, hc⟩ := List.mem_flatMap.1 hc
    exact labP_ge (h.names s hs) c hc
  · exact joinP_ge _ h.toks c hc
theorem words_line {x : TLine} (h : LineR x) (hm : 2 * x.f_Labels.length + x.f_Toks.length ≤ 64) : wordsS (lineP x) = (labT x.f_Labels ++ x.f_Toks, 0) := by
  unfold wordsS
  rw [if_neg (by
    intro hc
    have := lineP_ge h 10 (by simpa using hc)
    omega)]
  unfold lineP
  rw [toksS_labs _ _ _ h.names, toksS_join _ _ h.toks]
  simp only [List.nil_append]
  rw [if_neg (by rw [List.length_append, labT_len]; omega)]

/-- lines behind line number a, as a text of lines: the empty ones too -/
def linesL : Nat → List TLine → List (List Int)
  | _, [] => []
  | a, x :: r => List.replicate (x.f_No.toNat - a - 1) [] ++ lineP x :: linesL x.f_No.toNat r
def Rise : Nat → List TLine → Prop
  | _, [] => True
  | a, x :: r => LineR x ∧ (a : Int) < x.f_No ∧ x.f_No ≤ 16384 ∧ Rise x.f_No.toNat r
def Few (l : List TLine) : Prop := ∀ x ∈ l, 2 * x.f_Labels.length + x.f_Toks.length ≤ 64
theorem wordsS_nil : wordsS [] = ([], 0) := by
  unfold wordsS
  rw [if_neg (by simp), toksS_nil]; rfl
theorem labsS_nil : labsS [] [] = ([], []) := by rw [labsS]; intro a b r h; cases h
theorem linesS_gap : ∀ (g : Nat) (r : List (List Int)) (y : Nat) (acc : List TLine), linesS (List.replicate g [] ++ r) y acc = linesS r (y + g) acc
  | 0, r, y, acc => by simp
  | g + 1, r, y, acc => by
    rw [List.replicate_succ, List.cons_append, linesS, wordsS_nil, if_pos rfl, labsS_nil, if_neg (by simp), linesS_gap g]
    congr 1; omega
theorem linesS_lines : ∀ (l : List TLine) (a : Nat) (acc : List TLine), Rise a l → Few l → linesS (linesL a l) a acc = .out (acc ++ l)
  | [], a, acc, _, _ => by simp [linesL, linesS]
  | x :: r, a, acc, h, hf => by
    obtain ⟨h1, h2, h3, h4⟩ := h
    have hw := words_line h1 (hf x (List.mem_cons_self ..))
    have hL := labsS_labT x.f_Labels x.f_Toks [] h1.names h1.free
    rw [List.nil_append] at hL
    have hno : ((a + (x.f_No.toNat - a - 1) + 1 : Nat) : Int) = x.f_No := by omega
    have hno' : a + (x.f_No.toNat - a - 1) + 1 = x.f_No.toNat := by omega
    rw [linesL, linesS_gap, linesS, hw]
    simp only [if_true]
    rw [hL]
    simp only
    rw [if_pos h1.some, hno, hno', linesS_lines r _ _ h4 (fun y hy => hf y (List.mem_cons_of_mem _ hy))]
    simp
theorem linesL_len : ∀ (l : List TLine) (a : Nat), Rise a l → a ≤ 16384 → (linesL a l).length + a ≤ 16384
  | [], a, _, ha => by simp [linesL]; omega
  | x :: r, a, h, ha => by
    obtain ⟨h1, h2, h3, h4⟩ := h
    have := linesL_len r _ h4 (by omega)
    simp only [linesL, List.length_append, List.length_replicate, List.length_cons]
    omega
/-! the text -/
def bodyP : Nat → List TLine → List Int
  | _, [] => []
  | a, x :: r => List.replicate (x.f_No.toNat - a) 10 ++ lineP x ++ bodyP x.f_No.toNat r
def printP (l : List TLine) : List Int := bodyP 1 l ++ if l = [] then [] else [10]
theorem finS_gap : ∀ (g : Nat) (r : List Int), finS (List.replicate g 10 ++ r) [] = List.replicate g [] ++ finS r []
  | 0, r => by simp
  | g + 1, r => by
    rw [List.replicate_succ, List.cons_append, finS, if_pos rfl, finS_gap g, List.replicate_succ, List.cons_append]
theorem finS_hit : ∀ (a r cur : List Int), (10 : Int) ∉ a → finS (a ++ 10 :: r) cur = (cur ++ a) :: finS r []
  | [], r, cur, _ => by simp [finS]
  | c :: a, r, cur, h => by
    have h1 : ¬ c = 10 := fun e => h (by simp [e])
    rw [List.cons_append, finS, if_neg h1, finS_hit a r _ (fun e => h (List.mem_cons_of_mem _ e))]
    simp
theorem finS_body : ∀ (r : List TLine) (x : TLine) , LineR x → Rise x.f_No.toNat r → finS (lineP x ++ (bodyP x.f_No.toNat r ++ [10])) [] = lineP x :: linesL x.f_No.toNat r
  | [], x, h, _ => by
    have h10 : (10 : Int) ∉ lineP x := fun e => by have := lineP_ge h 10 e; omega
    rw [bodyP, List.nil_append, finS_hit _ _ _ h10]
    simp [finS, linesL]
  | y :: r, x, h, hr => by
    obtain ⟨h1, h2, h3, h4⟩ := hr
    have hlo := h.lo
    have h10 : (10 : Int) ∉ lineP x := fun e => by have := lineP_ge h 10 e; omega
    obtain ⟨g, hg⟩ : ∃ g, y.f_No.toNat - x.f_No.toNat = g + 1 := ⟨y.f_No.toNat - x.f_No.toNat - 1, by omega⟩
    have hg' : y.f_No.toNat - x.f_No.toNat - 1 = g := by omega
    rw [bodyP, hg, List.replicate_succ, linesL, hg']
    simp only [List.cons_append, List.append_assoc]
    rw [finS_hit _ _ _ h10, finS_gap, finS_body r y h1 h4]
    rfl
theorem finS_print (l : List TLine) (h : Rise 0 l) : finS (printP l) [] = linesL 0 l := by
  rcases l with _ | ⟨x, r⟩
  · rfl
  obtain ⟨h1, h2, h3, h4⟩ := h
  have hg : x.f_No.toNat - 0 - 1 = x.f_No.toNat - 1 := by omega
  unfold printP
  rw [if_neg (by simp), bodyP, linesL, hg]
  simp only [List.append_assoc]
  rw [finS_gap, finS_body r x h1 h4]
theorem parse_print (l : List TLine) (h : Rise 0 l) (hf : Few l) (hz : (printP l).length ≤ 262144) : parseS (printP l) = (l, 0, 0) := by
  unfold parseS
  have h1 := linesL_len l 0 h (by omega)
  rw [if_neg (by omega), finS_print l h, if_neg (by omega), linesS_lines l 0 [] h hf]
  rfl
end Go.DM
namespace Go.DM
open Go

/-! sound tokens -/
theorem decode_lt {s : ByteArray} {i : Nat} {c : Int} (h : (bs s)[i]? = some c) (hc : c < 128) : Utf8.decode s i = (c.toNat, 1) := by
  have hlt := (List.getElem?_eq_some_iff.1 h).1
  rw [bs_length] at hlt
  have hg : ((s.get! (i + 0)).toNat : Int) = c := by
    obtain ⟨⟨l⟩⟩ := s
    simp only [bs, List.getElem?_map, Option.map_eq_some_iff] at h
    obtain ⟨b, hb, rfl⟩ := h
    have : (ByteArray.mk ⟨l⟩).get! (i + 0) = b := by
      show (⟨l⟩ : Array UInt8)[i + 0]! = b
      simp at hb ⊢
      rw [hb]; rfl
    rw [this]
  unfold Utf8.decode
  simp only
  rw [if_pos (by omega)]
  congr 1; omega
theorem decode_ge {s : ByteArray} {i : Nat} {c : Int} (h : (bs s)[i]? = some c) (hc : 128 ≤ c) : 128 ≤ (Utf8.decode s i).1 := by
  have hlt := (List.getElem?_eq_some_iff.1 h).1
  rw [bs_length] at hlt
  have hg : ((s.get! (i + 0)).toNat : Int) = c := by
    obtain ⟨⟨l⟩⟩ := s
    simp only [bs, List.getElem?_map, Option.map_eq_some_iff] at h
    obtain ⟨b, hb, rfl⟩ := h
    have : (ByteArray.mk ⟨l⟩).get! (i + 0) = b := by
      show (⟨l⟩ : Array UInt8)[i + 0]! = b
      simp at hb ⊢
      rw [hb]; rfl
    rw [this]
  unfold Utf8.decode
  simp only
  rw [if_neg (by omega)]
  have hre : 128 ≤ Utf8.runeError := by decide
  split
  · split
    · simp only; omega
    · exact hre
  split
  · split
    · rename_i hh; rw [Bool.and_eq_true, decide_eq_true_eq] at hh; simp only; omega
    · exact hre
  split
  · split
    · rename_i hh; rw [Bool.and_eq_true, decide_eq_true_eq] at hh; simp only; omega
    · exact hre
  · exact hre
theorem sound1_eq (n : Nat) (c : Int) (h0 : 0 ≤ c) : gasmtext_sound_1 n c = some (decide (c > 126) || !inW (IntKind.wrap .u8 c)) := by
  unfold gasmtext_sound_1
  rw [word_eq]
  cases decide (c > 126) <;> rfl
theorem idx_loop (N : Nat) (s : ByteArray) : ∀ (k y m : Nat), s.size - y ≤ k → k < m → y ≤ s.size →
    ∃ v, gstrings_indexFunc_62_L1 N s true m y = some v ∧ (((bs s).drop y).all inW = true → v = .out ()) ∧ (((bs s).drop y).all inW = false → ∃ j : Nat, v = .ret ((j : Nat) : Int)) := by
  intro k
  induction k with
  | zero =>
    intro y m hk hm hy
    obtain ⟨m, rfl⟩ : ∃ m', m = m' + 1 := ⟨m - 1, by omega⟩
    have hlen := bs_length s
    rw [gstrings_indexFunc_62_L1]
    have h1 : decide (y < s.size) = false := by simp; omega
    rw [h1, List.drop_eq_nil_of_le (by omega)]
    exact ⟨_, rfl, fun _ => rfl, fun h => by simp at h⟩
  | succ k ih =>
    intro y m hk hm hy
    obtain ⟨m, rfl⟩ : ∃ m', m = m' + 1 := ⟨m - 1, by omega⟩
    have hlen := bs_length s
    rw [gstrings_indexFunc_62_L1]
    rcases hl : (bs s).drop y with _ | ⟨c, r⟩
    · have := drop_nil_le hl
      have h1 : decide (y < s.size) = false := by simp; omega
      rw [h1]
      exact ⟨_, rfl, fun _ => rfl, fun h => by simp at h⟩
    obtain ⟨hc, hr, hlt⟩ := drop_cons_at hl
    have hbyte : 0 ≤ c ∧ c < 256 := bs_byte (List.mem_of_getElem? hc)
    have h1 : decide (y < s.size) = true := by simp; omega
    rw [h1]
    simp only [cond_true]
    by_cases h8 : c < 128
    · rw [decode_lt hc h8]
      simp only
      have hcc : ((c.toNat : Nat) : Int) = c := by omega
      rw [hcc, sound1_eq N c hbyte.1, wrap_u8 (by omega) (by omega)]
      simp only [Option.bind_some]
      cases hw : inW c
      · have : ((decide (c > 126) || !false) == true) = true := by simp
        rw [this]
        refine ⟨_, rfl, fun h => ?_, fun _ => ⟨y, rfl⟩⟩
        rw [List.all_cons, hw] at h; cases h
      · have h126 := (inW_iff c).1 hw
        have : ((decide (c > 126) || !true) == true) = false := by simp; omega
        rw [this]
        simp only [cond_false]
        obtain ⟨v, g1, g2, g3⟩ := ih (y + 1) m (by omega) (by omega) (by omega)
        rw [hr] at g2 g3
        refine ⟨v, g1, fun h => g2 ?_, fun h => g3 ?_⟩
        · rw [List.all_cons, hw, Bool.true_and] at h; exact h
        · rw [List.all_cons, hw, Bool.true_and] at h; exact h
    · have hd := decode_ge hc (by omega)
      rw [sound1_eq N _ (by omega)]
      have : decide ((((Utf8.decode s y).1 : Nat) : Int) > 126) = true := by simp; omega
      simp only [this, Option.bind_some, Bool.true_or, beq_self_eq_true, cond_true]
      have hw : inW c = false := by
        cases h : inW c
        · rfl
        · have := (inW_iff c).1 h; omega
      refine ⟨_, rfl, fun h => ?_, fun _ => ⟨y, rfl⟩⟩
      rw [List.all_cons, hw] at h; cases h
theorem idxF_eq (n : Nat) (s : ByteArray) (hn : s.size < n) : ∃ r, gstrings_IndexFunc_62 n s = some r ∧ decide (r < 0) = (bs s).all inW := by
  obtain ⟨v, g1, g2, g3⟩ := idx_loop n s s.size 0 n (by omega) hn (by omega)
  rw [List.drop_zero] at g2 g3
  unfold gstrings_IndexFunc_62 gstrings_indexFunc_62
  rw [g1]
  cases h : (bs s).all inW
  · obtain ⟨j, rfl⟩ := g3 h
    exact ⟨_, rfl, decide_eq_false (by omega)⟩
  · rw [g2 h]
    exact ⟨_, rfl, by decide⟩
def soundB (t : TTok) : Bool := cond (t.f_Kind == 1) ((!(bs t.f_Text).isEmpty) && (bs t.f_Text).all inW) (cond (t.f_Kind == 2) (match bs t.f_Text with | [c] => signB c | _ => false) (t.f_Kind == 3))
theorem isEmpty_eq (s : ByteArray) : (!decide (s = ByteArray.mk #[])) = !(bs s).isEmpty := by
  congr 1
  rcases hl : bs s with _ | ⟨c, r⟩
  · rw [decide_eq_true (bs_nil.1 hl)]; rfl
  · have : ¬ s = ByteArray.mk #[] := fun e => by rw [← bs_nil, hl] at e; cases e
    rw [decide_eq_false this]; rfl
theorem sgn_contains (s : ByteArray) (c : Int) (h : bs s = [c]) : containsT (ByteArray.mk #[40, 41, 91, 93, 43, 45, 42, 44, 58, 37]) s = some (signB c) := by
  have hb : 0 ≤ c ∧ c < 256 := bs_byte (by rw [h]; simp)
  have e : s = ofB [c] := by rw [← h, ofB_bs]
  subst e
  have key : ∀ n : Fin 256, containsT (ByteArray.mk #[40, 41, 91, 93, 43, 45, 42, 44, 58, 37]) (ofB [((n.val : Nat) : Int)]) = some (signB ((n.val : Nat) : Int)) := by
    have : (List.range 256).all (fun n => decide (containsT (ByteArray.mk #[40, 41, 91, 93, 43, 45, 42, 44, 58, 37]) (ofB [((n : Nat) : Int)]) = some (signB ((n : Nat) : Int)))) = true := by kernel_rfl
    intro n
    exact of_decide_eq_true (List.all_eq_true.1 this n.val (List.mem_range.2 n.isLt))
  have := key ⟨c.toNat, by omega⟩
  have hc : ((c.toNat : Nat) : Int) = c := by omega
  simp only [hc] at this
  exact this
theorem sound_eq (n : Nat) (t : TTok) (hn : t.f_Text.size < n) : gasmtext_sound n t = some (soundB t) := by
  unfold gasmtext_sound soundB
  obtain ⟨r, h1, h2⟩ := idxF_eq n t.f_Text hn
  rw [h1, isEmpty_eq]
  simp only [Option.bind_some]
  cases t.f_Kind == 1
  · cases t.f_Kind == 2
    · rfl
    · simp only [cond_false, cond_true]
      rcases hl : bs t.f_Text with _ | ⟨c, _ | ⟨d, l⟩⟩
      · have : (((t.f_Text.size : Nat) : Int) == 1) = false := by rw [← bs_length, hl]; rfl
        rw [this]; rfl
      · have : (((t.f_Text.size : Nat) : Int) == 1) = true := by rw [← bs_length, hl]; rfl
        rw [this, sgn_contains _ c hl]; rfl
      · have : (((t.f_Text.size : Nat) : Int) == 1) = false := by
          rw [← bs_length, hl]; simp only [List.length_cons, beq_eq_false_iff_ne, ne_eq]; omega
        rw [this]; rfl
  · simp only [cond_true]
    cases (bs t.f_Text).isEmpty
    · rw [h2]; rfl
    · rfl
theorem soundB_iff (t : TTok) : soundB t = true ↔ TokS t := by
  unfold soundB TokS
  have hb : ∀ c ∈ bs t.f_Text, 0 ≤ c ∧ c < 256 := fun c hc => bs_byte hc
  by_cases h1 : t.f_Kind = 1
  · have : (t.f_Kind == 1) = true := by simpa using h1
    rw [this]
    simp only [cond_true, Bool.and_eq_true, List.all_eq_true, Bool.not_eq_true']
    constructor
    · intro ⟨h2, h3⟩; exact ⟨hb, .inr (.inr ⟨h1, (fun e => by rw [e] at h2; cases h2), h3⟩)⟩
    · rintro ⟨_, h | ⟨h, _⟩ | ⟨_, h2, h3⟩⟩
      · omega
      · omega
      · refine ⟨?_, h3⟩
        cases hl : bs t.f_Text with
        | nil => exact absurd hl h2
        | cons => rfl
  · have : (t.f_Kind == 1) = false := by simpa using h1
    rw [this]
    simp only [cond_false]
    by_cases h2 : t.f_Kind = 2
    · have : (t.f_Kind == 2) = true := by simpa using h2
      rw [this]
      simp only [cond_true]
      constructor
      · intro h
        split at h
        · rename_i c hl
          exact ⟨hb, .inr (.inl ⟨h2, c, hl, h⟩)⟩
        · cases h
      · rintro ⟨_, h | ⟨_, c, hl, h⟩ | ⟨h, _⟩⟩
        · omega
        · rw [hl]; exact h
        · omega
    · have : (t.f_Kind == 2) = false := by simpa using h2
      rw [this]
      simp only [cond_false, beq_iff_eq]
      exact ⟨fun h => ⟨hb, .inl h⟩, by rintro ⟨_, h | ⟨h, _⟩ | ⟨h, _⟩⟩; exact h; exact absurd h h2; exact absurd h h1⟩
end Go.DM
namespace Go.DM
open Go

theorem nameB_eq (s : ByteArray) : nameB s = (((!(bs s).isEmpty) && (bs s).all inW) && !digB ((bs s).headD 0)) := by
  unfold nameB
  cases (bs s).all inW <;> cases (bs s).isEmpty <;> rfl
theorem print1_eq (n : Nat) (s : ByteArray) (hn : s.size < n) : gasmtext_Print_1 n s = some (nameB s) := by
  unfold gasmtext_Print_1
  rw [sound_eq n ⟨1, s⟩ hn, isEmpty_eq, nameB_eq]
  have hs : soundB ⟨1, s⟩ = ((!(bs s).isEmpty) && (bs s).all inW) := rfl
  rw [hs]
  rcases hl : bs s with _ | ⟨c, r⟩
  · rfl
  simp only [List.isEmpty_cons, Bool.not_false, cond_true, Bool.true_and, Option.bind_some]
  cases hw : (c :: r).all inW
  · rfl
  · have hok : TokOk s.size ⟨1, s⟩ := fun _ => ⟨by rw [hl]; simp, by rw [hl]; exact fun d hd => (List.all_eq_true.1 hw) d hd, by rw [bs_length]; exact Nat.le_refl _⟩
    rw [isName_eq n s.size hok]
    simp only [hl]
    rfl
theorem contL_loop (N : Nat) (l : List ByteArray) (hl : l.length ≤ 1048576) (hs : ∀ s ∈ l, s.size < N) : ∀ (k y m : Nat), l.length - y ≤ k → k < m → y ≤ l.length →
    ∃ v, gslices_IndexFunc_63_38_34_L1 N l m (y : Int) = some v ∧ ((l.drop y).all nameB = true → v = .out ()) ∧ ((l.drop y).all nameB = false → ∃ j : Nat, v = .ret ((j : Nat) : Int)) := by
  intro k
  induction k with
  | zero =>
    intro y m hk hm hy
    obtain ⟨m, rfl⟩ : ∃ m', m = m' + 1 := ⟨m - 1, by omega⟩
    rw [gslices_IndexFunc_63_38_34_L1]
    have h1 : decide ((y : Int) < ((l.length : Nat) : Int)) = false := by simp; omega
    rw [h1, List.drop_eq_nil_of_le (by omega)]
    exact ⟨_, rfl, fun _ => rfl, fun h => by simp at h⟩
  | succ k ih =>
    intro y m hk hm hy
    obtain ⟨m, rfl⟩ : ∃ m', m = m' + 1 := ⟨m - 1, by omega⟩
    rw [gslices_IndexFunc_63_38_34_L1]
    rcases Nat.lt_or_ge y l.length with hlt | hge
    · have h1 : decide ((y : Int) < ((l.length : Nat) : Int)) = true := by simp; omega
      have hx : l[y]? = some l[y] := by simp [hlt]
      have hp : gasmtext_Print_2_34 N l[y] = some (!nameB l[y]) := by
        unfold gasmtext_Print_2_34
        rw [print1_eq N _ (hs _ (List.getElem_mem hlt))]; rfl
      rw [h1, atL_nat, hx, w64_succ (by omega), List.drop_eq_getElem_cons hlt, List.all_cons]
      simp only [cond_true, Option.bind_some, hp]
      cases hb : nameB l[y]
      · exact ⟨_, rfl, fun h => by simp at h, fun _ => ⟨y, rfl⟩⟩
      · obtain ⟨v, g1, g2, g3⟩ := ih (y + 1) m (by omega) (by omega) (by omega)
        exact ⟨v, g1, fun h => g2 (by simpa using h), fun h => g3 (by simpa using h)⟩
    · have h1 : decide ((y : Int) < ((l.length : Nat) : Int)) = false := by simp; omega
      rw [h1, List.drop_eq_nil_of_le hge]
      exact ⟨_, rfl, fun _ => rfl, fun h => by simp at h⟩
theorem contL_eq (n : Nat) (l : List ByteArray) (hl : l.length ≤ 1048576) (hn : l.length < n) (hs : ∀ s ∈ l, s.size < n) : gslices_ContainsFunc_37_38_34 n l = some (!l.all nameB) := by
  unfold gslices_ContainsFunc_37_38_34 gslices_IndexFunc_63_38_34
  obtain ⟨v, g1, g2, g3⟩ := contL_loop n l hl hs l.length 0 n (by omega) hn (by omega)
  rw [List.drop_zero] at g2 g3
  rw [show ((0 : Nat) : Int) = 0 from rfl] at g1
  rw [g1]
  cases h : l.all nameB
  · obtain ⟨j, rfl⟩ := g3 h
    have : decide (((j : Nat) : Int) ≥ 0) = true := decide_eq_true (by omega)
    simp only [Option.bind_some, this]; rfl
  · rw [g2 h]; rfl
theorem contT_loop (N : Nat) (l : List TTok) (hl : l.length ≤ 1048576) (hs : ∀ t ∈ l, t.f_Text.size < N) : ∀ (k y m : Nat), l.length - y ≤ k → k < m → y ≤ l.length →
    ∃ v, gslices_IndexFunc_64_40_L1 N l m (y : Int) = some v ∧ ((l.drop y).all soundB = true → v = .out ()) ∧ ((l.drop y).all soundB = false → ∃ j : Nat, v = .ret ((j : Nat) : Int)) := by
  intro k
  induction k with
  | zero =>
    intro y m hk hm hy
    obtain ⟨m, rfl⟩ : ∃ m', m = m' + 1 := ⟨m - 1, by omega⟩
    rw [gslices_IndexFunc_64_40_L1]
    have h1 : decide ((y : Int) < ((l.length : Nat) : Int)) = false := by simp; omega
    rw [h1, List.drop_eq_nil_of_le (by omega)]
    exact ⟨_, rfl, fun _ => rfl, fun h => by simp at h⟩
  | succ k ih =>
    intro y m hk hm hy
    obtain ⟨m, rfl⟩ : ∃ m', m = m' + 1 := ⟨m - 1, by omega⟩
    rw [gslices_IndexFunc_64_40_L1]
    rcases Nat.lt_or_ge y l.length with hlt | hge
    · have h1 : decide ((y : Int) < ((l.length : Nat) : Int)) = true := by simp; omega
      have hx : l[y]? = some l[y] := by simp [hlt]
      have hp : gasmtext_Print_3 N l[y] = some (!soundB l[y]) := by
        unfold gasmtext_Print_3
        rw [sound_eq N _ (hs _ (List.getElem_mem hlt))]; rfl
      rw [h1, atL_nat, hx, w64_succ (by omega), List.drop_eq_getElem_cons hlt, List.all_cons]
      simp only [cond_true, Option.bind_some, hp]
      cases hb : soundB l[y]
      · exact ⟨_, rfl, fun h => by simp at h, fun _ => ⟨y, rfl⟩⟩
      · obtain ⟨v, g1, g2, g3⟩ := ih (y + 1) m (by omega) (by omega) (by omega)
        exact ⟨v, g1, fun h => g2 (by simpa using h), fun h => g3 (by simpa using h)⟩
    · have h1 : decide ((y : Int) < ((l.length : Nat) : Int)) = false := by simp; omega
      rw [h1, List.drop_eq_nil_of_le hge]
      exact ⟨_, rfl, fun _ => rfl, fun h => by simp at h⟩
theorem contT_eq (n : Nat) (l : List TTok) (hl : l.length ≤ 1048576) (hn : l.length < n) (hs : ∀ t ∈ l, t.f_Text.size < n) : gslices_ContainsFunc_39_40 n l = some (!l.all soundB) := by
  unfold gslices_ContainsFunc_39_40 gslices_IndexFunc_64_40
  obtain ⟨v, g1, g2, g3⟩ := contT_loop n l hl hs l.length 0 n (by omega) hn (by omega)
  rw [List.drop_zero] at g2 g3
  rw [show ((0 : Nat) : Int) = 0 from rfl] at g1
  rw [g1]
  cases h : l.all soundB
  · obtain ⟨j, rfl⟩ := g3 h
    have : decide (((j : Nat) : Int) ≥ 0) = true := decide_eq_true (by omega)
    simp only [Option.bind_some, this]; rfl
  · rw [g2 h]; rfl

/-! lines that are right -/
def rightX (last : Int) (x : TLine) : Bool := ((decide (x.f_No > last) && decide (x.f_No ≤ 16384)) && decide (0 < x.f_Labels.length + x.f_Toks.length)) && x.f_Labels.all nameB && x.f_Toks.all soundB && !labS x.f_Toks
def rightL : Int → List TLine → Bool
  | _, [] => true
  | last, x :: r => rightX last x && rightL x.f_No r
def manyX (x : TLine) : Bool := decide (64 < 2 * x.f_Labels.length + x.f_Toks.length)
/-- how much a line takes: at least -/
def SmallL (x : TLine) : Prop := x.f_Labels.length ≤ 1048576 ∧ x.f_Toks.length ≤ 1048576 ∧ (∀ s ∈ x.f_Labels, s.size ≤ 1048576) ∧ ∀ t ∈ x.f_Toks, t.f_Text.size ≤ 1048576
theorem sound_ok {t : TTok} (h : soundB t = true) : TokOk t.f_Text.size t := by
  intro e
  rcases (soundB_iff t).1 h with ⟨_, h | ⟨h, _⟩ | ⟨_, h2, h3⟩⟩
  · omega
  · omega
  · exact ⟨h2, h3, by rw [bs_length]; exact Nat.le_refl _⟩
theorem TokOk.mono {A B : Nat} {t : TTok} (h : TokOk A t) (hl : A ≤ B) : TokOk B t := fun e => by
  obtain ⟨h1, h2, h3⟩ := h e
  exact ⟨h1, h2, by omega⟩
theorem print_L1 (n : Nat) (l : List TLine) (hl : l.length ≤ 1048576) (hs : ∀ x ∈ l, SmallL x) (hn : 1048576 < n) : ∀ (k y m : Nat) (last : Int) (many : Bool), l.length - y ≤ k → k < m → y ≤ l.length →
    gasmtext_Print_L1 n l m last many (y : Int) = some (if rightL last (l.drop y) = true then .out (many || (l.drop y).any manyX) else .ret (ByteArray.mk #[], 131)) := by
  intro k
  induction k with
  | zero =>
    intro y m last many hk hm hy
    obtain ⟨m, rfl⟩ : ∃ m', m = m' + 1 := ⟨m - 1, by omega⟩
    rw [gasmtext_Print_L1]
    have h1 : decide ((y : Int) < ((l.length : Nat) : Int)) = false := by simp; omega
    rw [h1, List.drop_eq_nil_of_le (by omega)]
    simp [rightL]
  | succ k ih =>
    intro y m last many hk hm hy
    obtain ⟨m, rfl⟩ : ∃ m', m = m' + 1 := ⟨m - 1, by omega⟩
    rw [gasmtext_Print_L1]
    rcases Nat.lt_or_ge y l.length with hlt | hge
    · have h1 : decide ((y : Int) < ((l.length : Nat) : Int)) = true := by simp; omega
      have hx : l[y]? = some l[y] := by simp [hlt]
      obtain ⟨s1, s2, s3, s4⟩ := hs l[y] (List.getElem_mem hlt)
      rw [h1, atL_nat, hx, w64_succ (by omega), List.drop_eq_getElem_cons hlt]
      generalize l[y] = x at s1 s2 s3 s4
      have e1 : decide (IntKind.wrap .i64 (((x.f_Labels.length : Nat) : Int) + ((x.f_Toks.length : Nat) : Int)) > 0) = decide (0 < x.f_Labels.length + x.f_Toks.length) := by
        rw [w64 (by omega) (by omega)]
        by_cases h : 0 < x.f_Labels.length + x.f_Toks.length
        · rw [decide_eq_true h, decide_eq_true (by omega)]
        · rw [decide_eq_false h, decide_eq_false (by omega)]
      have e2 : decide (IntKind.wrap .i64 ((IntKind.wrap .i64 (2 * ((x.f_Labels.length : Nat) : Int))) + ((x.f_Toks.length : Nat) : Int)) > 64) = manyX x := by
        unfold manyX
        rw [w64 (n := 2 * ((x.f_Labels.length : Nat) : Int)) (by omega) (by omega), w64 (by omega) (by omega)]
        by_cases h : 64 < 2 * x.f_Labels.length + x.f_Toks.length
        · rw [decide_eq_true h, decide_eq_true (by omega)]
        · rw [decide_eq_false h, decide_eq_false (by omega)]
      simp only [cond_true, Option.bind_some]
      rw [e1, e2, contL_eq n _ s1 (by omega) (fun s hs => by have := s3 s hs; omega), contT_eq n _ s2 (by omega) (fun t ht => by have := s4 t ht; omega)]
      rw [rightL]
      unfold rightX
      cases (decide (x.f_No > last) && decide (x.f_No ≤ 16384) && decide (0 < x.f_Labels.length + x.f_Toks.length))
      · rfl
      cases x.f_Labels.all nameB
      · rfl
      cases ht : x.f_Toks.all soundB
      · rfl
      have hok : ∀ t ∈ x.f_Toks, TokOk 1048576 t := fun t h => (sound_ok ((List.all_eq_true.1 ht) t h)).mono (s4 t h)
      rw [labelled_eq n 1048576 _ hok]
      cases labS x.f_Toks
      · simp only [Bool.not_true, cond_false, Option.bind_some, Bool.not_false, Bool.and_self, Bool.true_and]
        rw [ih (y + 1) m x.f_No (many || manyX x) (by omega) (by omega) (by omega), List.any_cons, Bool.or_assoc]
      · rfl
    · have h1 : decide ((y : Int) < ((l.length : Nat) : Int)) = false := by simp; omega
      rw [h1, List.drop_eq_nil_of_le hge]
      simp [rightL]
theorem rise_of : ∀ (l : List TLine) (a : Nat), rightL (a : Int) l = true → Rise a l
  | [], _, _ => trivial
  | x :: r, a, h => by
    rw [rightL, Bool.and_eq_true] at h
    obtain ⟨h, hr⟩ := h
    unfold rightX at h
    simp only [Bool.and_eq_true, decide_eq_true_eq, Bool.not_eq_true'] at h
    obtain ⟨⟨⟨⟨⟨h1, h2⟩, h3⟩, h4⟩, h5⟩, h6⟩ := h
    refine ⟨⟨by omega, h3, List.all_eq_true.1 h4, fun t ht => (soundB_iff t).1 ((List.all_eq_true.1 h5) t ht), h6⟩, h1, h2, rise_of r _ ?_⟩
    rw [show ((x.f_No.toNat : Nat) : Int) = x.f_No by omega]; exact hr
theorem of_rise : ∀ (l : List TLine) (a : Nat), Rise a l → rightL (a : Int) l = true
  | [], _, _ => rfl
  | x :: r, a, h => by
    obtain ⟨h1, h2, h3, h4⟩ := h
    have hr := of_rise r _ h4
    rw [show ((x.f_No.toNat : Nat) : Int) = x.f_No by omega] at hr
    rw [rightL, hr, Bool.and_true]
    unfold rightX
    simp only [Bool.and_eq_true, decide_eq_true_eq, Bool.not_eq_true']
    exact ⟨⟨⟨⟨⟨h2, h3⟩, h1.some⟩, List.all_eq_true.2 h1.names⟩, List.all_eq_true.2 fun t ht => (soundB_iff t).2 (h1.toks t ht)⟩, h1.free⟩
end Go.DM
namespace Go.DM
open Go

/-- how much lines take -/
def lsize (x : TLine) : Nat := (x.f_Labels.flatMap labP).length + 4 * tsize x.f_Toks + 3 * x.f_Toks.length
def lsizes : List TLine → Nat
  | [] => 0
  | x :: r => lsize x + lsizes r
theorem lsizes_drop (l : List TLine) (y : Nat) (h : y < l.length) : lsizes (l.drop y) = lsize l[y] + lsizes (l.drop (y + 1)) := by
  rw [List.drop_eq_getElem_cons h]; rfl
theorem lsizes_mem {x : TLine} : ∀ {l : List TLine}, x ∈ l → lsize x ≤ lsizes l
  | u :: l, h => by
    rcases List.mem_cons.1 h with rfl | h
    · simp only [lsizes]; omega
    · have := lsizes_mem h; simp only [lsizes]; omega
theorem repeat_nl : ∀ (g : Nat), g ≤ 16384 → repeatT (ByteArray.mk #[10]) (g : Int) = some (ofB (List.replicate g 10)) := by
  intro g hg
  unfold repeatT
  have hs : (ByteArray.mk #[10]).size = 1 := rfl
  rw [if_pos ⟨by omega, by omega, by rw [hs]; simp; omega⟩]
  congr 1
  refine bs_inj ?_
  rw [bs_ofB (fun c hc => by rw [List.mem_replicate] at hc; omega)]
  show (Lib.repeatL [10] (g : Int).toNat).map (fun b : UInt8 => (b.toNat : Int)) = _
  rw [Int.toNat_natCast]
  clear hg
  induction g with
  | zero => rfl
  | succ g ih => rw [Lib.repeatL, List.map_append, ih, List.replicate_succ]; rfl
theorem print_L3 (n : Nat) (x : TLine) (hx : SmallL x) : ∀ (k y m : Nat) (acc : List Int), x.f_Labels.length - y ≤ k → k < m → y ≤ x.f_Labels.length → acc.length + ((x.f_Labels.drop y).flatMap labP).length ≤ 8000000 →
    gasmtext_Print_L3 n x m (y : Int) acc = some (acc ++ (x.f_Labels.drop y).flatMap labP) := by
  obtain ⟨s1, s2, s3, s4⟩ := hx
  intro k
  induction k with
  | zero =>
    intro y m acc hk hm hy ha
    obtain ⟨m, rfl⟩ : ∃ m', m = m' + 1 := ⟨m - 1, by omega⟩
    rw [gasmtext_Print_L3]
    have h1 : decide ((y : Int) < ((x.f_Labels.length : Nat) : Int)) = false := by simp; omega
    rw [h1, List.drop_eq_nil_of_le (by omega)]
    simp
  | succ k ih =>
    intro y m acc hk hm hy ha
    obtain ⟨m, rfl⟩ : ∃ m', m = m' + 1 := ⟨m - 1, by omega⟩
    rw [gasmtext_Print_L3]
    rcases Nat.lt_or_ge y x.f_Labels.length with hlt | hge
    · have h1 : decide ((y : Int) < ((x.f_Labels.length : Nat) : Int)) = true := by simp; omega
      have hx : x.f_Labels[y]? = some x.f_Labels[y] := by simp [hlt]
      have hsz := s3 _ (List.getElem_mem hlt)
      rw [List.drop_eq_getElem_cons hlt, List.flatMap_cons] at ha ⊢
      rw [h1, atL_nat, hx, w64_succ (by omega)]
      simp only [cond_true, Option.bind_some]
      generalize x.f_Labels[y] = s at hsz ha
      have hc : catS s (ByteArray.mk #[58, 32]) = some (s ++ ByteArray.mk #[58, 32]) := by
        unfold catS
        have h2 : (ByteArray.mk #[58, 32]).size = 2 := rfl
        rw [if_neg (by rw [h2]; have : IntKind.i64.max = 9223372036854775807 := rfl; omega)]
      have hbs : bs (s ++ ByteArray.mk #[58, 32]) = labP s := by
        obtain ⟨⟨l⟩⟩ := s
        show (((ByteArray.mk ⟨l⟩) ++ ByteArray.mk #[58, 32]).data.toList).map _ = _
        rw [ByteArray.data_append]
        simp [labP, bs]
      rw [hc, Option.bind_some, hbs, appL_ok (by rw [List.length_append] at ha; omega) (by omega), Option.bind_some, ih (y + 1) m _ (by omega) (by omega) (by omega) (by simp only [List.length_append] at ha ⊢; omega)]
      simp
    · have h1 : decide ((y : Int) < ((x.f_Labels.length : Nat) : Int)) = false := by simp; omega
      rw [h1, List.drop_eq_nil_of_le hge]
      simp
theorem print_L2 (n : Nat) (l : List TLine) (hs : ∀ x ∈ l, SmallL x ∧ x.f_Toks.length ≤ 1048576 ∧ tsize x.f_Toks ≤ 1048576) (hll : l.length ≤ 1048576) (hn : 1048576 < n) : ∀ (k y m a : Nat) (acc : List Int), l.length - y ≤ k → k < m → y ≤ l.length → a ≤ 16384 → Rise a (l.drop y) ∨ (y = 0 ∧ Rise 0 l ∧ a = 1) →
    acc.length + lsizes (l.drop y) + (16384 - a) ≤ 7000000 →
    gasmtext_Print_L2 n l m (a : Int) (y : Int) acc = some (acc ++ bodyP a (l.drop y)) := by
  intro k
  induction k with
  | zero =>
    intro y m a acc hk hm hy ha hr hz
    obtain ⟨m, rfl⟩ : ∃ m', m = m' + 1 := ⟨m - 1, by omega⟩
    rw [gasmtext_Print_L2]
    have h1 : decide ((y : Int) < ((l.length : Nat) : Int)) = false := by simp; omega
    rw [h1, List.drop_eq_nil_of_le (by omega)]
    simp [bodyP]
  | succ k ih =>
    intro y m a acc hk hm hy ha hr hz
    obtain ⟨m, rfl⟩ : ∃ m', m = m' + 1 := ⟨m - 1, by omega⟩
    rw [gasmtext_Print_L2]
    rcases Nat.lt_or_ge y l.length with hlt | hge
    · have h1 : decide ((y : Int) < ((l.length : Nat) : Int)) = true := by simp; omega
      have hx : l[y]? = some l[y] := by simp [hlt]
      obtain ⟨hsm, hs2, hs3⟩ := hs l[y] (List.getElem_mem hlt)
      rw [lsizes_drop l y hlt] at hz
      have hrise : LineR l[y] ∧ (a : Int) ≤ l[y].f_No ∧ l[y].f_No ≤ 16384 ∧ Rise l[y].f_No.toNat (l.drop (y + 1)) := by
        rcases hr with hr | ⟨rfl, hr, rfl⟩
        · rw [List.drop_eq_getElem_cons hlt] at hr
          obtain ⟨g1, g2, g3, g4⟩ := hr
          exact ⟨g1, by omega, g3, g4⟩
        · have : l = l[0] :: l.drop 1 := by conv => lhs; rw [← List.drop_zero (l := l), List.drop_eq_getElem_cons hlt]
          rw [this] at hr
          obtain ⟨g1, g2, g3, g4⟩ := hr
          have hlo := g1.lo
          exact ⟨g1, by omega, g3, g4⟩
      rw [h1, atL_nat, hx, w64_succ (by omega), List.drop_eq_getElem_cons hlt, bodyP]
      generalize l[y] = x at hrise hsm hs2 hs3 hz
      obtain ⟨g1, g2, g3, g4⟩ := hrise
      simp only [cond_true, Option.bind_some]
      have hg : IntKind.wrap .i64 (x.f_No - (a : Int)) = ((x.f_No.toNat - a : Nat) : Int) := by rw [w64 (by omega) (by omega)]; omega
      have hlz : lsize x = (x.f_Labels.flatMap labP).length + 4 * tsize x.f_Toks + 3 * x.f_Toks.length := rfl
      have hjl := joinP_len x.f_Toks
      have hb1 : bs (ofB (List.replicate (x.f_No.toNat - a) 10)) = List.replicate (x.f_No.toNat - a) 10 := bs_ofB (fun c hc => by rw [List.mem_replicate] at hc; omega)
      have hb2 : bs (ofB (joinP x.f_Toks)) = joinP x.f_Toks := bs_ofB (fun c hc => by have := joinP_ge _ g1.toks c hc; omega)
      rw [hg, repeat_nl _ (by omega), Option.bind_some, hb1, appL_ok (by simp; omega) (by omega), Option.bind_some]
      have e3 := print_L3 n x hsm x.f_Labels.length 0 n (acc ++ List.replicate (x.f_No.toNat - a) 10) (by omega) (by have := hsm.1; omega) (by omega) (by simp only [List.drop_zero, List.length_append, List.length_replicate]; omega)
      rw [show ((0 : Nat) : Int) = 0 from rfl, List.drop_zero] at e3
      rw [e3, Option.bind_some, Join_eq n _ hs2 hs3 hn g1.toks, Option.bind_some, hb2, appL_ok (by simp only [List.length_append, List.length_replicate]; omega) (by omega), Option.bind_some]
      have hno : x.f_No = ((x.f_No.toNat : Nat) : Int) := by omega
      have e := ih (y + 1) m x.f_No.toNat (acc ++ List.replicate (x.f_No.toNat - a) 10 ++ x.f_Labels.flatMap labP ++ joinP x.f_Toks) (by omega) (by omega) (by omega) (by omega) (.inl g4) (by simp only [List.length_append, List.length_replicate]; omega)
      rw [← hno] at e
      rw [e]
      simp [lineP]
    · have h1 : decide ((y : Int) < ((l.length : Nat) : Int)) = false := by simp; omega
      rw [h1, List.drop_eq_nil_of_le hge]
      simp [bodyP]
/-- Print of lines that are right, and not too long -/
theorem bodyP_len : ∀ (l : List TLine) (a : Nat), a ≤ 16384 → Rise a l ∨ (Rise 0 l ∧ a = 1) → (bodyP a l).length + a ≤ 16384 + lsizes l
  | [], a, ha, _ => by simp [bodyP, lsizes]; omega
  | x :: r, a, ha, hr => by
    have hrise : (a : Int) ≤ x.f_No ∧ x.f_No ≤ 16384 ∧ Rise x.f_No.toNat r := by
      rcases hr with ⟨g1, g2, g3, g4⟩ | ⟨⟨g1, g2, g3, g4⟩, rfl⟩
      · exact ⟨by omega, g3, g4⟩
      · have := g1.lo; exact ⟨by omega, g3, g4⟩
    obtain ⟨g2, g3, g4⟩ := hrise
    have h1 := bodyP_len r x.f_No.toNat (by omega) (.inl g4)
    have hjl := joinP_len x.f_Toks
    simp only [bodyP, lineP, lsizes, lsize, List.length_append, List.length_replicate]
    omega
theorem Print_eq (n : Nat) (l : List TLine) (hs : ∀ x ∈ l, SmallL x ∧ x.f_Toks.length ≤ 1048576 ∧ tsize x.f_Toks ≤ 1048576) (hll : l.length ≤ 1048576) (hn : 1048576 < n) (hr : Rise 0 l) (hz : lsizes l ≤ 6000000) :
    gasmtext_Print n l = some (if l.any manyX = true ∨ 262144 < (printP l).length then (ByteArray.mk #[], 133) else (ofB (printP l), 0)) := by
  unfold gasmtext_Print
  have h1 := print_L1 n l hll (fun x hx => (hs x hx).1) hn l.length 0 n 0 false (by omega) (by omega) (by omega)
  have hr0 : rightL 0 l = true := of_rise l 0 hr
  rw [show ((0 : Nat) : Int) = 0 from rfl, List.drop_zero, if_pos hr0] at h1
  have h2 := print_L2 n l hs hll hn l.length 0 n 1 [] (by omega) (by omega) (by omega) (by omega) (.inr ⟨rfl, hr, rfl⟩) (by simp only [List.length_nil, List.drop_zero]; omega)
  rw [show ((0 : Nat) : Int) = 0 from rfl, show ((1 : Nat) : Int) = 1 from rfl, List.drop_zero, List.nil_append] at h2
  rw [h1]
  simp only [Option.bind_some, Bool.false_or]
  rw [h2]
  have hbl := bodyP_len l 1 (by omega) (.inr ⟨hr, rfl⟩)
  have h3 : (cond (decide (((l.length : Nat) : Int) > 0)) ((appL 1 (bodyP 1 l) [10]).bind fun l562 => some l562) (some (bodyP 1 l)) : Option (List Int)) = some (printP l) := by
    unfold printP
    rcases l with _ | ⟨x, r⟩
    · rfl
    · rw [if_neg (by simp), decide_eq_true (by simp only [List.length_cons]; omega), cond_true, appL_ok (by simp; omega) (by omega)]; rfl
  simp only [Option.bind_some]
  rw [h3]
  simp only [Option.bind_some]
  by_cases h4 : 262144 < (printP l).length
  · rw [decide_eq_true (show ((((printP l).length : Nat) : Int) > 262144) by omega), if_pos (.inr h4), Bool.or_true]; rfl
  · rw [decide_eq_false (show ¬ ((((printP l).length : Nat) : Int) > 262144) by omega), Bool.or_false]
    cases hm : l.any manyX
    · rw [if_neg (by simp; omega)]
      simp only [cond_false]
      unfold strT
      rw [if_pos (by omega)]; rfl
    · rw [if_pos (.inl rfl)]; rfl
end Go.DM
namespace Go.DM
open Go

theorem labS_two {a b : TTok} {r : List TTok} (h : labS (a :: b :: r) = true) : a.f_Kind = 1 ∧ digB ((bs a.f_Text).headD 0) = false ∧ b.f_Kind = 2 := by
  simp only [labS, Bool.and_eq_true, beq_iff_eq, Bool.not_eq_true'] at h
  exact ⟨h.1.1, h.1.2, h.2.1⟩
/-- labels taken off sound tokens -/
theorem labsS_facts : ∀ (k : Nat) (l : List TTok) (acc : List ByteArray), l.length ≤ k → (∀ t ∈ l, TokS t) → (∀ s ∈ acc, nameB s = true) →
    (∀ s ∈ (labsS l acc).2, nameB s = true) ∧ (∀ t ∈ (labsS l acc).1, TokS t) ∧ labS (labsS l acc).1 = false ∧ 2 * (labsS l acc).2.length + (labsS l acc).1.length = 2 * acc.length + l.length := by
  intro k
  induction k using Nat.strongRecOn with
  | ind k ih =>
  intro l acc hk hl hacc
  rcases l with _ | ⟨a, _ | ⟨b, l⟩⟩
  · have : labsS [] acc = ([], acc) := by rw [labsS]; intro a b r h; cases h
    rw [this]; exact ⟨hacc, hl, rfl, by simp⟩
  · have : labsS [a] acc = ([a], acc) := by rw [labsS]; intro a b r h; cases h
    rw [this]; exact ⟨hacc, hl, rfl, by simp⟩
  · rw [labsS]
    cases h : labS (a :: b :: l)
    · rw [if_neg (by decide)]; exact ⟨hacc, hl, h, rfl⟩
    · rw [if_pos rfl]
      obtain ⟨h1, h2, h3⟩ := labS_two h
      have hn : nameB a.f_Text = true := by
        rcases hl a (by simp) with ⟨_, g | ⟨g, _⟩ | ⟨_, g1, g2⟩⟩
        · omega
        · omega
        · rw [nameB_eq, h2]
          simp only [Bool.not_false, Bool.and_true, Bool.and_eq_true, Bool.not_eq_true', List.all_eq_true]
          refine ⟨?_, g2⟩
          cases hb : bs a.f_Text with
          | nil => exact absurd hb g1
          | cons => rfl
      have := ih l.length (by simp at hk; omega) l (acc ++ [a.f_Text]) (Nat.le_refl _) (fun t ht => hl t (by simp [ht])) (fun s hs => by
        rcases List.mem_append.1 hs with hs | hs
        · exact hacc s hs
        · rw [List.mem_singleton] at hs; subst hs; exact hn)
      refine ⟨this.1, this.2.1, this.2.2.1, ?_⟩
      have h4 := this.2.2.2
      simp only [List.length_append, List.length_cons, List.length_nil] at h4 ⊢
      omega
theorem labsS_size : ∀ (k : Nat) (l : List TTok) (acc : List ByteArray), l.length ≤ k → ((labsS l acc).2.flatMap labP).length + tsize (labsS l acc).1 ≤ (acc.flatMap labP).length + tsize l + l.length := by
  intro k
  induction k using Nat.strongRecOn with
  | ind k ih =>
  intro l acc hk
  rcases l with _ | ⟨a, _ | ⟨b, l⟩⟩
  · have : labsS [] acc = ([], acc) := by rw [labsS]; intro a b r h; cases h
    rw [this]; simp
  · have : labsS [a] acc = ([a], acc) := by rw [labsS]; intro a b r h; cases h
    rw [this]; simp only; omega
  · rw [labsS]
    cases h : labS (a :: b :: l)
    · rw [if_neg (by decide)]; simp only; omega
    · rw [if_pos rfl]
      have := ih l.length (by simp at hk; omega) l (acc ++ [a.f_Text]) (Nat.le_refl _)
      have hb := bs_length a.f_Text
      simp only [List.flatMap_append, List.flatMap_cons, List.flatMap_nil, List.append_nil, List.length_append, labP, List.length_cons, List.length_nil, tsize] at this ⊢
      omega
def lenS : List (List Int) → Nat
  | [] => 0
  | l :: r => l.length + lenS r
theorem Rise.up : ∀ {l : List TLine} {a b : Nat}, Rise b l → a ≤ b → Rise a l
  | [], _, _, _, _ => trivial
  | _ :: _, _, _, ⟨h1, h2, h3, h4⟩, h => ⟨h1, by omega, h3, h4⟩
theorem wordsS_facts {l : List Int} {x : List TTok} (hb : ∀ c ∈ l, 0 ≤ c ∧ c < 256) (h : wordsS l = (x, 0)) : x.length ≤ 64 ∧ (∀ t ∈ x, TokS t) ∧ tsize x ≤ l.length ∧ x.length ≤ l.length := by
  unfold wordsS at h
  split at h
  · cases h
  · split at h
    · cases h
    · rename_i y hy
      split at h
      · cases h
      · cases h
        obtain ⟨h1, h2⟩ := toksS_sound l.length l [] _ (Nat.le_refl _) hb (by simp) hy
        exact ⟨by omega, h1, by simpa [tsize] using h2, by simpa using toksS_len l.length l [] _ (Nat.le_refl _) hy⟩
theorem linesS_out : ∀ (ls : List (List Int)) (y : Nat) (acc x : List TLine), (∀ l ∈ ls, ∀ c ∈ l, 0 ≤ c ∧ c < 256) → y + ls.length ≤ 16384 → linesS ls y acc = .out x →
    ∃ z, x = acc ++ z ∧ Rise y z ∧ Few z ∧ z.length ≤ ls.length ∧ lsizes z ≤ 11 * lenS ls ∧ ∀ u ∈ z, (u.f_Labels.flatMap labP).length + tsize u.f_Toks ≤ 2 * lenS ls
  | [], y, acc, x, _, _, h => by
    rw [linesS] at h; cases h
    exact ⟨[], by simp, trivial, fun u hu => by simp at hu, by simp, by simp [lsizes], fun u hu => by simp at hu⟩
  | l :: r, y, acc, x, hb, hy, h => by
    rw [linesS] at h
    have hbr : ∀ l ∈ r, ∀ c ∈ l, 0 ≤ c ∧ c < 256 := fun l hl => hb l (List.mem_cons_of_mem _ hl)
    simp only [List.length_cons] at hy
    split at h
    · rename_i he
      obtain ⟨w, hw⟩ : ∃ w, wordsS l = (w, 0) := ⟨(wordsS l).1, by rw [← he]⟩
      obtain ⟨w1, w2, w3, w4⟩ := wordsS_facts (hb l (List.mem_cons_self ..)) hw
      rw [hw] at h
      simp only at h
      obtain ⟨f1, f2, f3, f4⟩ := labsS_facts w.length w [] (Nat.le_refl _) w2 (by simp)
      have f5 := labsS_size w.length w [] (Nat.le_refl _)
      rcases hL : labsS w [] with ⟨t, b⟩
      rw [hL] at h f1 f2 f3 f4 f5
      simp only at h f1 f2 f3 f4 f5
      split at h
      · rename_i hp
        obtain ⟨z, e1, e2, e3, e4, e5, e6⟩ := linesS_out r (y + 1) _ x hbr (by omega) h
        simp only [List.flatMap_nil, List.length_nil, Nat.mul_zero, Nat.zero_add] at f4 f5
        have hz : lsize ⟨((y + 1 : Nat) : Int), b, t⟩ ≤ 11 * l.length := by
          simp only [lsize]
          omega
        refine ⟨⟨((y + 1 : Nat) : Int), b, t⟩ :: z, by rw [e1]; simp, ⟨⟨by simp only; omega, hp, f1, f2, f3⟩, by simp only; omega, by simp only; omega, ?_⟩, fun u hu => ?_, by simp; omega, ?_, fun u hu => ?_⟩
        · simp only [Int.toNat_natCast]; exact e2
        · rcases List.mem_cons.1 hu with rfl | hu
          · simp only; omega
          · exact e3 u hu
        · simp only [lsizes, lenS, List.length_cons]; omega
        · simp only [lenS]
          rcases List.mem_cons.1 hu with rfl | hu
          · simp only; omega
          · have := e6 u hu; omega
      · obtain ⟨z, e1, e2, e3, e4, e5, e6⟩ := linesS_out r (y + 1) _ x hbr (by omega) h
        exact ⟨z, e1, e2.up (by omega), e3, by simp; omega, by simp only [lenS, List.length_cons]; omega, fun u hu => by have := e6 u hu; simp only [lenS]; omega⟩
    · cases h
theorem linesS_ret : ∀ (ls : List (List Int)) (y : Nat) (acc : List TLine) (p : List TLine × Int × Int), linesS ls y acc = .ret p → p.1 = [] ∧ p.2.2 ≠ 0
  | [], y, acc, p, h => by rw [linesS] at h; cases h
  | l :: r, y, acc, p, h => by
    rw [linesS] at h
    split at h
    · split at h
      · exact linesS_ret r _ _ p h
      · exact linesS_ret r _ _ p h
    · rename_i he; cases h; exact ⟨rfl, he⟩
theorem lenS_fin : ∀ (l cur : List Int), lenS (finS l cur) ≤ l.length + cur.length
  | [], cur => by unfold finS; split <;> simp [lenS]
  | c :: r, cur => by
    rw [finS]
    split
    · have := lenS_fin r []; simp only [lenS, List.length_cons, List.length_nil] at this ⊢; omega
    · have := lenS_fin r (cur ++ [c]); simp only [List.length_append, List.length_cons, List.length_nil] at this ⊢; omega
/-- what a right text gives -/
theorem parseS_facts {l : List Int} {x : List TLine} {a e : Int} (hb : ∀ c ∈ l, 0 ≤ c ∧ c < 256) (h : parseS l = (x, a, e)) : (e ≠ 0 → x = []) ∧ (e = 0 → Rise 0 x ∧ Few x ∧ x.length ≤ 16384 ∧ lsizes x ≤ 6000000 ∧ ∀ u ∈ x, (u.f_Labels.flatMap labP).length + tsize u.f_Toks ≤ 524288) := by
  unfold parseS at h
  split at h
  · cases h; exact ⟨fun _ => rfl, fun h => by cases h⟩
  split at h
  · cases h; exact ⟨fun _ => rfl, fun h => by cases h⟩
  rename_i hl hn
  split at h
  · rename_i y hy
    cases h
    refine ⟨fun h => absurd rfl h, fun _ => ?_⟩
    obtain ⟨z, e1, e2, e3, e4, e5, e6⟩ := linesS_out _ 0 [] _ (finS_bytes l [] hb (by simp)) (by omega) hy
    have := lenS_fin l []
    rw [List.nil_append] at e1
    subst e1
    simp only [List.length_nil] at this
    exact ⟨e2, e3, by omega, by omega, fun u hu => by have := e6 u hu; omega⟩
  · rename_i p hp
    subst h
    have := linesS_ret _ _ _ _ hp
    exact ⟨fun _ => this.1, fun h => absurd h this.2⟩
theorem labP_mem {s : ByteArray} : ∀ {l : List ByteArray}, s ∈ l → s.size + 2 ≤ (l.flatMap labP).length
  | u :: l, h => by
    have hb := bs_length u
    rw [List.flatMap_cons, List.length_append]
    rcases List.mem_cons.1 h with rfl | h
    · simp only [labP, List.length_append, List.length_cons, List.length_nil]; omega
    · have := labP_mem h; omega
theorem small_of {x : TLine} (h : 2 * x.f_Labels.length + x.f_Toks.length ≤ 64) (hz : (x.f_Labels.flatMap labP).length + tsize x.f_Toks ≤ 524288) : SmallL x ∧ x.f_Toks.length ≤ 64 ∧ tsize x.f_Toks ≤ 1048576 := by
  refine ⟨⟨by omega, by omega, fun s hs => ?_, fun t ht => ?_⟩, by omega, by omega⟩
  · have := labP_mem hs; omega
  · have := tsize_mem ht; omega
theorem bodyP_byte : ∀ (l : List TLine) (a b : Nat), Rise a l → ∀ c ∈ bodyP b l, 0 ≤ c ∧ c < 256
  | [], _, _, _, c, hc => by simp [bodyP] at hc
  | x :: r, a, b, ⟨h1, _, _, h4⟩, c, hc => by
    rw [bodyP, List.mem_append, List.mem_append, List.mem_replicate] at hc
    rcases hc with (hc | hc) | hc
    · omega
    · have := lineP_ge h1 c hc; omega
    · exact bodyP_byte r _ _ h4 c hc
theorem twice_law (s : ByteArray) : gdovetaillaw13_AsmtextTwice 8000000 s = some true := by
  unfold gdovetaillaw13_AsmtextTwice
  have ha := alive_eq 7999900
  rw [show 7999900 + 100 = 8000000 from rfl] at ha
  rw [ha, parse_val 8000000 s (by omega)]
  obtain ⟨x, a, e, hx⟩ : ∃ x a e, parseS (bs s) = (x, a, e) := ⟨_, _, _, rfl⟩
  rw [hx]
  obtain ⟨h1, h2⟩ := parseS_facts (fun c hc => bs_byte hc) hx
  simp only [Option.bind_some, Bool.not_true, cond_false]
  by_cases he : e = 0
  · obtain ⟨g1, g2, g3, g4, g5⟩ := h2 he
    have : (e != 0) = false := by simpa using he
    rw [this]
    simp only [cond_false]
    have hsm : ∀ u ∈ x, SmallL u ∧ u.f_Toks.length ≤ 1048576 ∧ tsize u.f_Toks ≤ 1048576 := fun u hu => by
      obtain ⟨k1, k2, k3⟩ := small_of (g2 u hu) (g5 u hu)
      exact ⟨k1, by omega, k3⟩
    have hfew : x.any manyX = false := by
      rw [List.any_eq_false]
      intro u hu
      have := g2 u hu
      simp only [manyX, decide_eq_true_eq]; omega
    rw [Print_eq 8000000 x hsm (by omega) (by omega) g1 g4, hfew]
    by_cases hp : 262144 < (printP x).length
    · rw [if_pos (.inr hp)]; rfl
    · rw [if_neg (by simp; omega)]
      simp only [Option.bind_some]
      have hb : bs (ofB (printP x)) = printP x := bs_ofB (fun c hc => by
        unfold printP at hc
        rcases List.mem_append.1 hc with hc | hc
        · exact bodyP_byte x 0 1 g1 c hc
        · split at hc
          · cases hc
          · rw [List.mem_singleton] at hc; omega)
      rw [parse_val 8000000 _ (by omega), hb, parse_print x g1 g2 (by omega)]
      simp only [Option.bind_some, bne_self_eq_false, cond_false, beq_self_eq_true, cond_true]
      rw [same_refl 8000000 x (by omega) (by omega) (fun u hu => ⟨by have := g2 u hu; omega, by have := g2 u hu; omega⟩)]
      rfl
  · have : (e != 0) = true := by simpa using he
    rw [this, h1 he]
    rfl
end Go.DM
namespace Go.DM
open Go

/-! names, for any text -/
theorem letter_all (n : Nat) (c : Int) : gdovetailref12_Letter n c = some (inW c && !digB c) := by
  by_cases h : inW c = true
  · rw [letter_of n h, h, Bool.true_and]
  · have h' : inW c = false := by simpa using h
    rw [h', Bool.false_and]
    unfold gdovetailref12_Letter
    congr 1
    have hi : ¬ ((65 ≤ c ∧ c ≤ 90) ∨ (97 ≤ c ∧ c ≤ 122) ∨ (48 ≤ c ∧ c ≤ 57) ∨ c = 95 ∨ c = 46 ∨ c = 36) := fun e => h ((inW_iff c).2 e)
    simp only [Bool.or_eq_false_iff, Bool.and_eq_false_iff, decide_eq_false_iff_not, beq_eq_false_iff_ne, ne_eq]
    omega
theorem nameR_loop (N : Nat) (s : ByteArray) (hs : s.size ≤ 1048576) : ∀ (k y m : Nat), s.size - y ≤ k → k < m → y ≤ s.size → gdovetailref12_Name_L1 N s m (y : Int) = some (if ((bs s).drop y).all inW = true then .out () else .ret false) := by
  intro k
  induction k with
  | zero =>
    intro y m hk hm hy
    obtain ⟨m, rfl⟩ : ∃ m', m = m' + 1 := ⟨m - 1, by omega⟩
    have hlen := bs_length s
    rw [gdovetailref12_Name_L1]
    have h1 : decide ((y : Int) < (s.size : Nat)) = false := by simp; omega
    rw [h1, List.drop_eq_nil_of_le (by omega)]; rfl
  | succ k ih =>
    intro y m hk hm hy
    obtain ⟨m, rfl⟩ : ∃ m', m = m' + 1 := ⟨m - 1, by omega⟩
    have hlen := bs_length s
    rw [gdovetailref12_Name_L1]
    rcases hl : (bs s).drop y with _ | ⟨c, r⟩
    · have := drop_nil_le hl
      have h1 : decide ((y : Int) < (s.size : Nat)) = false := by simp; omega
      rw [h1]; rfl
    · obtain ⟨hc, hr, hlt⟩ := drop_cons_at hl
      have h1 : decide ((y : Int) < (s.size : Nat)) = true := by simp; omega
      rw [h1, atS_bs, hc]
      have hd : gdovetailref12_Digit N c = some (digB c) := rfl
      simp only [cond_true, Option.bind_some, letter_all N c, hd]
      rw [w64_succ (by omega), ih (y + 1) m (by omega) (by omega) (by omega), hr, List.all_cons]
      cases hw : inW c
      · have hg : digB c = false := by
          unfold digB
          have hi : ¬ ((65 ≤ c ∧ c ≤ 90) ∨ (97 ≤ c ∧ c ≤ 122) ∨ (48 ≤ c ∧ c ≤ 57) ∨ c = 95 ∨ c = 46 ∨ c = 36) := fun e => by have := (inW_iff c).2 e; rw [hw] at this; cases this
          simp only [Bool.and_eq_false_iff, decide_eq_false_iff_not]; omega
        rw [hg]; rfl
      · cases digB c <;> rfl
theorem nameR_eq (n : Nat) (s : ByteArray) (hs : s.size ≤ 1048576) (hn : s.size < n) : gdovetailref12_Name n s = some (nameB s) := by
  unfold gdovetailref12_Name
  rw [nameB_eq]
  rcases hl : bs s with _ | ⟨c, r⟩
  · rw [decide_eq_true (bs_nil.1 hl)]; rfl
  have hne : decide (s = ByteArray.mk #[]) = false := by
    rw [decide_eq_false_iff_not]; intro e; rw [← bs_nil, hl] at e; cases e
  have at0 : atS s 0 = some c := by have := atS_bs s 0; rw [hl] at this; exact this
  have hsz : 1 ≤ s.size := by rw [← bs_length, hl]; simp
  rw [hne]
  simp only [cond_false, at0, Option.bind_some, letter_all n c]
  have h := nameR_loop n s hs s.size 1 n (by omega) hn hsz
  rw [show ((1 : Nat) : Int) = 1 from rfl, hl] at h
  simp only [List.drop_succ_cons, List.drop_zero] at h
  simp only [List.isEmpty_cons, Bool.not_false, Bool.true_and, List.all_cons, List.headD_cons]
  cases hw : inW c
  · rfl
  · cases hg : digB c
    · simp only [Bool.not_false, Bool.and_true, Bool.not_true, cond_false, Bool.true_and]
      rw [h]
      cases r.all inW <;> rfl
    · simp
theorem dig_inW {c : Int} (hw : inW c = false) : digB c = false := by
  unfold digB
  have hi : ¬ ((65 ≤ c ∧ c ≤ 90) ∨ (97 ≤ c ∧ c ≤ 122) ∨ (48 ≤ c ∧ c ≤ 57) ∨ c = 95 ∨ c = 46 ∨ c = 36) := fun e => by have := (inW_iff c).2 e; rw [hw] at this; cases this
  simp only [Bool.and_eq_false_iff, decide_eq_false_iff_not]; omega
theorem inWord_any (N : Nat) (c : Int) : gdovetailref13_InWord N c = some (inW c) := by
  unfold gdovetailref13_InWord
  have hd : gdovetailref12_Digit N c = some (digB c) := rfl
  rw [letter_all, hd]
  cases hw : inW c
  · rw [dig_inW hw]; rfl
  · cases digB c <;> rfl
/-! the reference's Labelled, for any tokens -/
def labR : List TTok → Bool
  | a :: b :: _ => a.f_Kind == 1 && nameB a.f_Text && (b.f_Kind == 2 && decide (b.f_Text = ByteArray.mk #[58]))
  | _ => false
theorem refLab_any (n : Nat) (l : List TTok) (hs : ∀ t ∈ l, t.f_Text.size ≤ 1048576) (hn : 1048576 < n) : gdovetailref13_Labelled n l = some (labR l) := by
  unfold gdovetailref13_Labelled
  rcases l with _ | ⟨a, _ | ⟨b, l⟩⟩
  · rfl
  · rfl
  · have : decide ((((a :: b :: l).length : Nat) : Int) ≥ 2) = true := by simp; omega
    rw [this]
    have at0 : atL (a :: b :: l) 0 = some a := rfl
    have at1 : atL (a :: b :: l) 1 = some b := rfl
    have hsa := hs a (by simp)
    simp only [cond_true, at0, at1, Option.bind_some, labR, nameR_eq n a.f_Text hsa (by omega)]
    cases (a.f_Kind == 1) <;> cases nameB a.f_Text <;> cases (b.f_Kind == 2) <;> rfl
theorem labR_sound (l : List TTok) (h : l.all soundB = true) : labR l = labS l := by
  rcases l with _ | ⟨a, _ | ⟨b, l⟩⟩
  · rfl
  · rfl
  · rw [List.all_cons, Bool.and_eq_true] at h
    simp only [labR, labS]
    congr 1
    by_cases e : a.f_Kind = 1
    · have he : (a.f_Kind == 1) = true := by simpa using e
      have h1 := h.1
      unfold soundB at h1
      rw [he] at h1 ⊢
      simp only [cond_true] at h1
      rw [nameB_eq, h1, Bool.true_and]
    · have he : (a.f_Kind == 1) = false := by simpa using e
      rw [he]; rfl
/-! the reference's Sound -/
theorem soundR_loop (N : Nat) (t : TTok) (hs : t.f_Text.size ≤ 1048576) : ∀ (k y m : Nat), t.f_Text.size - y ≤ k → k < m → y ≤ t.f_Text.size → gdovetailref13_Sound_L1 N t m (y : Int) = some (if ((bs t.f_Text).drop y).all inW = true then .out () else .ret false) := by
  intro k
  induction k with
  | zero =>
    intro y m hk hm hy
    obtain ⟨m, rfl⟩ : ∃ m', m = m' + 1 := ⟨m - 1, by omega⟩
    have hlen := bs_length t.f_Text
    rw [gdovetailref13_Sound_L1]
    have h1 : decide ((y : Int) < (t.f_Text.size : Nat)) = false := by simp; omega
    rw [h1, List.drop_eq_nil_of_le (by omega)]; rfl
  | succ k ih =>
    intro y m hk hm hy
    obtain ⟨m, rfl⟩ : ∃ m', m = m' + 1 := ⟨m - 1, by omega⟩
    have hlen := bs_length t.f_Text
    rw [gdovetailref13_Sound_L1]
    rcases hl : (bs t.f_Text).drop y with _ | ⟨c, r⟩
    · have := drop_nil_le hl
      have h1 : decide ((y : Int) < (t.f_Text.size : Nat)) = false := by simp; omega
      rw [h1]; rfl
    · obtain ⟨hc, hr, hlt⟩ := drop_cons_at hl
      have h1 : decide ((y : Int) < (t.f_Text.size : Nat)) = true := by simp; omega
      rw [h1, atS_bs, hc]
      simp only [cond_true, Option.bind_some, inWord_any N c]
      rw [w64_succ (by omega), ih (y + 1) m (by omega) (by omega) (by omega), hr, List.all_cons]
      cases hw : inW c <;> rfl
theorem soundR_eq (n : Nat) (t : TTok) (hs : t.f_Text.size ≤ 1048576) (hn : 1048576 < n) : gdovetailref13_Sound n t = some (soundB t) := by
  unfold gdovetailref13_Sound soundB
  cases t.f_Kind == 1
  · cases t.f_Kind == 2
    · rfl
    · simp only [cond_false, cond_true]
      rcases hl : bs t.f_Text with _ | ⟨c, _ | ⟨d, l⟩⟩
      · have : (((t.f_Text.size : Nat) : Int) == 1) = false := by rw [← bs_length, hl]; rfl
        rw [this]; rfl
      · have : (((t.f_Text.size : Nat) : Int) == 1) = true := by rw [← bs_length, hl]; rfl
        have at0 : atS t.f_Text 0 = some c := by have := atS_bs t.f_Text 0; rw [hl] at this; exact this
        rw [this, at0]
        simp only [cond_true, Option.bind_some, sign_eq n c (by omega)]
      · have : (((t.f_Text.size : Nat) : Int) == 1) = false := by
          rw [← bs_length, hl]; simp only [List.length_cons, beq_eq_false_iff_ne, ne_eq]; omega
        rw [this]; rfl
  · simp only [cond_true]
    have h := soundR_loop n t hs t.f_Text.size 0 n (by omega) (by omega) (by omega)
    rw [show ((0 : Nat) : Int) = 0 from rfl, List.drop_zero] at h
    rw [h, isEmpty_eq]
    cases (bs t.f_Text).all inW
    · rw [Bool.and_false]; rfl
    · rw [Bool.and_true]; rfl
/-! the reference's Right -/
theorem rightR_L2 (N : Nat) (x : TLine) (hx : SmallL x) (hN : 1048576 < N) : ∀ (k y m : Nat), x.f_Labels.length - y ≤ k → k < m → y ≤ x.f_Labels.length → gdovetailref13_Right_L2 N x m (y : Int) = some (if (x.f_Labels.drop y).all nameB = true then .out () else .ret false) := by
  obtain ⟨s1, s2, s3, s4⟩ := hx
  intro k
  induction k with
  | zero =>
    intro y m hk hm hy
    obtain ⟨m, rfl⟩ : ∃ m', m = m' + 1 := ⟨m - 1, by omega⟩
    rw [gdovetailref13_Right_L2]
    have h1 : decide ((y : Int) < ((x.f_Labels.length : Nat) : Int)) = false := by simp; omega
    rw [h1, List.drop_eq_nil_of_le (by omega)]; rfl
  | succ k ih =>
    intro y m hk hm hy
    obtain ⟨m, rfl⟩ : ∃ m', m = m' + 1 := ⟨m - 1, by omega⟩
    rw [gdovetailref13_Right_L2]
    rcases Nat.lt_or_ge y x.f_Labels.length with hlt | hge
    · have h1 : decide ((y : Int) < ((x.f_Labels.length : Nat) : Int)) = true := by simp; omega
      have hx : x.f_Labels[y]? = some x.f_Labels[y] := by simp [hlt]
      have hsz := s3 _ (List.getElem_mem hlt)
      rw [h1, atL_nat, hx]
      simp only [cond_true, Option.bind_some, nameR_eq N _ hsz (by omega)]
      rw [w64_succ (by omega), ih (y + 1) m (by omega) (by omega) (by omega), List.drop_eq_getElem_cons hlt, List.all_cons]
      cases nameB x.f_Labels[y] <;> rfl
    · have h1 : decide ((y : Int) < ((x.f_Labels.length : Nat) : Int)) = false := by simp; omega
      rw [h1, List.drop_eq_nil_of_le hge]; rfl
theorem rightR_L3 (N : Nat) (x : TLine) (hx : SmallL x) (hN : 1048576 < N) : ∀ (k y m : Nat), x.f_Toks.length - y ≤ k → k < m → y ≤ x.f_Toks.length → gdovetailref13_Right_L3 N x m (y : Int) = some (if (x.f_Toks.drop y).all soundB = true then .out () else .ret false) := by
  obtain ⟨s1, s2, s3, s4⟩ := hx
  intro k
  induction k with
  | zero =>
    intro y m hk hm hy
    obtain ⟨m, rfl⟩ : ∃ m', m = m' + 1 := ⟨m - 1, by omega⟩
    rw [gdovetailref13_Right_L3]
    have h1 : decide ((y : Int) < ((x.f_Toks.length : Nat) : Int)) = false := by simp; omega
    rw [h1, List.drop_eq_nil_of_le (by omega)]; rfl
  | succ k ih =>
    intro y m hk hm hy
    obtain ⟨m, rfl⟩ : ∃ m', m = m' + 1 := ⟨m - 1, by omega⟩
    rw [gdovetailref13_Right_L3]
    rcases Nat.lt_or_ge y x.f_Toks.length with hlt | hge
    · have h1 : decide ((y : Int) < ((x.f_Toks.length : Nat) : Int)) = true := by simp; omega
      have hx : x.f_Toks[y]? = some x.f_Toks[y] := by simp [hlt]
      have hsz := s4 _ (List.getElem_mem hlt)
      rw [h1, atL_nat, hx]
      simp only [cond_true, Option.bind_some, soundR_eq N _ hsz (by omega)]
      rw [w64_succ (by omega), ih (y + 1) m (by omega) (by omega) (by omega), List.drop_eq_getElem_cons hlt, List.all_cons]
      cases soundB x.f_Toks[y] <;> rfl
    · have h1 : decide ((y : Int) < ((x.f_Toks.length : Nat) : Int)) = false := by simp; omega
      rw [h1, List.drop_eq_nil_of_le hge]; rfl
theorem rightR_L1 (N : Nat) (l : List TLine) (hll : l.length ≤ 1048576) (hs : ∀ x ∈ l, SmallL x) (hN : 1048576 < N) : ∀ (k y m : Nat) (last : Int), l.length - y ≤ k → k < m → y ≤ l.length → gdovetailref13_Right_L1 N l m last (y : Int) = some (if rightL last (l.drop y) = true then .out () else .ret false) := by
  intro k
  induction k with
  | zero =>
    intro y m last hk hm hy
    obtain ⟨m, rfl⟩ : ∃ m', m = m' + 1 := ⟨m - 1, by omega⟩
    rw [gdovetailref13_Right_L1]
    have h1 : decide ((y : Int) < ((l.length : Nat) : Int)) = false := by simp; omega
    rw [h1, List.drop_eq_nil_of_le (by omega)]; rfl
  | succ k ih =>
    intro y m last hk hm hy
    obtain ⟨m, rfl⟩ : ∃ m', m = m' + 1 := ⟨m - 1, by omega⟩
    rw [gdovetailref13_Right_L1]
    rcases Nat.lt_or_ge y l.length with hlt | hge
    · have h1 : decide ((y : Int) < ((l.length : Nat) : Int)) = true := by simp; omega
      have hx : l[y]? = some l[y] := by simp [hlt]
      have hsm := hs l[y] (List.getElem_mem hlt)
      rw [h1, atL_nat, hx, w64_succ (by omega), List.drop_eq_getElem_cons hlt]
      generalize l[y] = x at hsm
      have e2 := rightR_L2 N x hsm hN x.f_Labels.length 0 N (by omega) (by have := hsm.1; omega) (by omega)
      have e3 := rightR_L3 N x hsm hN x.f_Toks.length 0 N (by omega) (by have := hsm.2.1; omega) (by omega)
      rw [show ((0 : Nat) : Int) = 0 from rfl, List.drop_zero] at e2 e3
      obtain ⟨s1, s2, s3, s4⟩ := hsm
      have e1 : (((decide (x.f_No ≤ last)) || (decide (x.f_No > 16384))) || ((IntKind.wrap .i64 (((x.f_Labels.length : Nat) : Int) + ((x.f_Toks.length : Nat) : Int))) == 0)) = !((decide (x.f_No > last) && decide (x.f_No ≤ 16384)) && decide (0 < x.f_Labels.length + x.f_Toks.length)) := by
        rw [w64 (by omega) (by omega), Bool.eq_iff_iff]
        simp only [Bool.or_eq_true, Bool.not_eq_true', Bool.and_eq_false_iff, decide_eq_true_eq, decide_eq_false_iff_not, beq_iff_eq]
        omega
      simp only [cond_true, Option.bind_some]
      rw [e1, rightL, refLab_any N x.f_Toks s4 hN, e2, e3]
      unfold rightX
      cases (decide (x.f_No > last) && decide (x.f_No ≤ 16384) && decide (0 < x.f_Labels.length + x.f_Toks.length))
      · rfl
      cases hb : labR x.f_Toks
      · cases x.f_Labels.all nameB
        · rfl
        cases ht : x.f_Toks.all soundB
        · rfl
        rw [← labR_sound _ ht, hb]
        simp only [Bool.not_true, cond_false, Option.bind_some, if_true, Bool.not_false, Bool.and_self, Bool.true_and]
        exact ih (y + 1) m x.f_No (by omega) (by omega) (by omega)
      · have : (x.f_Toks.all soundB && !labS x.f_Toks) = false := by
          cases ht : x.f_Toks.all soundB
          · rfl
          · rw [← labR_sound _ ht, hb]; rfl
        have hf : (((true && x.f_Labels.all nameB) && x.f_Toks.all soundB) && !labS x.f_Toks) = false := by
          rw [Bool.and_assoc, this, Bool.and_false]
        rw [hf]; rfl
    · have h1 : decide ((y : Int) < ((l.length : Nat) : Int)) = false := by simp; omega
      rw [h1, List.drop_eq_nil_of_le hge]; rfl
theorem rightR_eq (n : Nat) (l : List TLine) (hll : l.length ≤ 1048576) (hs : ∀ x ∈ l, SmallL x) (hn : 1048576 < n) : gdovetailref13_Right n l = some (rightL 0 l) := by
  unfold gdovetailref13_Right
  have h := rightR_L1 n l hll hs hn l.length 0 n 0 (by omega) (by omega) (by omega)
  rw [show ((0 : Nat) : Int) = 0 from rfl, List.drop_zero] at h
  rw [h]
  cases rightL 0 l <;> rfl
end Go.DM
namespace Go.DM
open Go

/-! the reference's Print -/
theorem printR_L2 (N : Nat) (x : TLine) (hno : x.f_No ≤ 16384) : ∀ (k a m : Nat) (acc : List Int), x.f_No.toNat - a ≤ k → k < m → (a : Int) ≤ x.f_No → acc.length + (x.f_No.toNat - a) ≤ 8000000 →
    gdovetailref13_Print_L2 N x m acc (a : Int) = some (acc ++ List.replicate (x.f_No.toNat - a) 10, x.f_No) := by
  intro k
  induction k with
  | zero =>
    intro a m acc hk hm ha hz
    obtain ⟨m, rfl⟩ : ∃ m', m = m' + 1 := ⟨m - 1, by omega⟩
    rw [gdovetailref13_Print_L2]
    have h1 : decide ((a : Int) < x.f_No) = false := by simp; omega
    have h2 : (a : Int) = x.f_No := by omega
    have h3 : x.f_No.toNat - a = 0 := by omega
    rw [h1, h3, h2]; simp
  | succ k ih =>
    intro a m acc hk hm ha hz
    obtain ⟨m, rfl⟩ : ∃ m', m = m' + 1 := ⟨m - 1, by omega⟩
    rw [gdovetailref13_Print_L2]
    by_cases hlt : (a : Int) < x.f_No
    · have h1 : decide ((a : Int) < x.f_No) = true := by simpa using hlt
      have h3 : x.f_No.toNat - a = (x.f_No.toNat - (a + 1)) + 1 := by omega
      rw [h1, appL_ok (by simp; omega) (by omega), w64_succ (by omega), h3, List.replicate_succ]
      simp only [cond_true, Option.bind_some]
      rw [ih (a + 1) m _ (by omega) (by omega) (by omega) (by simp; omega)]
      simp
    · have h1 : decide ((a : Int) < x.f_No) = false := by simpa using hlt
      have h2 : (a : Int) = x.f_No := by omega
      have h3 : x.f_No.toNat - a = 0 := by omega
      rw [h1, h3, h2]; simp
theorem printR_L3 (n : Nat) (x : TLine) (hx : SmallL x) : ∀ (k y m : Nat) (acc : List Int), x.f_Labels.length - y ≤ k → k < m → y ≤ x.f_Labels.length → acc.length + ((x.f_Labels.drop y).flatMap labP).length ≤ 8000000 →
    gdovetailref13_Print_L3 n x m acc (y : Int) = some (acc ++ (x.f_Labels.drop y).flatMap labP) := by
  obtain ⟨s1, s2, s3, s4⟩ := hx
  intro k
  induction k with
  | zero =>
    intro y m acc hk hm hy ha
    obtain ⟨m, rfl⟩ : ∃ m', m = m' + 1 := ⟨m - 1, by omega⟩
    rw [gdovetailref13_Print_L3]
    have h1 : decide ((y : Int) < ((x.f_Labels.length : Nat) : Int)) = false := by simp; omega
    rw [h1, List.drop_eq_nil_of_le (by omega)]
    simp
  | succ k ih =>
    intro y m acc hk hm hy ha
    obtain ⟨m, rfl⟩ : ∃ m', m = m' + 1 := ⟨m - 1, by omega⟩
    rw [gdovetailref13_Print_L3]
    rcases Nat.lt_or_ge y x.f_Labels.length with hlt | hge
    · have h1 : decide ((y : Int) < ((x.f_Labels.length : Nat) : Int)) = true := by simp; omega
      have hx : x.f_Labels[y]? = some x.f_Labels[y] := by simp [hlt]
      rw [List.drop_eq_getElem_cons hlt, List.flatMap_cons] at ha ⊢
      rw [h1, atL_nat, hx, w64_succ (by omega)]
      simp only [cond_true, Option.bind_some]
      generalize x.f_Labels[y] = s at ha
      have hlab : labP s = bs s ++ [58, 32] := rfl
      rw [hlab] at ha ⊢
      simp only [List.length_append, List.length_cons, List.length_nil] at ha
      rw [appL_ok (by omega) (by omega), Option.bind_some, appL_ok (by simp; omega) (by omega), Option.bind_some, ih (y + 1) m _ (by omega) (by omega) (by omega) (by simp only [List.length_append, List.length_cons, List.length_nil]; omega)]
      simp
    · have h1 : decide ((y : Int) < ((x.f_Labels.length : Nat) : Int)) = false := by simp; omega
      rw [h1, List.drop_eq_nil_of_le hge]
      simp
theorem printR_L1 (n : Nat) (l : List TLine) (hs : ∀ x ∈ l, SmallL x ∧ x.f_Toks.length ≤ 1048576 ∧ tsize x.f_Toks ≤ 1048576) (hll : l.length ≤ 1048576) (hn : 1048576 < n) : ∀ (k y m a : Nat) (acc : List Int), l.length - y ≤ k → k < m → y ≤ l.length → a ≤ 16384 → Rise a (l.drop y) ∨ (y = 0 ∧ Rise 0 l ∧ a = 1) →
    acc.length + lsizes (l.drop y) + (16384 - a) ≤ 7000000 →
    gdovetailref13_Print_L1 n l m acc (a : Int) (y : Int) = some (if (l.drop y).any manyX = true then .ret (ByteArray.mk #[], 133) else .out (acc ++ bodyP a (l.drop y))) := by
  intro k
  induction k with
  | zero =>
    intro y m a acc hk hm hy ha hr hz
    obtain ⟨m, rfl⟩ : ∃ m', m = m' + 1 := ⟨m - 1, by omega⟩
    rw [gdovetailref13_Print_L1]
    have h1 : decide ((y : Int) < ((l.length : Nat) : Int)) = false := by simp; omega
    rw [h1, List.drop_eq_nil_of_le (by omega)]
    simp [bodyP]
  | succ k ih =>
    intro y m a acc hk hm hy ha hr hz
    obtain ⟨m, rfl⟩ : ∃ m', m = m' + 1 := ⟨m - 1, by omega⟩
    rw [gdovetailref13_Print_L1]
    rcases Nat.lt_or_ge y l.length with hlt | hge
    · have h1 : decide ((y : Int) < ((l.length : Nat) : Int)) = true := by simp; omega
      have hx : l[y]? = some l[y] := by simp [hlt]
      obtain ⟨hsm, hs2, hs3⟩ := hs l[y] (List.getElem_mem hlt)
      rw [lsizes_drop l y hlt] at hz
      have hrise : LineR l[y] ∧ (a : Int) ≤ l[y].f_No ∧ l[y].f_No ≤ 16384 ∧ Rise l[y].f_No.toNat (l.drop (y + 1)) := by
        rcases hr with hr | ⟨rfl, hr, rfl⟩
        · rw [List.drop_eq_getElem_cons hlt] at hr
          obtain ⟨g1, g2, g3, g4⟩ := hr
          exact ⟨g1, by omega, g3, g4⟩
        · have : l = l[0] :: l.drop 1 := by conv => lhs; rw [← List.drop_zero (l := l), List.drop_eq_getElem_cons hlt]
          rw [this] at hr
          obtain ⟨g1, g2, g3, g4⟩ := hr
          have hlo := g1.lo
          exact ⟨g1, by omega, g3, g4⟩
      rw [h1, atL_nat, hx, w64_succ (by omega), List.drop_eq_getElem_cons hlt, bodyP]
      generalize l[y] = x at hrise hsm hs2 hs3 hz
      obtain ⟨g1, g2, g3, g4⟩ := hrise
      have e2 : decide (IntKind.wrap .i64 ((IntKind.wrap .i64 (2 * ((x.f_Labels.length : Nat) : Int))) + ((x.f_Toks.length : Nat) : Int)) > 64) = manyX x := by
        obtain ⟨s1, s2, s3, s4⟩ := hsm
        unfold manyX
        rw [w64 (n := 2 * ((x.f_Labels.length : Nat) : Int)) (by omega) (by omega), w64 (by omega) (by omega)]
        by_cases h : 64 < 2 * x.f_Labels.length + x.f_Toks.length
        · rw [decide_eq_true h, decide_eq_true (by omega)]
        · rw [decide_eq_false h, decide_eq_false (by omega)]
      simp only [cond_true, Option.bind_some]
      rw [e2, List.any_cons]
      cases hm0 : manyX x
      · have h64 : x.f_Toks.length ≤ 64 := by simp only [manyX, decide_eq_false_iff_not] at hm0; omega
        have hlz : lsize x = (x.f_Labels.flatMap labP).length + 4 * tsize x.f_Toks + 3 * x.f_Toks.length := rfl
        have hjl := joinP_len x.f_Toks
        have hb2 : bs (ofB (joinP x.f_Toks)) = joinP x.f_Toks := bs_ofB (fun c hc => by have := joinP_ge _ g1.toks c hc; omega)
        simp only [cond_false]
        rw [printR_L2 n x g3 (x.f_No.toNat - a) a n acc (Nat.le_refl _) (by omega) g2 (by omega)]
        simp only [Option.bind_some]
        have e3 := printR_L3 n x hsm x.f_Labels.length 0 n (acc ++ List.replicate (x.f_No.toNat - a) 10) (by omega) (by have := hsm.1; omega) (by omega) (by simp only [List.drop_zero, List.length_append, List.length_replicate]; omega)
        rw [show ((0 : Nat) : Int) = 0 from rfl, List.drop_zero] at e3
        rw [e3, Option.bind_some, refJoin_eq n _ h64 hs3 hn, Option.bind_some, hb2, appL_ok (by simp only [List.length_append, List.length_replicate]; omega) (by omega), Option.bind_some]
        have hno : x.f_No = ((x.f_No.toNat : Nat) : Int) := by omega
        have e := ih (y + 1) m x.f_No.toNat (acc ++ List.replicate (x.f_No.toNat - a) 10 ++ x.f_Labels.flatMap labP ++ joinP x.f_Toks) (by omega) (by omega) (by omega) (by omega) (.inl g4) (by simp only [List.length_append, List.length_replicate]; omega)
        rw [← hno] at e
        rw [e, Bool.false_or]
        simp [lineP]
      · rfl
    · have h1 : decide ((y : Int) < ((l.length : Nat) : Int)) = false := by simp; omega
      rw [h1, List.drop_eq_nil_of_le hge]
      simp [bodyP]
/-- what both Prints come to -/
def printS (l : List TLine) : ByteArray × Int := if rightL 0 l = true then (if l.any manyX = true ∨ 262144 < (printP l).length then (ByteArray.mk #[], 133) else (ofB (printP l), 0)) else (ByteArray.mk #[], 131)
theorem printA_eq (n : Nat) (l : List TLine) (hs : ∀ x ∈ l, SmallL x ∧ x.f_Toks.length ≤ 1048576 ∧ tsize x.f_Toks ≤ 1048576) (hll : l.length ≤ 1048576) (hn : 1048576 < n) (hz : lsizes l ≤ 6000000) :
    gasmtext_Print n l = some (printS l) := by
  unfold printS
  cases hr : rightL 0 l
  · unfold gasmtext_Print
    have h1 := print_L1 n l hll (fun x hx => (hs x hx).1) hn l.length 0 n 0 false (by omega) (by omega) (by omega)
    rw [show ((0 : Nat) : Int) = 0 from rfl, List.drop_zero, hr] at h1
    rw [h1]; rfl
  · rw [if_pos rfl]
    exact Print_eq n l hs hll hn (rise_of l 0 hr) hz
theorem printR_eq (n : Nat) (l : List TLine) (hs : ∀ x ∈ l, SmallL x ∧ x.f_Toks.length ≤ 1048576 ∧ tsize x.f_Toks ≤ 1048576) (hll : l.length ≤ 1048576) (hn : 1048576 < n) (hz : lsizes l ≤ 6000000) :
    gdovetailref13_Print n l = some (printS l) := by
  unfold gdovetailref13_Print printS
  rw [rightR_eq n l hll (fun x hx => (hs x hx).1) hn]
  simp only [Option.bind_some]
  cases hr : rightL 0 l
  · rfl
  have hr' := rise_of l 0 hr
  have h2 := printR_L1 n l hs hll hn l.length 0 n 1 [] (by omega) (by omega) (by omega) (by omega) (.inr ⟨rfl, hr', rfl⟩) (by simp only [List.length_nil, List.drop_zero]; omega)
  rw [show ((0 : Nat) : Int) = 0 from rfl, show ((1 : Nat) : Int) = 1 from rfl, List.drop_zero, List.nil_append] at h2
  rw [h2]
  simp only [Bool.not_true, cond_false, if_true]
  cases hm : l.any manyX
  · have hbl := bodyP_len l 1 (by omega) (.inr ⟨hr', rfl⟩)
    have h3 : (cond (decide (((l.length : Nat) : Int) > 0)) ((appL 1 (bodyP 1 l) [10]).bind fun l562 => some l562) (some (bodyP 1 l)) : Option (List Int)) = some (printP l) := by
      unfold printP
      rcases l with _ | ⟨x, r⟩
      · rfl
      · rw [if_neg (by simp), decide_eq_true (by simp only [List.length_cons]; omega), cond_true, appL_ok (by simp; omega) (by omega)]; rfl
    simp only [Bool.false_eq_true, if_false, Option.bind_some]
    rw [h3]
    simp only [Option.bind_some, false_or]
    by_cases h4 : 262144 < (printP l).length
    · rw [decide_eq_true (show ((((printP l).length : Nat) : Int) > 262144) by omega), if_pos h4]; rfl
    · rw [decide_eq_false (show ¬ ((((printP l).length : Nat) : Int) > 262144) by omega), if_neg h4]; rfl
  · simp only [if_true, Option.bind_some, true_or]
/-! Copy -/
theorem copy_loop (N : Nat) (l : List TLine) (hll : l.length ≤ 1048576) (hs : ∀ x ∈ l, SmallL x) : ∀ (k y m : Nat), l.length - y ≤ k → k < m → y ≤ l.length → gdovetailref13_Copy_L1 N l m (l.take y) (y : Int) = some l := by
  intro k
  induction k with
  | zero =>
    intro y m hk hm hy
    obtain ⟨m, rfl⟩ : ∃ m', m = m' + 1 := ⟨m - 1, by omega⟩
    rw [gdovetailref13_Copy_L1]
    have h1 : decide ((y : Int) < ((l.length : Nat) : Int)) = false := by simp; omega
    rw [h1, List.take_of_length_le (by omega)]; rfl
  | succ k ih =>
    intro y m hk hm hy
    obtain ⟨m, rfl⟩ : ∃ m', m = m' + 1 := ⟨m - 1, by omega⟩
    rw [gdovetailref13_Copy_L1]
    rcases Nat.lt_or_ge y l.length with hlt | hge
    · have h1 : decide ((y : Int) < ((l.length : Nat) : Int)) = true := by simp; omega
      have hx : l[y]? = some l[y] := by simp [hlt]
      obtain ⟨s1, s2, s3, s4⟩ := hs l[y] (List.getElem_mem hlt)
      rw [h1, atL_nat, hx, w64_succ (by omega)]
      simp only [cond_true, Option.bind_some]
      rw [appL_ok (by simp; omega) (by omega), Option.bind_some, appL_ok (by simp; omega) (by omega), Option.bind_some, appL_ok (by simp; omega) (by omega)]
      simp only [Option.bind_some, List.nil_append]
      have e := ih (y + 1) m (by omega) (by omega) (by omega)
      rw [List.take_add_one, hx] at e
      exact e
    · have h1 : decide ((y : Int) < ((l.length : Nat) : Int)) = false := by simp; omega
      rw [h1, List.take_of_length_le hge]; rfl
theorem copy_eq (n : Nat) (l : List TLine) (hll : l.length ≤ 1048576) (hs : ∀ x ∈ l, SmallL x) (hn : 1048576 < n) : gdovetailref13_Copy n l = some l := by
  unfold gdovetailref13_Copy
  have h := copy_loop n l hll hs l.length 0 n (by omega) (by omega) (by omega)
  rw [show ((0 : Nat) : Int) = 0 from rfl, List.take_zero] at h
  rw [h]; rfl
theorem prints_law (l : List TLine) (hs : ∀ x ∈ l, SmallL x ∧ x.f_Toks.length ≤ 1048576 ∧ tsize x.f_Toks ≤ 1048576) (hll : l.length ≤ 1048576) (hz : lsizes l ≤ 6000000) : gdovetaillaw13_AsmtextPrints 8000000 l = some true := by
  unfold gdovetaillaw13_AsmtextPrints
  have ha := alive_eq 7999900
  rw [show 7999900 + 100 = 8000000 from rfl] at ha
  have hsm : ∀ x ∈ l, SmallL x := fun x hx => (hs x hx).1
  rw [ha, copy_eq 8000000 l hll hsm (by omega), printR_eq 8000000 l hs hll (by omega) hz]
  simp only [Option.bind_some, Bool.not_true, cond_false]
  rw [printA_eq 8000000 l hs hll (by omega) hz]
  obtain ⟨s, f, hsf⟩ : ∃ s f, printS l = (s, f) := ⟨_, _, rfl⟩
  rw [hsf]
  have hsame := same_refl 8000000 l hll (by omega) (fun u hu => ⟨(hsm u hu).1, (hsm u hu).2.1⟩)
  simp only [Option.bind_some, bne_self_eq_false, decide_true, Bool.not_true, Bool.or_self, cond_false]
  rw [hsame]
  simp only [Option.bind_some, Bool.not_true, cond_false]
  by_cases h0 : f = 0
  · subst h0
    simp only [bne_self_eq_false, cond_false]
    unfold printS at hsf
    split at hsf
    · rename_i hr
      split at hsf
      · cases hsf
      · rename_i hnp
        cases hsf
        have hnp1 : l.any manyX = false := by
          cases h : l.any manyX
          · rfl
          · exact absurd (.inl h) hnp
        have hnp2 : (printP l).length ≤ 262144 := by
          rcases Nat.lt_or_ge 262144 (printP l).length with h | h
          · exact absurd (.inr h) hnp
          · exact h
        have g1 := rise_of l 0 hr
        have g2 : Few l := fun u hu => by
          have := List.any_eq_false.1 hnp1 u hu
          simp only [manyX, decide_eq_true_eq] at this; omega
        have hb : bs (ofB (printP l)) = printP l := bs_ofB (fun c hc => by
          unfold printP at hc
          rcases List.mem_append.1 hc with hc | hc
          · exact bodyP_byte l 0 1 g1 c hc
          · split at hc
            · cases hc
            · rw [List.mem_singleton] at hc; omega)
        rw [parse_val 8000000 _ (by omega), hb, parse_print l g1 g2 hnp2]
        simp only [Option.bind_some, beq_self_eq_true, Bool.and_self, cond_true]
        rw [hsame]; rfl
    · cases hsf
  · have : (f != 0) = true := by simpa using h0
    rw [this]; rfl
end Go.DM
