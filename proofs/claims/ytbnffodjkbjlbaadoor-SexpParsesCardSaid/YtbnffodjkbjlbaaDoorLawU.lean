/- What the program's Parse comes to, its places of errors too. No condition. -/
import Derived.Test.YtbnffodjkbjlbaaDoorLawT
namespace Go.DM
open Go
set_option maxRecDepth 100000
theorem nl_all : ∀ {r : List Int}, (∀ x ∈ r, x ≠ 10) → r.takeWhile nl = r ∧ r.dropWhile nl = []
  | [], _ => ⟨rfl, rfl⟩
  | c :: r, h => by
    have h1 : nl c = true := by have := h c (by simp); simpa [nl] using this
    obtain ⟨h2, h3⟩ := nl_all (r := r) (fun x hx => h x (List.mem_cons_of_mem _ hx))
    rw [List.takeWhile_cons, List.dropWhile_cons, h1, h2, h3]; exact ⟨rfl, rfl⟩
theorem nl_cut : ∀ {u : List Int} (v : List Int), (∀ x ∈ u, x ≠ 10) → (u ++ 10 :: v).takeWhile nl = u ∧ (u ++ 10 :: v).dropWhile nl = 10 :: v
  | [], v, _ => ⟨rfl, rfl⟩
  | c :: r, v, h => by
    have h1 : nl c = true := by have := h c (by simp); simpa [nl] using this
    obtain ⟨h2, h3⟩ := nl_cut (u := r) v (fun x hx => h x (List.mem_cons_of_mem _ hx))
    rw [List.cons_append, List.takeWhile_cons, List.dropWhile_cons, h1, h2, h3]; exact ⟨rfl, rfl⟩
def SkipP (s : ByteArray) (y y' : Nat) : Prop := y ≤ y' ∧ y' ≤ s.size ∧ toksP y ((bs s).drop y) = toksP y' ((bs s).drop y') ∧ ∀ c r, (bs s).drop y' = c :: r → c ≠ 32 ∧ c ≠ 10 ∧ c ≠ 59
theorem skipP_loop (N : Nat) (s : ByteArray) (hs : s.size ≤ 6000000) : ∀ (k y m : Nat), s.size - y ≤ k → k < m → y ≤ s.size →
    ∃ y' : Nat, (gsexp_parser__skip_L1 N s m (y : Int) = some (.out (y' : Int)) ∨ gsexp_parser__skip_L1 N s m (y : Int) = some (.ret (y' : Int))) ∧ SkipP s y y' := by
  intro k
  induction k with
  | zero =>
    intro y m hk hm hy
    obtain ⟨m, rfl⟩ : ∃ m', m = m' + 1 := ⟨m - 1, by omega⟩
    have hlen := bs_length s
    rw [gsexp_parser__skip_L1]
    have h1 : decide (((y : Nat) : Int) < ((s.size : Nat) : Int)) = false := by simp; omega
    rw [h1]
    refine ⟨y, .inl rfl, by omega, hy, rfl, fun c r h => ?_⟩
    rw [List.drop_eq_nil_of_le (by omega)] at h; cases h
  | succ k ih =>
    intro y m hk hm hy
    obtain ⟨m, rfl⟩ : ∃ m', m = m' + 1 := ⟨m - 1, by omega⟩
    have hlen := bs_length s
    rw [gsexp_parser__skip_L1]
    rcases hl : (bs s).drop y with _ | ⟨c, r⟩
    · have := drop_nil_le hl
      have h1 : decide (((y : Nat) : Int) < ((s.size : Nat) : Int)) = false := by simp; omega
      rw [h1]
      refine ⟨y, .inl rfl, by omega, hy, rfl, fun c r h => ?_⟩
      rw [hl] at h; cases h
    obtain ⟨hc, hr, hlt⟩ := drop_cons_at hl
    have h1 : decide (((y : Nat) : Int) < ((s.size : Nat) : Int)) = true := by simp; omega
    rw [h1, atS_bs, hc]
    simp only [Option.bind_some, cond_true]
    by_cases hw : c = 32 ∨ c = 10
    · have h2 : (c == 32 || c == 10) = true := by simpa using hw
      rw [h2, w64_succ (by omega)]
      obtain ⟨y', g1, g2, g3, g4, g5⟩ := ih (y + 1) m (by omega) (by omega) (by omega)
      refine ⟨y', g1, by omega, g3, ?_, g5⟩
      rw [← g4, hr, hl]
      exact tk_blank hw
    · have h2 : (c == 32 || c == 10) = false := by simpa using hw
      rw [h2]
      simp only [cond_false]
      by_cases hq : c = 59
      · subst hq
        simp only [beq_self_eq_true, cond_true]
        rw [subS_nat s y s.size (by omega) (by omega)]
        simp only [Option.bind_some]
        rcases idx10 (s.extract y s.size) with ⟨e1, e2⟩ | ⟨u, v, e1, e2, e3⟩
        · rw [e1]
          rw [bs_tail hy, hl] at e2
          have h3 : decide ((-1 : Int) < 0) = true := rfl
          simp only [Option.bind_some, h3, cond_true]
          rw [show (((s.size : Nat) : Int) - (y : Int)) = ((s.size - y : Nat) : Int) by omega, w64 (n := ((s.size - y : Nat) : Int)) (by omega) (by omega), show ((y : Int) + ((s.size - y : Nat) : Int)) = ((s.size : Nat) : Int) by omega, w64 (n := ((s.size : Nat) : Int)) (by omega) (by omega)]
          obtain ⟨y', g1, g2, g3, g4, g5⟩ := ih s.size m (by omega) (by omega) (by omega)
          refine ⟨y', g1, by omega, g3, ?_, g5⟩
          have hlr : r.length + 1 + y = s.size := by
            have := congrArg List.length hl
            rw [List.length_drop, List.length_cons] at this; omega
          obtain ⟨t1, t2⟩ := nl_all (r := r) (fun x hx => e2 x (List.mem_cons_of_mem _ hx))
          rw [← g4, hl, List.drop_eq_nil_of_le (by omega), tk_rem, t1, t2, tk_nil, tk_nil]
        · rw [e3]
          rw [bs_tail hy, hl] at e1
          have hu : u ≠ [] := fun h => by
            rw [h] at e1; simp at e1
          obtain ⟨w, u, rfl⟩ : ∃ w u', u = w :: u' := by
            cases u with
            | nil => exact absurd rfl hu
            | cons a b => exact ⟨a, b, rfl⟩
          rw [List.cons_append] at e1
          injection e1 with e1 e1'
          subst e1
          have h3 : decide (((((59 : Int) :: u).length : Nat) : Int) < 0) = false := by simp; omega
          simp only [Option.bind_some, h3, cond_false]
          have hlr : r.length + 1 + y = s.size := by
            have := congrArg List.length hl
            rw [List.length_drop, List.length_cons] at this; omega
          have hlu : u.length + 1 ≤ r.length := by rw [e1']; simp
          have hc1 : ((59 : Int) :: u).length = u.length + 1 := rfl
          rw [hc1, show ((y : Int) + ((u.length + 1 : Nat) : Int)) = ((y + (u.length + 1) : Nat) : Int) by omega, w64 (by omega) (by omega)]
          obtain ⟨y', g1, g2, g3, g4, g5⟩ := ih (y + (u.length + 1)) m (by omega) (by omega) (by omega)
          refine ⟨y', g1, by omega, g3, ?_, g5⟩
          rw [← g4]
          have hd : (bs s).drop (y + (u.length + 1)) = 10 :: v := by
            rw [← List.drop_drop, hl, List.drop_succ_cons, e1', List.drop_left]
          obtain ⟨t1, t2⟩ := nl_cut (u := u) v (fun x hx => e2 x (List.mem_cons_of_mem _ hx))
          rw [hd, hl, tk_rem, e1', t1, t2, show y + 1 + u.length = y + (u.length + 1) by omega]
      · have h3 : (c == 59) = false := by simpa using hq
        rw [h3]
        refine ⟨y, .inr rfl, by omega, hy, by rw [hl], fun c' r' h => ?_⟩
        rw [hl] at h
        injection h with h _
        subst h
        exact ⟨fun h => hw (.inl h), fun h => hw (.inr h), hq⟩
theorem skipP_eq (n : Nat) (s : ByteArray) (hs : s.size ≤ 6000000) (hn : s.size < n) (y : Nat) (hy : y ≤ s.size) (z : Int) : ∃ y' : Nat, gsexp_parser__skip n s (y : Int) z = some (y' : Int) ∧ SkipP s y y' := by
  obtain ⟨y', g1, g2⟩ := skipP_loop n s hs s.size y n (by omega) hn hy
  refine ⟨y', ?_, g2⟩
  unfold gsexp_parser__skip
  rcases g1 with g1 | g1 <;> rw [g1] <;> rfl

theorem quotedP_loop (N : Nat) (s : ByteArray) (hs : s.size ≤ 6000000) (p : Nat) : ∀ (k y m : Nat), s.size - y ≤ k → k < m → p + 1 ≤ y → y ≤ s.size →
    (∃ w, txtP p y (bs (s.extract (p + 1) y)) ((bs s).drop y) = .inl w ∧ (gsexp_parser__quoted_L1 N s (p : Int) m (y : Int) = some (.out ()) ∧ w = p ∨ gsexp_parser__quoted_L1 N s (p : Int) m (y : Int) = some (.ret (.pan ⟨w, 31⟩)))) ∨
    ∃ (w : List Int) (q : Nat) (t : List Int), txtP p y (bs (s.extract (p + 1) y)) ((bs s).drop y) = .inr (w, q, t) ∧ gsexp_parser__quoted_L1 N s (p : Int) m (y : Int) = some (.ret (.val (.mk 3 (ofB w) 0 [], (q : Int)))) := by
  intro k
  induction k with
  | zero =>
    intro y m hk hm hp hy
    obtain ⟨m, rfl⟩ : ∃ m', m = m' + 1 := ⟨m - 1, by omega⟩
    have hlen := bs_length s
    rw [gsexp_parser__quoted_L1]
    have h1 : decide (((y : Nat) : Int) < ((s.size : Nat) : Int)) = false := by simp; omega
    rw [h1]
    left
    rw [List.drop_eq_nil_of_le (by omega)]
    exact ⟨p, rfl, .inl ⟨rfl, rfl⟩⟩
  | succ k ih =>
    intro y m hk hm hp hy
    obtain ⟨m, rfl⟩ : ∃ m', m = m' + 1 := ⟨m - 1, by omega⟩
    have hlen := bs_length s
    rw [gsexp_parser__quoted_L1]
    rcases hl : (bs s).drop y with _ | ⟨c, r⟩
    · have := drop_nil_le hl
      have h1 : decide (((y : Nat) : Int) < ((s.size : Nat) : Int)) = false := by simp; omega
      rw [h1]
      left
      exact ⟨p, rfl, .inl ⟨rfl, rfl⟩⟩
    obtain ⟨hc, hr, hlt⟩ := drop_cons_at hl
    have h1 : decide (((y : Nat) : Int) < ((s.size : Nat) : Int)) = true := by simp; omega
    rw [h1, atS_bs, hc]
    simp only [Option.bind_some, cond_true]
    unfold txtP
    by_cases h34 : c = 34
    · subst h34
      simp only [beq_self_eq_true, cond_true]
      rw [w64_succ (n := p) (by omega), subS_nat s (p + 1) y hp (by omega), w64_succ (n := y) (by omega)]
      right
      exact ⟨_, _, _, rfl, by rw [ofB_bs]; rfl⟩
    · have h2 : (c == 34) = false := by simpa using h34
      rw [h2, if_neg h34]
      simp only [cond_false]
      by_cases h10 : c = 10
      · subst h10
        left
        exact ⟨p, rfl, .inl ⟨rfl, rfl⟩⟩
      · have h3 : (c == 10) = false := by simpa using h10
        rw [h3, if_neg h10]
        simp only [cond_false]
        by_cases hb : c < 32 ∨ c > 126
        · have h4 : (decide (c < 32) || decide (c > 126)) = true := by simpa using hb
          rw [h4, if_pos hb]
          left
          exact ⟨y, rfl, .inr rfl⟩
        · have h4 : (decide (c < 32) || decide (c > 126)) = false := by simpa using hb
          rw [h4, if_neg hb]
          simp only [cond_false, Option.bind_some]
          rw [w64_succ (n := y) (by omega)]
          have := ih (y + 1) m (by omega) (by omega) (by omega) (by omega)
          rw [ext_snoc hp hc, hr] at this
          exact this
/-- a token that is an atom, or wrong -/
def AtomP (s : ByteArray) (p : Nat) (res : Option (PR (TTree × Int) Tsexp_fault)) : Prop :=
  (∃ w : Nat, toksP p ((bs s).drop p) = [⟨p, 6, 0, w, nilB3⟩] ∧ res = some (.pan ⟨w, 31⟩)) ∨
  ∃ (k v : Int) (w : ByteArray) (y' : Nat), toksP p ((bs s).drop p) = ⟨p, k, v, 0, w⟩ :: toksP y' ((bs s).drop y') ∧ res = some (.val (.mk k w v [], (y' : Int))) ∧ p < y' ∧ y' ≤ s.size ∧ k ≠ 4 ∧ k ≠ 5 ∧ k ≠ 6
theorem quotedP_eq (n : Nat) (s : ByteArray) (hs : s.size ≤ 6000000) (hn : s.size < n) (p : Nat) (r : List Int) (hp : (bs s).drop p = 34 :: r) (z : Int) : AtomP s p (gsexp_parser__quoted n s (p : Int) z) := by
  obtain ⟨hc, hr, hlt⟩ := drop_cons_at hp
  rw [bs_length] at hlt
  have hrl : p + 1 + r.length = s.size := by
    have := congrArg List.length hp
    rw [List.length_drop, bs_length] at this
    simp at this; omega
  have e0 : bs (s.extract (p + 1) (p + 1)) = [] := by rw [bs_extract, Nat.sub_self]; rfl
  have := quotedP_loop n s hs p s.size (p + 1) n (by omega) hn (by omega) (by omega)
  rw [e0, hr] at this
  unfold gsexp_parser__quoted AtomP
  rw [w64_succ (n := p) (by omega), hp]
  rcases this with ⟨w, h1, ⟨h2, rfl⟩ | h2⟩ | ⟨w, q, t, h1, h2⟩
  · left; rw [h2]; exact ⟨_, tk_txtBad h1, rfl⟩
  · left; rw [h2]; exact ⟨w, tk_txtBad h1, rfl⟩
  · right
    obtain ⟨k1, k2, k3⟩ := txtP_len h1
    have hd : (bs s).drop q = t := by
      rw [k3, ← hr, List.drop_drop]; congr 1; omega
    rw [h2]
    exact ⟨3, 0, ofB w, q, by rw [tk_txt h1, hd], rfl, by omega, by omega, by decide, by decide, by decide⟩
theorem runP_eq (n : Nat) (s : ByteArray) (hs : s.size ≤ 6000000) (hn : s.size < n) (p : Nat) (c : Int) (r : List Int) (hp : (bs s).drop p = c :: r) (hc : c ≠ 32 ∧ c ≠ 10 ∧ c ≠ 59) (hc' : c ≠ 41 ∧ c ≠ 40 ∧ c ≠ 34) (z : Int) : AtomP s p (gsexp_parser__run n s (p : Int) z) := by
  obtain ⟨hcc, hr, hlt⟩ := drop_cons_at hp
  rw [bs_length] at hlt
  have hlen : (bs s).length = s.size := bs_length s
  unfold gsexp_parser__run AtomP
  rw [run_loop3 n s hs s.size p n (by omega) hn (by omega)]
  simp only [Option.bind_some]
  have htw : (((bs s).drop p).takeWhile inR).length ≤ s.size - p := by
    have := (List.takeWhile_sublist inR (l := (bs s).drop p)).length_le
    rw [List.length_drop] at this; omega
  rw [subS_nat s p _ (by omega) (by omega)]
  simp only [Option.bind_some]
  have hw : bs (s.extract p (p + (((bs s).drop p).takeWhile inR).length)) = ((bs s).drop p).takeWhile inR := by
    rw [bs_extract, show p + (((bs s).drop p).takeWhile inR).length - p = (((bs s).drop p).takeWhile inR).length by omega, tw_take]
  cases hi : inR c
  · left
    have e0 : ((bs s).drop p).takeWhile inR = [] := by rw [hp, List.takeWhile_cons, hi]; rfl
    have e1 : s.extract p (p + (((bs s).drop p).takeWhile inR).length) = ByteArray.mk #[] := by rw [← bs_nil, hw, e0]
    rw [decide_eq_true e1]
    refine ⟨p, ?_, rfl⟩
    rw [hp, tk_run hc hc', if_neg (by rw [hi]; simp)]
  · have e0 : ((bs s).drop p).takeWhile inR = c :: r.takeWhile inR := by rw [hp, List.takeWhile_cons, hi]; rfl
    have e1 : ¬ s.extract p (p + (((bs s).drop p).takeWhile inR).length) = ByteArray.mk #[] := by
      rw [← bs_nil, hw, e0]; simp
    have hnn : bs (s.extract p (p + (((bs s).drop p).takeWhile inR).length)) ≠ [] := by rw [hw, e0]; simp
    have htk := tk_run (p := p) (c := c) (r := r) hc hc'
    rw [if_pos hi, ← e0] at htk
    have hdr : (bs s).drop (p + (((bs s).drop p).takeWhile inR).length) = r.dropWhile inR := by
      rw [e0, List.length_cons, show p + ((r.takeWhile inR).length + 1) = p + 1 + (r.takeWhile inR).length by omega]
      exact drop_run hp inR
    have hpl : p + 1 + (r.takeWhile inR).length = p + (((bs s).drop p).takeWhile inR).length := by rw [e0, List.length_cons]; omega
    rw [hpl, ← hdr, ← hp] at htk
    rw [htk]
    rw [decide_eq_false e1]
    simp only [cond_false, Option.bind_some]
    rw [numeric_eq n _ hnn, hw]
    simp only [Option.bind_some]
    have hpos : 0 < (((bs s).drop p).takeWhile inR).length := by rw [e0]; simp
    have hof : ofB (((bs s).drop p).takeWhile inR) = s.extract p (p + (((bs s).drop p).takeWhile inR).length) := by rw [← hw, ofB_bs]; rw [hw]
    cases hnb : numB (((bs s).drop p).takeWhile inR)
    · right
      rw [if_neg (by simp)]
      exact ⟨1, 0, _, p + (((bs s).drop p).takeWhile inR).length, rfl, by rw [hof]; rfl, by omega, by omega, by decide, by decide, by decide⟩
    · rw [if_pos rfl]
      simp only [Bool.not_true, cond_false]
      have hsz : (s.extract p (p + (((bs s).drop p).takeWhile inR).length)).size ≤ 6000000 := by
        rw [← bs_length, hw]; omega
      obtain ⟨v, b, k1, k2⟩ := number_eq n _ hsz
      have hns := num_same (s.extract p (p + (((bs s).drop p).takeWhile inR).length))
      rw [hw] at hns
      rw [k1, hns, k2]
      cases b
      · left
        exact ⟨p, rfl, rfl⟩
      · right
        exact ⟨2, v, nilB3, p + (((bs s).drop p).takeWhile inR).length, rfl, rfl, by omega, by omega, by decide, by decide, by decide⟩
/-- the fold over tokens: trees -/
def gramP (len : Nat) : List Tok → List (List TTree) → List TTree → Nat → List TTree × Int × Int
  | [], [], acc, _ => (acc, 0, 0)
  | [], _ :: _, _, _ => ([], (len : Nat), 31)
  | t :: r, stk, acc, n =>
    if t.f_Kind = 6 then ([], t.f_Wrong, 31)
    else if t.f_Kind = 5 then (match stk with
      | [] => ([], t.f_At, 31)
      | p :: q => gramP len r q (p ++ [.mk 4 nilB3 0 acc]) n)
    else if 65536 < n + 1 ∨ (t.f_Kind = 4 ∧ 32 < stk.length + 1) then ([], t.f_At, 33)
    else if t.f_Kind = 4 then gramP len r (acc :: stk) [] (n + 1)
    else gramP len r stk (acc ++ [.mk t.f_Kind t.f_Word t.f_Num []]) (n + 1)
theorem gramP_cons (len : Nat) (t : Tok) (r : List Tok) (stk : List (List TTree)) (acc : List TTree) (n : Nat) : gramP len (t :: r) stk acc n =
    (if t.f_Kind = 6 then ([], t.f_Wrong, 31)
    else if t.f_Kind = 5 then (match stk with
      | [] => ([], t.f_At, 31)
      | p :: q => gramP len r q (p ++ [.mk 4 nilB3 0 acc]) n)
    else if 65536 < n + 1 ∨ (t.f_Kind = 4 ∧ 32 < stk.length + 1) then ([], t.f_At, 33)
    else if t.f_Kind = 4 then gramP len r (acc :: stk) [] (n + 1)
    else gramP len r stk (acc ++ [.mk t.f_Kind t.f_Word t.f_Num []]) (n + 1)) := by cases stk <;> rfl
def foldX (s : ByteArray) (stk : List (List TTree)) (acc : List TTree) (n y : Nat) : List TTree × Int × Int := gramP s.size (toksP y ((bs s).drop y)) stk acc n
section
variable {s : ByteArray} {stk : List (List TTree)} {acc : List TTree} {n y y' : Nat} {r : List Int}
theorem fold_same (h : toksP y ((bs s).drop y) = toksP y' ((bs s).drop y')) : foldX s stk acc n y = foldX s stk acc n y' := by unfold foldX; rw [h]
theorem fold_bad {w : Nat} (h : toksP y ((bs s).drop y) = [⟨y, 6, 0, w, nilB3⟩]) : foldX s stk acc n y = ([], (w : Int), 31) := by unfold foldX; rw [h, gramP_cons, if_pos rfl]
theorem fold_atom {k v : Int} {w : ByteArray} (h : toksP y ((bs s).drop y) = ⟨y, k, v, 0, w⟩ :: toksP y' ((bs s).drop y')) (h4 : k ≠ 4) (h5 : k ≠ 5) (h6 : k ≠ 6) :
    foldX s stk acc n y = if 65536 < n + 1 then ([], (y : Int), 33) else foldX s stk (acc ++ [.mk k w v []]) (n + 1) y' := by
  unfold foldX
  rw [h, gramP_cons, if_neg h6, if_neg h5]
  by_cases hn : 65536 < n + 1
  · rw [if_pos (.inl hn), if_pos hn]
  · rw [if_neg (by rintro (h | h); exact hn h; exact h4 h.1), if_neg h4, if_neg hn]
theorem fold_open (h : (bs s).drop y = 40 :: r) (hr : (bs s).drop (y + 1) = r) : foldX s stk acc n y = if 65536 < n + 1 ∨ 32 < stk.length + 1 then ([], (y : Int), 33) else foldX s (acc :: stk) [] (n + 1) (y + 1) := by
  unfold foldX
  rw [h, hr, tk_opn, gramP_cons, if_neg (show ¬ (4 : Int) = 6 by decide), if_neg (show ¬ (4 : Int) = 5 by decide)]
  by_cases hn : 65536 < n + 1 ∨ 32 < stk.length + 1
  · rw [if_pos (by rcases hn with h | h; exact .inl h; exact .inr ⟨rfl, h⟩), if_pos hn]
  · rw [if_neg (by rintro (h | h); exact hn (.inl h); exact hn (.inr h.2)), if_pos rfl, if_neg hn]
theorem fold_close0 (h : (bs s).drop y = 41 :: r) : foldX s [] acc n y = ([], (y : Int), 31) := by
  unfold foldX
  rw [h, tk_cls, gramP_cons, if_neg (show ¬ (5 : Int) = 6 by decide), if_pos rfl]
theorem fold_close {p : List TTree} (h : (bs s).drop y = 41 :: r) (hr : (bs s).drop (y + 1) = r) : foldX s (p :: stk) acc n y = foldX s stk (p ++ [.mk 4 nilB3 0 acc]) n (y + 1) := by
  unfold foldX
  rw [h, hr, tk_cls, gramP_cons, if_neg (show ¬ (5 : Int) = 6 by decide), if_pos rfl]
theorem fold_nil0 (h : (bs s).drop y = []) : foldX s [] acc n y = (acc, 0, 0) := by unfold foldX; rw [h, tk_nil]; rfl
theorem fold_nil {p : List TTree} (h : (bs s).drop y = []) : foldX s (p :: stk) acc n y = ([], (s.size : Int), 31) := by unfold foldX; rw [h, tk_nil]; rfl
end
/-- what a list that was read is, to those around it -/
def LValP (s : ByteArray) : List (List TTree) → List TTree → Nat → Nat → List TTree → Nat → Nat → Prop
  | [], acc, n, y, out, _, _ => foldX s [] acc n y = (out, 0, 0)
  | p :: q, acc, n, y, out, y', n' => foldX s (p :: q) acc n y = foldX s q (p ++ [.mk 4 nilB3 0 out]) n' y'
def LSpecP (s : ByteArray) (stk : List (List TTree)) (acc : List TTree) (n y : Nat) (res : Option (LR Unit (PR (List TTree × Int × Int) Tsexp_fault))) : Prop :=
  (∃ e : Tsexp_fault, res = some (.ret (.pan e)) ∧ foldX s stk acc n y = ([], e.f_at, e.f_e)) ∨
  (∃ (out : List TTree) (y' n' : Nat), res = some (.ret (.val (out, (y' : Int), (n' : Int)))) ∧ y ≤ y' ∧ y' ≤ s.size ∧ n' ≤ 65536 ∧ LValP s stk acc n y out y' n')
theorem LValP.of {s : ByteArray} {stk : List (List TTree)} {acc acc1 out : List TTree} {n n1 y y1 y' n' : Nat} (h : foldX s stk acc n y = foldX s stk acc1 n1 y1) (g : LValP s stk acc1 n1 y1 out y' n') : LValP s stk acc n y out y' n' := by
  cases stk with
  | nil => exact h.trans g
  | cons p q => exact h.trans g
theorem LSpecP.of {s : ByteArray} {stk : List (List TTree)} {acc acc1 : List TTree} {n n1 y y1 : Nat} {res : Option (LR Unit (PR (List TTree × Int × Int) Tsexp_fault))} (hy : y ≤ y1) (h : foldX s stk acc n y = foldX s stk acc1 n1 y1) (g : LSpecP s stk acc1 n1 y1 res) : LSpecP s stk acc n y res := by
  rcases g with ⟨e, g1, g2⟩ | ⟨out, y', n', g1, g2, g3, g4, g5⟩
  · exact .inl ⟨e, g1, h.trans g2⟩
  · exact .inr ⟨out, y', n', g1, by omega, g3, g4, g5.of h⟩

theorem listP_loop (N : Nat) (s : ByteArray) (hs : s.size ≤ 262144) (hN : s.size < N) : ∀ (k y m rf : Nat) (stk : List (List TTree)) (acc : List TTree) (n : Nat), s.size - y ≤ k → k ≤ s.size → k < m → k ≤ rf → y ≤ s.size → stk.length ≤ 32 → n ≤ 65536 → acc.length ≤ y →
    LSpecP s stk acc n y (gsexp_parser__list_L1 N (gsexp_parser__list_rec N rf) s ((stk.length : Nat) : Int) m acc (y : Int) (n : Int)) := by
  intro k
  induction k with
  | zero =>
    intro y m rf stk acc n hk hks hm hrf hy hst hn hac
    obtain ⟨m, rfl⟩ : ∃ m', m = m' + 1 := ⟨m - 1, by omega⟩
    have hlen := bs_length s
    rw [gsexp_parser__list_L1]
    obtain ⟨y1, h1, h2, h3, h4, h5⟩ := skipP_eq N s (by omega) hN y hy (n : Int)
    have hy1 : y1 = s.size := by omega
    subst hy1
    rw [h1]
    simp only [Option.bind_some, beq_self_eq_true, cond_true]
    have hd : (bs s).drop s.size = [] := List.drop_eq_nil_of_le (by omega)
    cases stk with
    | nil =>
      right
      refine ⟨acc, s.size, n, rfl, h2, h3, hn, ?_⟩
      show foldX s [] acc n _ = _
      rw [fold_same h4, fold_nil0 hd]
    | cons p q =>
      left
      have : decide (((((p :: q).length : Nat) : Int)) > 0) = true := decide_eq_true (by rw [List.length_cons]; omega)
      rw [this]
      exact ⟨⟨s.size, 31⟩, rfl, by rw [fold_same h4, fold_nil hd]⟩
  | succ k ih =>
    intro y m rf stk acc n hk hks hm hrf hy hst hn hac
    obtain ⟨m, rfl⟩ : ∃ m', m = m' + 1 := ⟨m - 1, by omega⟩
    obtain ⟨rf, rfl⟩ : ∃ m', rf = m' + 1 := ⟨rf - 1, by omega⟩
    have hlen := bs_length s
    rw [gsexp_parser__list_L1]
    obtain ⟨y1, h1, h2, h3, h4, h5⟩ := skipP_eq N s (by omega) hN y hy (n : Int)
    rw [h1]
    simp only [Option.bind_some]
    rcases hl : (bs s).drop y1 with _ | ⟨c, r⟩
    · have := drop_nil_le hl
      have hy1 : y1 = s.size := by omega
      subst hy1
      simp only [beq_self_eq_true, cond_true]
      cases stk with
      | nil =>
        right
        refine ⟨acc, s.size, n, rfl, h2, h3, hn, ?_⟩
        show foldX s [] acc n _ = _
        rw [fold_same h4, fold_nil0 hl]
      | cons p q =>
        left
        have : decide (((((p :: q).length : Nat) : Int)) > 0) = true := decide_eq_true (by rw [List.length_cons]; omega)
        rw [this]
        exact ⟨⟨s.size, 31⟩, rfl, by rw [fold_same h4, fold_nil hl]⟩
    obtain ⟨hc, hr, hlt⟩ := drop_cons_at hl
    obtain ⟨c1, c2, c3⟩ := h5 c r hl
    have hne : (((y1 : Nat) : Int) == ((s.size : Nat) : Int)) = false := by simp; omega
    rw [hne]
    simp only [cond_false]
    rw [atS_bs, hc]
    simp only [Option.bind_some]
    have hfs : ∀ (stk : List (List TTree)) (acc : List TTree) (n : Nat), foldX s stk acc n y = foldX s stk acc n y1 := fun _ _ _ => fold_same h4
    refine LSpecP.of h2 (hfs stk acc n) ?_
    by_cases h41 : c = 41
    · subst h41
      simp only [beq_self_eq_true, cond_true]
      cases stk with
      | nil =>
        left
        exact ⟨⟨y1, 31⟩, rfl, fold_close0 hl⟩
      | cons p q =>
        right
        have : (((((p :: q).length : Nat) : Int)) == 0) = false := by rw [beq_eq_false_iff_ne, List.length_cons]; omega
        rw [this]
        simp only [cond_false, Option.bind_some]
        rw [w64_succ (n := y1) (by omega)]
        refine ⟨acc, y1 + 1, n, rfl, by omega, by omega, hn, ?_⟩
        exact fold_close hl hr
    have e41 : (c == 41) = false := by simpa using h41
    rw [e41]
    simp only [cond_false]
    by_cases h40 : c = 40
    · subst h40
      simp only [beq_self_eq_true, cond_true]
      rw [w64_succ (n := stk.length) (by omega)]
      unfold gsexp_parser__count
      rw [w64_succ (n := n) (by omega)]
      by_cases hov : 65536 < n + 1 ∨ 32 < stk.length + 1
      · have : (decide (((n + 1 : Nat) : Int) > 65536) || decide (((stk.length + 1 : Nat) : Int) > 32)) = true := by simp; omega
        rw [this]
        left
        exact ⟨⟨y1, 33⟩, rfl, by rw [fold_open hl hr, if_pos hov]⟩
      · have : (decide (((n + 1 : Nat) : Int) > 65536) || decide (((stk.length + 1 : Nat) : Int) > 32)) = false := by simp; omega
        rw [this]
        simp only [cond_false, Option.bind_some]
        rw [w64_succ (n := y1) (by omega), gsexp_parser__list_rec]
        have hin := ih (y1 + 1) N rf (acc :: stk) [] (n + 1) (by omega) (by omega) (by omega) (by omega) (by omega) (by rw [List.length_cons]; omega) (by omega) (by simp)
        rw [List.length_cons] at hin
        have hop : foldX s stk acc n y1 = foldX s (acc :: stk) [] (n + 1) (y1 + 1) := by rw [fold_open hl hr, if_neg hov]
        rcases hin with ⟨e, g1, g2⟩ | ⟨out, y2, n2, g1, g2, g3, g4, g5⟩
        · rw [g1]
          left
          exact ⟨e, rfl, by rw [hop, g2]⟩
        · rw [g1]
          simp only [Option.bind_some]
          rw [appL_ok (by rw [List.length_singleton]; omega) (by omega)]
          simp only [Option.bind_some]
          have h6 := ih y2 m (rf + 1) stk (acc ++ [.mk 4 nilB3 0 out]) n2 (by omega) (by omega) (by omega) (by omega) g3 hst g4 (by rw [List.length_append, List.length_singleton]; omega)
          exact LSpecP.of (by omega) (hop.trans g5) h6
    have e40 : (c == 40) = false := by simpa using h40
    rw [e40]
    simp only [cond_false]
    have tail : ∀ (res : Option (PR (TTree × Int) Tsexp_fault)), AtomP s y1 res →
        LSpecP s stk acc n y1 (res.bind fun v => match v with | .val (t476, r473) => ((gsexp_parser__counted N s r473 (n : Int) (y1 : Int)).bind fun v => match v with | .val r484 => ((appL 56 acc ([t476] : List TTree)).bind fun l491 => gsexp_parser__list_L1 N (gsexp_parser__list_rec N (rf + 1)) s ((stk.length : Nat) : Int) m l491 r473 r484) | .pan p498 => some (.ret (.pan p498))) | .pan p499 => some (.ret (.pan p499))) := by
      intro res hres
      rcases hres with ⟨w, k1, rfl⟩ | ⟨kd, v, w, y2, k1, rfl, k2, k3, k4, k5, k6⟩
      · left
        exact ⟨⟨w, 31⟩, rfl, fold_bad k1⟩
      · simp only [Option.bind_some]
        have hat := fold_atom (stk := stk) (acc := acc) (n := n) k1 k4 k5 k6
        unfold gsexp_parser__counted
        rw [w64_succ (n := n) (by omega)]
        by_cases hov : 65536 < n + 1
        · have : decide (((n + 1 : Nat) : Int) > 65536) = true := by simp; omega
          rw [this]
          left
          exact ⟨⟨y1, 33⟩, rfl, by rw [hat, if_pos hov]⟩
        · have : decide (((n + 1 : Nat) : Int) > 65536) = false := by simp; omega
          rw [this]
          simp only [cond_false, Option.bind_some]
          rw [appL_ok (by rw [List.length_singleton]; omega) (by omega)]
          simp only [Option.bind_some]
          rw [if_neg hov] at hat
          have h6 := ih y2 m (rf + 1) stk (acc ++ [.mk kd w v []]) (n + 1) (by omega) (by omega) (by omega) (by omega) k3 hst (by omega) (by rw [List.length_append, List.length_singleton]; omega)
          exact LSpecP.of (by omega) hat h6
    by_cases h34 : c = 34
    · subst h34
      simp only [beq_self_eq_true, cond_true]
      exact tail _ (quotedP_eq N s (by omega) hN y1 r hl (n : Int))
    have e34 : (c == 34) = false := by simpa using h34
    rw [e34]
    simp only [cond_false]
    exact tail _ (runP_eq N s (by omega) hN y1 c r hl ⟨c1, c2, c3⟩ ⟨h41, h40, h34⟩ (n : Int))
/-- WHAT Parse COMES TO. -/
theorem parseP_eq (n : Nat) (s : ByteArray) (hn : 262200 ≤ n) : gsexp_Parse n s = some (if 262144 < s.size then ([], 0, 33) else gramP s.size (toksP 0 (bs s)) [] [] 0) := by
  unfold gsexp_Parse
  by_cases hs : 262144 < s.size
  · have : decide (((s.size : Nat) : Int) > 262144) = true := by simp; omega
    rw [this, if_pos hs]; rfl
  · have : decide (((s.size : Nat) : Int) > 262144) = false := by simp; omega
    rw [this, if_neg hs]
    simp only [cond_false]
    obtain ⟨rf, rfl⟩ : ∃ m', n = m' + 1 := ⟨n - 1, by omega⟩
    have h := listP_loop (rf + 1) s (by omega) (by omega) s.size 0 (rf + 1) rf [] [] 0 (by omega) (by omega) (by omega) (by omega) (by omega) (by simp) (by omega) (by simp)
    unfold gsexp_parser__list
    rw [gsexp_parser__list_rec]
    have e0 : ((([] : List (List TTree)).length : Nat) : Int) = 0 := rfl
    have e1 : (((0 : Nat) : Nat) : Int) = 0 := rfl
    rw [e0, e1] at h
    have hf : gramP s.size (toksP 0 (bs s)) [] [] 0 = foldX s [] [] 0 0 := rfl
    rcases h with ⟨e, g1, g2⟩ | ⟨out, y2, n2, g1, g2, g3, g4, g5⟩
    · rw [g1, hf, g2]; rfl
    · have g5 : foldX s [] [] 0 0 = (out, 0, 0) := g5
      rw [g1, hf, g5]; rfl
end Go.DM
namespace Go.DM
open Go
set_option maxRecDepth 100000
/-! sizes -/
mutual
def szT : TTree → Nat
  | .mk _ w _ l => szL l + 1 + w.size
def szL : List TTree → Nat
  | [] => 0
  | t :: r => szT t + szL r
end
theorem szT_eq (t : TTree) : szT t = szL t.f_Kids + 1 + t.f_Word.size := by obtain ⟨k, w, v, l⟩ := t; rw [szT]; rfl
theorem szL_mem {x : TTree} : ∀ {l : List TTree}, x ∈ l → szT x ≤ szL l
  | t :: r, h => by
    rw [szL]
    rcases List.mem_cons.1 h with rfl | h
    · omega
    · have := szL_mem h; omega
theorem szL_app : ∀ (a b : List TTree), szL (a ++ b) = szL a + szL b
  | [], b => by rw [szL, List.nil_append]; omega
  | t :: r, b => by rw [List.cons_append, szL, szL, szL_app r b]; omega
theorem len_szL : ∀ (l : List TTree), l.length ≤ szL l
  | [] => by rw [szL]; simp
  | t :: r => by
    have := len_szL r
    rw [szL, szT_eq, List.length_cons]; omega
/-! Same -/
theorem same3 (N : Nat) : ∀ (k : Nat) (l : List TTree), szL l < k → szL l < N → szL l ≤ 8000000 → gdovetailref03_Same_rec N k l l = some true := by
  intro k
  induction k with
  | zero => intro l h _ _; omega
  | succ k ihk =>
    intro l hk hN h8
    have hll := len_szL l
    have loop : ∀ (j y m : Nat), l.length - y ≤ j → j < m → y ≤ l.length → gdovetailref03_Same_L1 N (gdovetailref03_Same_rec N k) l l m (y : Int) = some (.out ()) := by
      intro j
      induction j with
      | zero =>
        intro y m hj hm hy
        obtain ⟨m, rfl⟩ : ∃ m', m = m' + 1 := ⟨m - 1, by omega⟩
        rw [gdovetailref03_Same_L1]
        have h1 : decide (((y : Nat) : Int) < ((l.length : Nat) : Int)) = false := by simp; omega
        rw [h1]; rfl
      | succ j ih =>
        intro y m hj hm hy
        obtain ⟨m, rfl⟩ : ∃ m', m = m' + 1 := ⟨m - 1, by omega⟩
        rw [gdovetailref03_Same_L1]
        by_cases hlt : y < l.length
        · have h1 : decide (((y : Nat) : Int) < ((l.length : Nat) : Int)) = true := by simp; omega
          have hm1 := szL_mem (List.getElem_mem hlt)
          rw [szT_eq] at hm1
          rw [h1, atL_nat, List.getElem?_eq_getElem hlt]
          simp only [Option.bind_some, cond_true, bne_self_eq_false, cond_false, decide_true, Bool.not_true]
          rw [ihk l[y].f_Kids (by omega) (by omega) (by omega)]
          simp only [Option.bind_some, Bool.not_true, cond_false]
          rw [w64_succ (by omega)]
          exact ih (y + 1) m (by omega) (by omega) (by omega)
        · have h1 : decide (((y : Nat) : Int) < ((l.length : Nat) : Int)) = false := by simp; omega
          rw [h1]; rfl
    rw [gdovetailref03_Same_rec]
    have := loop l.length 0 N (by omega) (by omega) (by omega)
    rw [show (((0 : Nat) : Nat) : Int) = 0 from rfl] at this
    rw [this]
    simp
theorem Same_refl3 (n : Nat) (l : List TTree) (h : szL l < n) (h8 : szL l ≤ 8000000) : gdovetailref03_Same n l l = some true := same3 n n l h h h8
theorem alive3_eq (k : Nat) : gdovetaillaw03_sexpAlive (k + 300) = some true := by kernel_rfl
/-! the tokens' sizes -/
def tkW : List Tok → Nat
  | [] => 0
  | t :: r => t.f_Word.size + 1 + tkW r
theorem txt_word {st : Nat} : ∀ {l : List Int} {p : Nat} {a w t : List Int} {q : Nat}, txtP st p a l = .inr (w, q, t) → w.length + t.length + 1 = a.length + l.length
  | [], p, a, w, t, q, h => by simp [txtP] at h
  | c :: r, p, a, w, t, q, h => by
    unfold txtP at h
    by_cases h1 : c = 34
    · rw [if_pos h1] at h
      simp only [Sum.inr.injEq, Prod.mk.injEq] at h
      obtain ⟨rfl, _, rfl⟩ := h
      simp; omega
    · rw [if_neg h1] at h
      by_cases h2 : c = 10
      · rw [if_pos h2] at h; cases h
      · rw [if_neg h2] at h
        by_cases h3 : c < 32 ∨ c > 126
        · rw [if_pos h3] at h; cases h
        · rw [if_neg h3] at h
          have := txt_word h
          simp at this ⊢; omega
theorem tw_dw (f : Int → Bool) (l : List Int) : (l.takeWhile f).length + (l.dropWhile f).length = l.length := by
  rw [← List.length_append, List.takeWhile_append_dropWhile]
theorem nilB3_size : nilB3.size = 0 := rfl
theorem tk_size : ∀ (k : Nat) (l : List Int) (p : Nat), l.length ≤ k → (toksP p l).length ≤ l.length ∧ tkW (toksP p l) ≤ 2 * l.length
  | _, [], p, _ => by rw [tk_nil]; exact ⟨Nat.le_refl _, Nat.zero_le _⟩
  | 0, c :: r, p, h => by simp at h
  | k + 1, c :: r, p, h => by
    have hz := nilB3_size
    rw [List.length_cons] at h ⊢
    have bad : ∀ w : Int, ([⟨p, 6, 0, w, nilB3⟩] : List Tok).length ≤ r.length + 1 ∧ tkW [⟨p, 6, 0, w, nilB3⟩] ≤ 2 * (r.length + 1) := fun w => by
      refine ⟨by simp, ?_⟩
      simp only [tkW]; omega
    by_cases h1 : c = 32 ∨ c = 10
    · rw [tk_blank h1]
      obtain ⟨g1, g2⟩ := tk_size k r (p + 1) (by omega)
      exact ⟨by omega, by omega⟩
    by_cases h2 : c = 59
    · subst h2
      rw [tk_rem]
      have := dw_len nl r
      obtain ⟨g1, g2⟩ := tk_size k (r.dropWhile nl) (p + 1 + (r.takeWhile nl).length) (by omega)
      exact ⟨by omega, by omega⟩
    by_cases h3 : c = 40
    · subst h3
      rw [tk_opn]
      obtain ⟨g1, g2⟩ := tk_size k r (p + 1) (by omega)
      rw [List.length_cons, tkW]
      simp only
      exact ⟨by omega, by omega⟩
    by_cases h4 : c = 41
    · subst h4
      rw [tk_cls]
      obtain ⟨g1, g2⟩ := tk_size k r (p + 1) (by omega)
      rw [List.length_cons, tkW]
      simp only
      exact ⟨by omega, by omega⟩
    by_cases h5 : c = 34
    · subst h5
      cases ht : txtP p (p + 1) [] r with
      | inl w => rw [tk_txtBad ht]; exact bad w
      | inr x =>
        obtain ⟨w, q, t⟩ := x
        rw [tk_txt ht]
        have g3 := txt_word ht
        rw [List.length_nil] at g3
        obtain ⟨g1, g2⟩ := tk_size k t q (by omega)
        rw [List.length_cons, tkW]
        simp only [size_ofB]
        exact ⟨by omega, by omega⟩
    have h12 := not_or.1 h1
    rw [tk_run ⟨h12.1, h12.2, h2⟩ ⟨h4, h3, h5⟩]
    have g3 := tw_dw inR r
    obtain ⟨g1, g2⟩ := tk_size k (r.dropWhile inR) (p + 1 + (r.takeWhile inR).length) (by omega)
    by_cases h6 : inR c = true
    · rw [if_pos h6]
      by_cases h7 : numB (c :: r.takeWhile inR) = true
      · rw [if_pos h7]
        cases refNum (c :: r.takeWhile inR) with
        | none => exact bad p
        | some v =>
          show (_ :: toksP _ _).length ≤ _ ∧ tkW (_ :: toksP _ _) ≤ _
          rw [List.length_cons, tkW]
          simp only
          exact ⟨by omega, by omega⟩
      · rw [if_neg h7, List.length_cons, tkW]
        simp only [size_ofB, List.length_cons]
        exact ⟨by omega, by omega⟩
    · rw [if_neg h6]; exact bad p
/-! the fold's size -/
def szS : List (List TTree) → Nat
  | [] => 0
  | l :: r => szL l + szS r
theorem gram_size (len : Nat) : ∀ (l : List Tok) (stk : List (List TTree)) (acc : List TTree) (n : Nat), szL (gramP len l stk acc n).1 ≤ szS stk + szL acc + tkW l
  | [], [], acc, n => by show szL acc ≤ _; omega
  | [], p :: q, acc, n => by show szL [] ≤ _; rw [szL]; omega
  | t :: r, stk, acc, n => by
    rw [gramP_cons, tkW]
    have h0 : szL [] ≤ szS stk + szL acc + (t.f_Word.size + 1 + tkW r) := by rw [szL]; omega
    by_cases h6 : t.f_Kind = 6
    · rw [if_pos h6]; exact h0
    rw [if_neg h6]
    by_cases h5 : t.f_Kind = 5
    · rw [if_pos h5]
      cases stk with
      | nil => exact h0
      | cons p q =>
        show szL (gramP len r q (p ++ [.mk 4 nilB3 0 acc]) n).1 ≤ _
        have := gram_size len r q (p ++ [.mk 4 nilB3 0 acc]) n
        rw [szL_app, szL, szL, szT, nilB3_size] at this
        rw [szS]; omega
    rw [if_neg h5]
    by_cases hb : 65536 < n + 1 ∨ (t.f_Kind = 4 ∧ 32 < stk.length + 1)
    · rw [if_pos hb]; exact h0
    rw [if_neg hb]
    by_cases h4 : t.f_Kind = 4
    · rw [if_pos h4]
      have := gram_size len r (acc :: stk) [] (n + 1)
      rw [szS, szL] at this; omega
    · rw [if_neg h4]
      have := gram_size len r stk (acc ++ [.mk t.f_Kind t.f_Word t.f_Num []]) (n + 1)
      rw [szL_app, szL, szL, szT, szL] at this; omega
/-! the two folds -/
inductive CellsL : List (List A) → List (List TTree) → Prop where
  | nil : CellsL [] []
  | cons {c : List A} {l : List TTree} {cs : List (List A)} {ls : List (List TTree)} : Cells rTTree c l → CellsL cs ls → CellsL (c :: cs) (l :: ls)
theorem CellsL.length : ∀ {cs : List (List A)} {ls : List (List TTree)}, CellsL cs ls → cs.length = ls.length
  | _, _, .nil => rfl
  | _, _, .cons _ g => by rw [List.length_cons, List.length_cons, g.length]
theorem tree_cells {k v : Int} {w : ByteArray} {kids : A} {l : List TTree} (h : Sl rTTree kids l) : Cells rTTree (RP.treeA k w v kids) [.mk k w v l] :=
  Cells.single (rTTree_of ⟨kids, rfl, h⟩)
def AgreeR (x : A × Int × Int) (y : List TTree × Int × Int) : Prop := Sl rTTree x.1 y.1 ∧ x.2 = y.2
theorem AgreeR.bad (z : Int × Int) : AgreeR (nilS, z) ([], z) := ⟨Sl.nil, rfl⟩
theorem ref_gram (len : Nat) : ∀ (l : List Tok) (top : List A) (rest : List (List A)) (acc : List TTree) (stk : List (List TTree)) (n : Nat), Cells rTTree top acc → CellsL rest stk → AgreeR (RP.refF len l (top :: rest) n) (gramP len l stk acc n)
  | [], top, _, acc, _, n, h, .nil => ⟨.inr ⟨top, .no, rfl, h⟩, rfl⟩
  | [], top, _, acc, _, n, h, .cons _ _ => .bad _
  | t :: r, top, rest, acc, stk, n, h, hs => by
    rw [RP.refF_cons, gramP_cons]
    by_cases h6 : t.f_Kind = 6
    · rw [if_pos h6, if_pos h6]; exact .bad _
    rw [if_neg h6, if_neg h6]
    by_cases h5 : t.f_Kind = 5
    · rw [if_pos h5, if_pos h5]
      cases hs with
      | nil => exact .bad _
      | cons g hs =>
        exact ref_gram len r _ _ _ _ n (g.append (tree_cells (.inr ⟨top, .no, rfl, h⟩))) hs
    rw [if_neg h5, if_neg h5]
    rw [List.length_cons, hs.length]
    by_cases hb : 65536 < n + 1 ∨ (t.f_Kind = 4 ∧ 32 < stk.length + 1)
    · rw [if_pos hb, if_pos hb]; exact .bad _
    rw [if_neg hb, if_neg hb]
    by_cases h4 : t.f_Kind = 4
    · rw [if_pos h4, if_pos h4]
      exact ref_gram len r [] (top :: rest) [] (acc :: stk) (n + 1) .nil (.cons h hs)
    · rw [if_neg h4, if_neg h4]
      exact ref_gram len r _ rest _ stk (n + 1) (h.append (tree_cells Sl.nil)) hs
end Go.DM
namespace Go.DM
open Go Go.Proofs Go.RowKit
set_option maxRecDepth 100000
theorem ref_same (s : ByteArray) : ∃ (u : A) (l : List TTree) (a e : Int), Sl rTTree u l ∧ szL l ≤ 600000 ∧ gsexp_Parse 700000 s = some (l, a, e) ∧ ∀ σ, Cl cfg 5 [.v (.string s)] σ (.ret (.tup [u, .v (.int .i64 a), .v (.int .i64 e)])) σ := by
  have hP := parseP_eq 700000 s (by omega)
  by_cases hs : 262144 < s.size
  · rw [if_pos hs] at hP
    refine ⟨nilS, [], 0, 33, Sl.nil, by rw [szL]; omega, hP, fun σ => ?_⟩
    obtain ⟨x, σ', h1, rfl⟩ := RP.parse_big hs
    have h := addR_cl (C := cfg0) (D := RP.cfgM) (f := 5) (args := [.v (.string s)]) σ h1 rfl rfl
    exact h
  · rw [if_neg hs] at hP
    have hsz := tk_size (bs s).length (bs s) 0 (Nat.le_refl _)
    rw [bs_length] at hsz
    have hT := tokens_eq 700000 s (by omega) (by omega)
    have hG := gram_size s.size (toksP 0 (bs s)) [] [] 0
    have e1 : szS [] = 0 := rfl
    have e2 : szL [] = 0 := by rw [szL]
    rw [e1, e2] at hG
    obtain ⟨g1, g2⟩ := ref_gram s.size (toksP 0 (bs s)) [] [] [] [] 0 .nil .nil
    have hR : Ca RP.cfgM 5 [.v (.string s)] σ0 (RP.Post (RP.refF s.size (toksP 0 (bs s)) [[]] 0)) := by
      by_cases hn : toksP 0 (bs s) = []
      · rw [hn] at hT ⊢
        exact RP.parse_nil hT (by omega)
      · exact RP.parse_ca hT (by omega) (by omega) hn
    refine ⟨(RP.refF s.size (toksP 0 (bs s)) [[]] 0).1, (gramP s.size (toksP 0 (bs s)) [] [] 0).1, (gramP s.size (toksP 0 (bs s)) [] [] 0).2.1, (gramP s.size (toksP 0 (bs s)) [] [] 0).2.2, g1, by omega, hP, fun σ => ?_⟩
    obtain ⟨x, σ', h1, h2, h3⟩ := hR
    have h := addR_cl (C := cfg0) (D := RP.cfgM) (f := 5) (args := [.v (.string s)]) σ h1 rfl h3
    rw [h2] at h
    unfold RP.refR at h
    rw [g2] at h
    exact h
theorem val_bl {r : Option R} {σ : St} {m n : Bool} (h : r = some (.val (.v (.bool m)) σ)) (e : m = n) : r = some (.val (.v (.bool n)) σ) := e ▸ h
theorem sexp_parses (s : ByteArray) : Ca cfg 3 [.v (.string s)] σ0 (fun x _ => x = .v (.bool true)) := by
  obtain ⟨u, l, a, e, h1, h2, h3, h4⟩ := ref_same s
  obtain ⟨x1, σ1, hc1, rfl, hp1⟩ := gdovetaillaw03_sexpAlive_ok (R := []) (Hp.nil σ0) (alive3_eq 0)
  obtain ⟨x2, σ2, hc2, a2, rfl, hsl, hp2⟩ := gsexp_Parse_ok (R := []) hp1 h3
  obtain ⟨x3, σ3, hc3, rfl, hp3⟩ := gdovetailref03_Same_ok hsl h1 hp2 (Same_refl3 700000 l (by omega) (by omega))
  refine Ca.enter Tryd.func3 rfl rfl (Nat.le_of_ble_eq_true rfl) ?_
  refine Ex.seq (Ex.region ?_)
  refine ExO.val rfl rfl rfl (ExO.nil ?_)
  refine Ex.seq (Ex.seq (Ex.region ?_))
  refine ExO.call rfl rfl hc1 rfl (ExO.val (x := .v (.bool false)) rfl rfl rfl (ExO.nil ?_))
  refine Ex.cond (t := false) rfl (Ex.skip ?_)
  refine Ex.seq (Ex.region ?_)
  refine ExO.val rfl rfl rfl ?_
  refine ExO.call rfl rfl (h4 σ1) rfl ?_
  refine ExO.val rfl rfl rfl (ExO.val rfl rfl rfl (ExO.val rfl rfl rfl (ExO.val rfl rfl rfl (ExO.val rfl rfl rfl (ExO.val rfl rfl rfl (ExO.val rfl rfl rfl (ExO.nil ?_)))))))
  refine Ex.seq (Ex.region ?_)
  refine ExO.val rfl rfl rfl ?_
  refine ExO.call rfl rfl hc2 rfl ?_
  refine ExO.val rfl rfl rfl (ExO.val rfl rfl rfl (ExO.val rfl rfl rfl (ExO.val rfl rfl rfl (ExO.val rfl rfl rfl (ExO.val rfl rfl rfl (ExO.val rfl rfl rfl (ExO.nil ?_)))))))
  refine Ex.seq (Ex.region ?_)
  refine ExO.val (x := .v (.int .i64 e)) rfl rfl rfl (ExO.val (x := .v (.int .i64 e)) rfl rfl rfl ?_)
  refine ExO.val (x := .v (.bool true)) rfl (val_bl rfl (by simp)) rfl ?_
  refine ExO.val (x := .v (.bool true)) rfl rfl rfl ?_
  refine ExO.val (x := .v (.int .i64 a)) rfl rfl rfl (ExO.val (x := .v (.int .i64 a)) rfl rfl rfl ?_)
  refine ExO.val (x := .v (.bool true)) rfl (val_bl rfl (by simp)) rfl ?_
  refine ExO.val (x := .v (.bool true)) rfl rfl rfl ?_
  refine ExO.val (x := .v (.bool true)) rfl rfl rfl ?_
  refine ExO.val (x := a2) rfl rfl rfl (ExO.val (x := u) rfl rfl rfl ?_)
  refine ExO.call rfl rfl hc3 rfl ?_
  refine ExO.val (x := .v (.bool true)) rfl rfl rfl (ExO.val (x := .v (.bool true)) rfl rfl rfl (ExO.nil ?_))
  refine Ex.ret ?_
  exact ⟨.inr rfl, rfl, [.v (.bool true)], rfl, rfl⟩
end Go.DM
