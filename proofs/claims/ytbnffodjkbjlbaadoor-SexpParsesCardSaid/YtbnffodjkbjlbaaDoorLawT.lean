/- Plain laws of sexp, first part: a text's tokens by a state machine, trees out of tokens, and both ways between them. No condition. -/
import Derived.Test.YtbnffodjkbjlbaaDoorWalkT
import Derived.Test.YtbnffodjkbjlbaaDoorDmF
import Derived.Lib.AtoiAllCases
import Derived.Lib.ItoaLen
namespace Go.DM
open Go

def nilB3 : ByteArray := ByteArray.mk #[]
/-- a byte that may stand in a run -/
def inR (c : Int) : Bool := (((decide (c > 32) && decide (c < 127)) && !(c == 40)) && !(c == 41)) && (!(c == 34) && !(c == 59))
theorem inR_iff (c : Int) : inR c = true ↔ (32 < c ∧ c < 127 ∧ c ≠ 40 ∧ c ≠ 41 ∧ c ≠ 34 ∧ c ≠ 59) := by
  unfold inR
  simp only [Bool.and_eq_true, Bool.not_eq_true', decide_eq_true_eq, beq_eq_false_iff_ne, ne_eq]
  constructor
  · rintro ⟨⟨⟨⟨a, b⟩, c⟩, d⟩, e, f⟩; exact ⟨a, b, c, d, e, f⟩
  · rintro ⟨a, b, c, d, e, f⟩; exact ⟨⟨⟨⟨a, b⟩, c⟩, d⟩, e, f⟩
inductive Tk where
  | opn
  | cls
  | atom (t : TTree)
inductive LS where
  | blank
  | remark
  | text (a : List Int)
  | run (a : List Int)
/-- must the run be a number -/
def numB : List Int → Bool
  | [] => false
  | c :: _ => (c == 45) || (decide (c ≥ 48) && decide (c ≤ 57))
def numV (s : ByteArray) : Option Int := match gsexp_number 0 s with
  | some (v, true) => some v
  | _ => none
def atomR (a : List Int) : Option Tk := if numB a = true then (numV (ofB a)).map (fun v => .atom (.mk 2 nilB3 v [])) else some (.atom (.mk 1 (ofB a) 0 []))
def stepB (c : Int) : Option (List Tk × LS) :=
  if c = 32 ∨ c = 10 then some ([], .blank) else if c = 59 then some ([], .remark) else if c = 40 then some ([.opn], .blank) else if c = 41 then some ([.cls], .blank) else if c = 34 then some ([], .text []) else if inR c = true then some ([], .run [c]) else none
def stepL : LS → Int → Option (List Tk × LS)
  | .blank, c => stepB c
  | .remark, c => some ([], if c = 10 then .blank else .remark)
  | .text a, c => if c = 34 then some ([.atom (.mk 3 (ofB a) 0 [])], .blank) else if c < 32 ∨ c > 126 then none else some ([], .text (a ++ [c]))
  | .run a, c => if inR c = true then some ([], .run (a ++ [c])) else (atomR a).bind fun t => (stepB c).map fun p => (t :: p.1, p.2)
def finL : LS → Option (List Tk)
  | .blank => some []
  | .remark => some []
  | .text _ => none
  | .run a => (atomR a).map fun t => [t]
def lexF : LS → List Int → Option (List Tk)
  | st, [] => finL st
  | st, c :: r => (stepL st c).bind fun p => (lexF p.2 r).map (p.1 ++ ·)

theorem omap_nil (x : Option (List Tk)) : x.map (([] : List Tk) ++ ·) = x := by cases x <;> rfl
theorem omap_app (x : Option (List Tk)) (a b : List Tk) : (x.map (b ++ ·)).map (a ++ ·) = x.map ((a ++ b) ++ ·) := by cases x <;> simp
theorem fin_nl {st : LS} {o : List Tk} (h : finL st = some o) : stepL st 10 = some (o, .blank) := by
  cases st with
  | blank => cases h; rfl
  | remark => cases h; rfl
  | text a => cases h
  | run a =>
    simp only [finL] at h
    simp only [stepL]
    cases ha : atomR a with
    | none => rw [ha] at h; cases h
    | some t => rw [ha] at h; cases h; rfl
/-- two texts, one behind the other with a line feed between -/
theorem lex_join : ∀ (a : List Int) (st : LS) (ta : List Tk) (b : List Int), lexF st a = some ta → lexF st (a ++ 10 :: b) = (lexF .blank b).map (ta ++ ·)
  | [], st, ta, b, h => by
    rw [List.nil_append, lexF, fin_nl h]; rfl
  | c :: r, st, ta, b, h => by
    rw [List.cons_append, lexF]
    rw [lexF] at h
    cases hs : stepL st c with
    | none => rw [hs] at h; cases h
    | some p =>
      rw [hs] at h
      simp only [Option.bind_some] at h ⊢
      cases hr : lexF p.2 r with
      | none => rw [hr] at h; cases h
      | some t =>
        rw [hr] at h; cases h
        rw [lex_join r p.2 t b hr, omap_app]
theorem lex_open (l : List Int) : lexF .blank (40 :: l) = (lexF .blank l).map (([.opn] : List Tk) ++ ·) := rfl
theorem lex_close (l : List Int) : lexF .blank (41 :: l) = (lexF .blank l).map (([.cls] : List Tk) ++ ·) := rfl
theorem lex_sp (l : List Int) : lexF .blank (32 :: l) = lexF .blank l := omap_nil _
theorem lex_nl (l : List Int) : lexF .blank (10 :: l) = lexF .blank l := omap_nil _
theorem lex_rem (l : List Int) : lexF .blank (59 :: l) = lexF .remark l := omap_nil _
theorem lex_remnl (l : List Int) : lexF .remark (10 :: l) = lexF .blank l := omap_nil _
theorem lex_rem1 {c : Int} (h : c ≠ 10) (l : List Int) : lexF .remark (c :: l) = lexF .remark l := by
  rw [lexF, stepL, if_neg h]; exact omap_nil _
theorem lex_remark : ∀ (u v : List Int), (∀ c ∈ u, c ≠ 10) → lexF .remark (u ++ v) = lexF .remark v
  | [], _, _ => rfl
  | c :: u, v, h => by
    rw [List.cons_append, lex_rem1 (h c (List.mem_cons_self ..)), lex_remark u v (fun x hx => h x (List.mem_cons_of_mem _ hx))]
theorem lex_run : ∀ (u a : List Int) (v : List Int), (∀ c ∈ u, inR c = true) → lexF (.run a) (u ++ v) = lexF (.run (a ++ u)) v
  | [], a, v, _ => by rw [List.nil_append, List.append_nil]
  | c :: u, a, v, h => by
    rw [List.cons_append, lexF, stepL, if_pos (h c (List.mem_cons_self ..))]
    show (lexF (.run (a ++ [c])) (u ++ v)).map _ = _
    rw [omap_nil, lex_run u _ v (fun x hx => h x (List.mem_cons_of_mem _ hx)), List.append_assoc]; rfl
/-- a run ends where a byte stands that is none of its -/
theorem lex_runEnd (a v : List Int) (h : ∀ c r, v = c :: r → inR c = false) : lexF (.run a) v = (atomR a).bind fun t => (lexF .blank v).map (([t] : List Tk) ++ ·) := by
  cases v with
  | nil => rw [lexF, lexF, finL, finL]; cases atomR a <;> rfl
  | cons c r =>
    have hc := h c r rfl
    have hc' : ¬ inR c = true := by rw [hc]; simp
    rw [lexF, lexF]
    simp only [stepL]
    rw [if_neg hc']
    cases atomR a with
    | none => rfl
    | some t =>
      simp only [Option.bind_some]
      cases stepB c with
      | none => rfl
      | some p =>
        simp only [Option.map_some, Option.bind_some]
        rw [omap_app]; rfl
theorem lex_text : ∀ (u a : List Int) (v : List Int), (∀ c ∈ u, 32 ≤ c ∧ c ≤ 126 ∧ c ≠ 34) → lexF (.text a) (u ++ v) = lexF (.text (a ++ u)) v
  | [], a, v, _ => by rw [List.nil_append, List.append_nil]
  | c :: u, a, v, h => by
    have hc := h c (List.mem_cons_self ..)
    rw [List.cons_append, lexF, stepL, if_neg hc.2.2, if_neg (by omega)]
    show (lexF (.text (a ++ [c])) (u ++ v)).map _ = _
    rw [omap_nil, lex_text u _ v (fun x hx => h x (List.mem_cons_of_mem _ hx)), List.append_assoc]; rfl
theorem lex_textEnd (a v : List Int) : lexF (.text a) (34 :: v) = (lexF .blank v).map (([.atom (.mk 3 (ofB a) 0 [])] : List Tk) ++ ·) := rfl
theorem lex_textBad (a : List Int) {c : Int} (v : List Int) (h : c ≠ 34) (h' : c < 32 ∨ c > 126) : lexF (.text a) (c :: v) = none := by
  rw [lexF, stepL, if_neg h, if_pos h']; rfl
theorem lex_quote (l : List Int) : lexF .blank (34 :: l) = lexF (.text []) l := omap_nil _
theorem lex_word {c : Int} (hc : inR c = true) (l : List Int) : lexF .blank (c :: l) = lexF (.run [c]) l := by
  have h := (inR_iff c).1 hc
  rw [lexF, stepL, stepB, if_neg (by omega), if_neg (by omega), if_neg (by omega), if_neg (by omega), if_neg (by omega), if_pos hc]
  exact omap_nil _
theorem lex_bad {c : Int} (hc : inR c = false) (h : c ≠ 32 ∧ c ≠ 10 ∧ c ≠ 59 ∧ c ≠ 40 ∧ c ≠ 41 ∧ c ≠ 34) (l : List Int) : lexF .blank (c :: l) = none := by
  rw [lexF, stepL, stepB, if_neg (by omega), if_neg (by omega), if_neg (by omega), if_neg (by omega), if_neg (by omega), if_neg (by rw [hc]; simp)]
  rfl

/-! trees -/
mutual
def toksT : TTree → List Tk
  | .mk k w v l => if k = 4 then .opn :: (toksL l ++ [.cls]) else [.atom (.mk k w v l)]
def toksL : List TTree → List Tk
  | [] => []
  | t :: r => toksT t ++ toksL r
end
mutual
def cntT : TTree → Nat
  | .mk _ _ _ l => cntL l + 1
def cntL : List TTree → Nat
  | [] => 0
  | t :: r => cntT t + cntL r
end
mutual
def deepT : TTree → Nat
  | .mk k _ _ l => if k = 4 then deepL l + 1 else 0
def deepL : List TTree → Nat
  | [] => 0
  | t :: r => max (deepT t) (deepL r)
end
def most18 : Int := 999999999999999999
def AtomOk (t : TTree) : Prop :=
  (t.f_Kind = 1 ∧ t.f_Num = 0 ∧ t.f_Kids = [] ∧ bs t.f_Word ≠ [] ∧ (∀ c ∈ bs t.f_Word, inR c = true) ∧ numB (bs t.f_Word) = false) ∨
  (t.f_Kind = 2 ∧ t.f_Word = nilB3 ∧ t.f_Kids = [] ∧ -most18 ≤ t.f_Num ∧ t.f_Num ≤ most18) ∨
  (t.f_Kind = 3 ∧ t.f_Num = 0 ∧ t.f_Kids = [] ∧ ∀ c ∈ bs t.f_Word, 32 ≤ c ∧ c ≤ 126 ∧ c ≠ 34)
mutual
def FormT : TTree → Prop
  | .mk k w v l => (k = 4 ∧ w = nilB3 ∧ v = 0 ∧ FormL l) ∨ (k ≠ 4 ∧ AtomOk (.mk k w v l))
def FormL : List TTree → Prop
  | [] => True
  | t :: r => FormT t ∧ FormL r
end
theorem AtomOk.ne4 {t : TTree} (h : AtomOk t) : t.f_Kind ≠ 4 := by
  rcases h with h | h | h <;> omega
theorem AtomOk.kids {t : TTree} (h : AtomOk t) : t.f_Kids = [] := by
  rcases h with h | h | h
  · exact h.2.2.1
  · exact h.2.2.1
  · exact h.2.2.1
theorem AtomOk.tree {t : TTree} (h : AtomOk t) : FormT t ∧ toksT t = [.atom t] ∧ cntT t = 1 ∧ deepT t = 0 := by
  have h4 := h.ne4
  have hk := h.kids
  obtain ⟨k, w, v, l⟩ := t
  simp only [TTree.f_Kind, TTree.f_Kids] at h4 hk
  subst hk
  refine ⟨?_, ?_, ?_, ?_⟩
  · rw [FormT]; exact .inr ⟨h4, h⟩
  · rw [toksT, if_neg h4]
  · rw [cntT, cntL]
  · rw [deepT, if_neg h4]
theorem toksL_app : ∀ (a b : List TTree), toksL (a ++ b) = toksL a ++ toksL b
  | [], _ => by rw [toksL]; rfl
  | t :: r, b => by rw [List.cons_append, toksL, toksL, toksL_app r b, List.append_assoc]
theorem cntL_app : ∀ (a b : List TTree), cntL (a ++ b) = cntL a + cntL b
  | [], _ => by rw [cntL]; simp
  | t :: r, b => by rw [List.cons_append, cntL, cntL, cntL_app r b]; omega
theorem deepL_app : ∀ (a b : List TTree), deepL (a ++ b) = max (deepL a) (deepL b)
  | [], _ => by rw [deepL]; simp
  | t :: r, b => by rw [List.cons_append, deepL, deepL, deepL_app r b]; omega
theorem FormL_app : ∀ {a b : List TTree}, FormL a → FormL b → FormL (a ++ b)
  | [], _, _, h => h
  | t :: r, b, ha, hb => by
    rw [FormL] at ha
    rw [List.cons_append, FormL]; exact ⟨ha.1, FormL_app ha.2 hb⟩
theorem len_cntL : ∀ (l : List TTree), l.length ≤ cntL l
  | [] => by rw [cntL]; simp
  | t :: r => by
    have := len_cntL r
    obtain ⟨k, w, v, l⟩ := t
    rw [cntL, cntT, List.length_cons]; omega

/-- trees out of tokens -/
def gram : List (List TTree) → List TTree → Nat → List Tk → Option (List TTree × Nat)
  | [], acc, n, [] => some (acc, n)
  | _ :: _, _, _, [] => none
  | stk, acc, n, .atom t :: r => if 65536 < n + 1 then none else gram stk (acc ++ [t]) (n + 1) r
  | stk, acc, n, .opn :: r => if 65536 < n + 1 ∨ 32 < stk.length + 1 then none else gram (acc :: stk) [] (n + 1) r
  | [], _, _, .cls :: _ => none
  | p :: stk, acc, n, .cls :: r => gram stk (p ++ [.mk 4 nilB3 0 acc]) n r
theorem gram_atom (stk : List (List TTree)) (acc : List TTree) (n : Nat) (t : TTree) (r : List Tk) : gram stk acc n (.atom t :: r) = if 65536 < n + 1 then none else gram stk (acc ++ [t]) (n + 1) r := by
  cases stk <;> rw [gram]
theorem gram_opn (stk : List (List TTree)) (acc : List TTree) (n : Nat) (r : List Tk) : gram stk acc n (.opn :: r) = if 65536 < n + 1 ∨ 32 < stk.length + 1 then none else gram (acc :: stk) [] (n + 1) r := by
  cases stk <;> rw [gram]

mutual
theorem gramT : ∀ (t : TTree) (stk : List (List TTree)) (acc : List TTree) (n : Nat) (r : List Tk), FormT t → n + cntT t ≤ 65536 → stk.length + deepT t ≤ 32 → gram stk acc n (toksT t ++ r) = gram stk (acc ++ [t]) (n + cntT t) r
  | .mk k w v l, stk, acc, n, r, hf, hn, hd => by
    rw [FormT] at hf
    rcases hf with ⟨rfl, rfl, rfl, hl⟩ | ⟨hk, ha⟩
    · rw [cntT] at hn
      rw [deepT, if_pos rfl] at hd
      rw [toksT, if_pos rfl, List.cons_append, gram_opn, if_neg (by omega), List.append_assoc, gramL l _ _ _ _ hl (by omega) (by rw [List.length_cons]; omega), List.nil_append]
      show gram (acc :: stk) l _ (.cls :: r) = _
      rw [gram, cntT]
      congr 1; omega
    · obtain ⟨_, h2, h3, _⟩ := ha.tree
      rw [h2, h3, List.singleton_append, gram_atom, if_neg (by omega)]
theorem gramL : ∀ (l : List TTree) (stk : List (List TTree)) (acc : List TTree) (n : Nat) (r : List Tk), FormL l → n + cntL l ≤ 65536 → stk.length + deepL l ≤ 32 → gram stk acc n (toksL l ++ r) = gram stk (acc ++ l) (n + cntL l) r
  | [], stk, acc, n, r, _, _, _ => by rw [toksL, cntL, List.nil_append, List.append_nil, Nat.add_zero]
  | t :: l, stk, acc, n, r, hf, hn, hd => by
    rw [FormL] at hf
    rw [cntL] at hn
    rw [deepL] at hd
    rw [toksL, List.append_assoc, gramT t _ _ _ _ hf.1 (by omega) (by omega), gramL l _ _ _ _ hf.2 (by omega) (by omega), cntL, List.append_assoc, List.singleton_append, Nat.add_assoc]
end
def pend : List (List TTree) → List TTree → List Tk
  | [], acc => toksL acc
  | p :: stk, acc => pend stk p ++ .opn :: toksL acc
def GInv : List (List TTree) → List TTree → Nat → Prop
  | [], acc, n => FormL acc ∧ deepL acc ≤ 32 ∧ cntL acc = n
  | p :: stk, acc, n => FormL acc ∧ deepL acc + (stk.length + 1) ≤ 32 ∧ ∃ m, GInv stk p m ∧ m + 1 + cntL acc = n
theorem GInv.push {stk : List (List TTree)} {acc : List TTree} {n : Nat} (h : GInv stk acc n) (t : TTree) (ht : FormT t) (hd : deepT t + stk.length ≤ 32) : GInv stk (acc ++ [t]) (n + cntT t) := by
  have e1 : deepL (acc ++ [t]) = max (deepL acc) (deepT t) := by rw [deepL_app, deepL, deepL]; omega
  have e2 : cntL (acc ++ [t]) = cntL acc + cntT t := by rw [cntL_app, cntL, cntL]; omega
  have e3 : FormL [t] := by rw [FormL, FormL]; exact ⟨ht, trivial⟩
  cases stk with
  | nil =>
    obtain ⟨a, b, c⟩ := h
    simp only [List.length_nil] at hd
    exact ⟨FormL_app a e3, by omega, by omega⟩
  | cons p stk =>
    obtain ⟨a, b, m, c, d⟩ := h
    simp only [List.length_cons] at hd
    exact ⟨FormL_app a e3, by omega, m, c, by omega⟩
theorem pend_push : ∀ (stk : List (List TTree)) (acc : List TTree) (t : TTree), pend stk (acc ++ [t]) = pend stk acc ++ toksT t
  | [], acc, t => by rw [pend, pend, toksL_app, toksL, toksL, List.append_nil]
  | p :: stk, acc, t => by rw [pend, pend, toksL_app, toksL, toksL, List.append_nil, List.append_assoc]; rfl
theorem gram_sound : ∀ (ts : List Tk) (stk : List (List TTree)) (acc : List TTree) (n : Nat) (x : List TTree) (m : Nat), (∀ t, Tk.atom t ∈ ts → AtomOk t) → GInv stk acc n → n ≤ 65536 → gram stk acc n ts = some (x, m) →
    toksL x = pend stk acc ++ ts ∧ FormL x ∧ deepL x ≤ 32 ∧ cntL x = m ∧ m ≤ 65536
  | [], stk, acc, n, x, m, _, hi, hn, h => by
    cases stk with
    | nil =>
      rw [gram] at h
      cases h
      exact ⟨by rw [pend, List.append_nil], hi.1, hi.2.1, hi.2.2, hn⟩
    | cons p stk => rw [gram] at h; cases h
  | .atom t :: r, stk, acc, n, x, m, ha, hi, hn, h => by
    rw [gram_atom] at h
    split at h
    · cases h
    have ht := ha t (List.mem_cons_self ..)
    obtain ⟨h1, h2, h3, h4⟩ := ht.tree
    have hs : stk.length ≤ 32 := by
      cases stk with
      | nil => simp
      | cons p s => have := hi.2.1; rw [List.length_cons]; omega
    have hi' := hi.push t h1 (by omega)
    rw [h3] at hi'
    obtain ⟨g1, g2⟩ := gram_sound r stk _ _ x m (fun u hu => ha u (List.mem_cons_of_mem _ hu)) hi' (by omega) h
    exact ⟨by rw [g1, pend_push, h2, List.append_assoc]; rfl, g2⟩
  | .opn :: r, stk, acc, n, x, m, ha, hi, hn, h => by
    rw [gram_opn] at h
    split at h
    · cases h
    have hi' : GInv (acc :: stk) [] (n + 1) := ⟨by rw [FormL]; trivial, by rw [deepL]; omega, n, hi, by rw [cntL]⟩
    obtain ⟨g1, g2⟩ := gram_sound r (acc :: stk) [] (n + 1) x m (fun u hu => ha u (List.mem_cons_of_mem _ hu)) hi' (by omega) h
    exact ⟨by rw [g1, pend, toksL, List.append_assoc]; rfl, g2⟩
  | .cls :: r, [], acc, n, x, m, ha, hi, hn, h => by rw [gram] at h; cases h
  | .cls :: r, p :: stk, acc, n, x, m, ha, hi, hn, h => by
    rw [gram] at h
    obtain ⟨a, b, k, c, d⟩ := hi
    have e : cntT (.mk 4 nilB3 0 acc) = cntL acc + 1 := by rw [cntT]
    have hi' : GInv stk (p ++ [.mk 4 nilB3 0 acc]) n := by
      have := c.push (.mk 4 nilB3 0 acc) (by rw [FormT]; exact .inl ⟨rfl, rfl, rfl, a⟩) (by rw [deepT, if_pos rfl]; omega)
      rw [e] at this
      rwa [show k + (cntL acc + 1) = n by omega] at this
    obtain ⟨g1, g2⟩ := gram_sound r stk _ n x m (fun u hu => ha u (List.mem_cons_of_mem _ hu)) hi' hn h
    refine ⟨?_, g2⟩
    rw [g1, pend_push, toksT, if_pos rfl, pend, List.append_assoc, List.append_assoc]
    simp

/-! what tokens of a text are -/
theorem numV_bounds {s : ByteArray} {v : Int} (h : numV s = some v) : -most18 ≤ v ∧ v ≤ most18 ∧ itoaT v = some s := by
  unfold numV at h
  split at h
  · rename_i v' hv
    cases h
    unfold gsexp_number at hv
    cases ha : atoiT s with
    | none => rw [ha] at hv; cases hv
    | some p =>
      obtain ⟨u, b⟩ := p
      rw [ha] at hv
      simp only [Option.bind_some] at hv
      cases hc : ((!b) && (decide (u ≥ (-999999999999999999)))) && (decide (u ≤ 999999999999999999))
      · rw [hc] at hv
        simp at hv
      · rw [hc] at hv
        simp only [Bool.and_eq_true, Bool.not_eq_true', decide_eq_true_eq] at hc
        simp only [cond_true] at hv
        cases hi : itoaT u with
        | none => rw [hi] at hv; cases hv
        | some q =>
          rw [hi] at hv
          simp only [Option.bind_some, Option.some.injEq, Prod.mk.injEq, decide_eq_true_eq] at hv
          obtain ⟨rfl, rfl⟩ := hv
          exact ⟨by unfold most18; omega, by unfold most18; omega, hi⟩
  · cases h
def tkz : Tk → Nat
  | .opn => 3
  | .cls => 3
  | .atom t => if t.f_Kind = 2 then 23 else t.f_Word.size + 3
def tkzs : List Tk → Nat
  | [] => 0
  | t :: r => tkz t + tkzs r
theorem tkzs_app : ∀ (a b : List Tk), tkzs (a ++ b) = tkzs a + tkzs b
  | [], _ => by rw [tkzs]; simp
  | t :: r, b => by rw [List.cons_append, tkzs, tkzs, tkzs_app r b]; omega
def LSOk : LS → Prop
  | .blank => True
  | .remark => True
  | .text a => ∀ c ∈ a, 32 ≤ c ∧ c ≤ 126 ∧ c ≠ 34
  | .run a => a ≠ [] ∧ ∀ c ∈ a, inR c = true
def lsz : LS → Nat
  | .blank => 0
  | .remark => 0
  | .text a => a.length + 1
  | .run a => a.length
theorem size_ofB (a : List Int) : (ofB a).size = a.length := by
  show (a.map _).toArray.size = _
  simp
theorem atomR_ok {a : List Int} {t : Tk} (h0 : a ≠ []) (h1 : ∀ c ∈ a, inR c = true) (h : atomR a = some t) : ∃ u, t = .atom u ∧ AtomOk u ∧ tkz t ≤ 23 * a.length := by
  have hl : 1 ≤ a.length := by cases a with | nil => exact absurd rfl h0 | cons _ _ => simp
  have hb : bs (ofB a) = a := bs_ofB (fun c hc => by have := (inR_iff c).1 (h1 c hc); omega)
  unfold atomR at h
  split at h
  · cases hv : numV (ofB a) with
    | none => rw [hv] at h; cases h
    | some v =>
      rw [hv] at h; cases h
      have := numV_bounds hv
      exact ⟨_, rfl, .inr (.inl ⟨rfl, rfl, rfl, this.1, this.2.1⟩), by simp only [tkz, TTree.f_Kind, if_true]; omega⟩
  · rename_i hn
    cases h
    refine ⟨_, rfl, .inl ⟨rfl, rfl, rfl, ?_, ?_, ?_⟩, ?_⟩
    · show bs (ofB a) ≠ []; rw [hb]; exact h0
    · show ∀ c ∈ bs (ofB a), _; rw [hb]; exact h1
    · show numB (bs (ofB a)) = false; rw [hb]; simpa using hn
    · simp only [tkz, TTree.f_Kind, TTree.f_Word, size_ofB]
      rw [if_neg (by decide)]; omega
theorem stepB_ok {c : Int} {o : List Tk} {st : LS} (h : stepB c = some (o, st)) : LSOk st ∧ (∀ t, Tk.atom t ∈ o → AtomOk t) ∧ tkzs o + 23 * lsz st ≤ 23 := by
  unfold stepB at h
  split at h
  · cases h; exact ⟨trivial, by simp, by simp [tkzs, lsz]⟩
  split at h
  · cases h; exact ⟨trivial, by simp, by simp [tkzs, lsz]⟩
  split at h
  · cases h; exact ⟨trivial, by simp, by simp [tkzs, tkz, lsz]⟩
  split at h
  · cases h; exact ⟨trivial, by simp, by simp [tkzs, tkz, lsz]⟩
  split at h
  · cases h; exact ⟨by simp [LSOk], by simp, by simp [tkzs, lsz]⟩
  split at h
  · rename_i hc
    cases h; exact ⟨⟨by simp, by simpa using hc⟩, by simp, by simp [tkzs, lsz]⟩
  · cases h
theorem stepL_ok {s0 st : LS} {c : Int} {o : List Tk} (h0 : LSOk s0) (h : stepL s0 c = some (o, st)) : LSOk st ∧ (∀ t, Tk.atom t ∈ o → AtomOk t) ∧ tkzs o + 23 * lsz st ≤ 23 * lsz s0 + 23 := by
  cases s0 with
  | blank =>
    have := stepB_ok h
    exact ⟨this.1, this.2.1, by simp only [lsz] at *; omega⟩
  | remark =>
    cases h
    split
    · exact ⟨trivial, by simp, by simp [tkzs, lsz]⟩
    · exact ⟨trivial, by simp, by simp [tkzs, lsz]⟩
  | text a =>
    simp only [stepL] at h
    split at h
    · cases h
      have h0' : ∀ c ∈ a, 32 ≤ c ∧ c ≤ 126 ∧ c ≠ 34 := h0
      have hb : bs (ofB a) = a := bs_ofB (fun c hc => by have := h0' c hc; omega)
      refine ⟨trivial, fun t ht => ?_, ?_⟩
      · rw [List.mem_singleton] at ht
        cases ht
        refine .inr (.inr ⟨rfl, rfl, rfl, ?_⟩)
        show ∀ c ∈ bs (ofB a), _
        rw [hb]; exact h0'
      · simp only [tkzs, tkz, TTree.f_Kind, TTree.f_Word, size_ofB, lsz]
        rw [if_neg (by decide)]; omega
    · split at h
      · cases h
      · rename_i h1 h2
        cases h
        refine ⟨fun x hx => ?_, by simp, by simp only [tkzs, lsz, List.length_append, List.length_singleton]; omega⟩
        rcases List.mem_append.1 hx with hx | hx
        · exact h0 x hx
        · rw [List.mem_singleton] at hx
          subst hx
          exact ⟨by omega, by omega, h1⟩
  | run a =>
    simp only [stepL] at h
    split at h
    · rename_i hc
      cases h
      refine ⟨⟨by simp, fun x hx => ?_⟩, by simp, by simp only [tkzs, lsz, List.length_append, List.length_singleton]; omega⟩
      rcases List.mem_append.1 hx with hx | hx
      · exact h0.2 x hx
      · rw [List.mem_singleton] at hx
        subst hx
        exact hc
    · cases ha : atomR a with
      | none => rw [ha] at h; cases h
      | some t =>
        rw [ha] at h
        cases hb : stepB c with
        | none => rw [hb] at h; cases h
        | some p =>
          obtain ⟨o', st'⟩ := p
          rw [hb] at h
          cases h
          obtain ⟨u, rfl, hu, hz⟩ := atomR_ok h0.1 h0.2 ha
          obtain ⟨k1, k2, k3⟩ := stepB_ok hb
          refine ⟨k1, fun t ht => ?_, ?_⟩
          · rcases List.mem_cons.1 ht with ht | ht
            · cases ht; exact hu
            · exact k2 t ht
          · simp only [tkzs, lsz] at *; omega
theorem lexF_ok : ∀ (l : List Int) (st : LS) (ts : List Tk), LSOk st → lexF st l = some ts → (∀ t, Tk.atom t ∈ ts → AtomOk t) ∧ tkzs ts ≤ 23 * (l.length + lsz st)
  | [], st, ts, h0, h => by
    rw [lexF] at h
    cases st with
    | blank => cases h; exact ⟨by simp, by simp [tkzs]⟩
    | remark => cases h; exact ⟨by simp, by simp [tkzs]⟩
    | text a => cases h
    | run a =>
      simp only [finL] at h
      cases ha : atomR a with
      | none => rw [ha] at h; cases h
      | some t =>
        rw [ha] at h
        cases h
        obtain ⟨u, rfl, hu, hz⟩ := atomR_ok h0.1 h0.2 ha
        refine ⟨fun t ht => ?_, ?_⟩
        · rw [List.mem_singleton] at ht; cases ht; exact hu
        · simp only [tkzs, lsz, List.length_nil] at *; omega
  | c :: r, st, ts, h0, h => by
    rw [lexF] at h
    cases hs : stepL st c with
    | none => rw [hs] at h; cases h
    | some p =>
      obtain ⟨o, st'⟩ := p
      rw [hs] at h
      simp only [Option.bind_some] at h
      cases hr : lexF st' r with
      | none => rw [hr] at h; cases h
      | some t =>
        rw [hr] at h; cases h
        obtain ⟨k1, k2, k3⟩ := stepL_ok h0 hs
        obtain ⟨g1, g2⟩ := lexF_ok r st' t k1 hr
        refine ⟨fun u hu => ?_, ?_⟩
        · rcases List.mem_append.1 hu with hu | hu
          · exact k2 u hu
          · exact g1 u hu
        · rw [tkzs_app, List.length_cons]; omega

/-- a text's trees -/
def parseX (l : List Int) : Option (List TTree) := ((lexF .blank l).bind (gram [] [] 0)).map (·.1)
theorem parseX_iff (l : List Int) (x : List TTree) : parseX l = some x ↔ (lexF .blank l = some (toksL x) ∧ FormL x ∧ deepL x ≤ 32 ∧ cntL x ≤ 65536) := by
  unfold parseX
  constructor
  · intro h
    cases hl : lexF .blank l with
    | none => rw [hl] at h; cases h
    | some ts =>
      rw [hl] at h
      simp only [Option.bind_some] at h
      cases hg : gram [] [] 0 ts with
      | none => rw [hg] at h; cases h
      | some p =>
        obtain ⟨y, m⟩ := p
        rw [hg] at h
        cases h
        obtain ⟨h1, h2, h3, h4, h5⟩ := gram_sound ts [] [] 0 _ _ (lexF_ok l .blank ts trivial hl).1 ⟨by rw [FormL]; trivial, by rw [deepL]; omega, by rw [cntL]⟩ (by omega) hg
        rw [pend, toksL, List.nil_append] at h1
        exact ⟨by rw [h1], h2, h3, by show cntL y ≤ 65536; omega⟩
  · rintro ⟨h1, h2, h3, h4⟩
    rw [h1]
    have := gramL x [] [] 0 [] h2 (by omega) (by simp; omega)
    rw [List.append_nil, List.nil_append, Nat.zero_add, gram] at this
    rw [Option.bind_some, this]; rfl
end Go.DM
namespace Go.DM
open Go

/-! library functions at bytes -/
theorem byte_fin3 {P : Int → Prop} (h : ∀ n : _root_.Fin 256, P ((n.val : Nat) : Int)) {c : Int} (h0 : 0 ≤ c) (h1 : c < 256) : P c := by
  have := h ⟨c.toNat, by omega⟩
  simpa [Int.toNat_of_nonneg h0] using this
theorem within_eq (n : Nat) {c : Int} (h0 : 0 ≤ c) (h1 : c < 256) : gsexp_within n c = some (inR c) := by
  show gsexp_within 0 c = some (inR c)
  exact byte_fin3 (P := fun c => gsexp_within 0 c = some (inR c)) (by decide +kernel) h0 h1
theorem idx10L : ∀ (l : List UInt8), (Lib.indexByte l 10 = -1 ∧ ∀ c ∈ l.map (fun b => (b.toNat : Int)), c ≠ 10) ∨ ∃ u v, l.map (fun b => (b.toNat : Int)) = u ++ 10 :: v ∧ (∀ c ∈ u, c ≠ 10) ∧ Lib.indexByte l 10 = (u.length : Int)
  | [] => .inl ⟨rfl, by simp⟩
  | b :: l => by
    by_cases hb : b = 10
    · subst hb
      exact .inr ⟨[], _, rfl, by simp, rfl⟩
    · have hb' : (b == 10) = false := by simpa using hb
      have hn : (b.toNat : Int) ≠ 10 := fun e => hb (UInt8.toNat.inj (by show b.toNat = 10; omega))
      unfold Lib.indexByte
      rw [hb']
      rcases idx10L l with ⟨h1, h2⟩ | ⟨u, v, h1, h2, h3⟩
      · left
        rw [h1]
        refine ⟨rfl, fun c hc => ?_⟩
        rw [List.map_cons] at hc
        rcases List.mem_cons.1 hc with rfl | hc
        · exact hn
        · exact h2 c hc
      · right
        refine ⟨(b.toNat : Int) :: u, v, by rw [List.map_cons, h1]; rfl, fun c hc => ?_, ?_⟩
        · rcases List.mem_cons.1 hc with rfl | hc
          · exact hn
          · exact h2 c hc
        · rw [h3]
          have : ((u.length : Int) == -1) = false := by rw [beq_eq_false_iff_ne]; omega
          rw [this]
          rfl
theorem idx10 (t : ByteArray) : (indexByteT t 10 = some (-1) ∧ ∀ c ∈ bs t, c ≠ 10) ∨ ∃ u v, bs t = u ++ 10 :: v ∧ (∀ c ∈ u, c ≠ 10) ∧ indexByteT t 10 = some (u.length : Int) := by
  rcases idx10L t.data.toList with ⟨h1, h2⟩ | ⟨u, v, h1, h2, h3⟩
  · left
    exact ⟨congrArg some h1, h2⟩
  · right
    exact ⟨u, v, h1, h2, congrArg some h3⟩
theorem bs_tail {s : ByteArray} {y : Nat} (_h : y ≤ s.size) : bs (s.extract y s.size) = (bs s).drop y := by
  rw [bs_extract, List.take_of_length_le (by rw [List.length_drop, bs_length]; omega)]
theorem ext_snoc {s : ByteArray} {a y : Nat} {c : Int} (h : a ≤ y) (hc : (bs s)[y]? = some c) : bs (s.extract a (y + 1)) = bs (s.extract a y) ++ [c] := by
  rw [bs_extract, bs_extract, show y + 1 - a = (y - a) + 1 by omega, List.take_add_one, List.getElem?_drop, show a + (y - a) = y by omega, hc]
  rfl

/-! skip -/
def SkipR (s : ByteArray) (y y' : Nat) : Prop := y ≤ y' ∧ y' ≤ s.size ∧ lexF .blank ((bs s).drop y) = lexF .blank ((bs s).drop y') ∧ ∀ c r, (bs s).drop y' = c :: r → c ≠ 32 ∧ c ≠ 10 ∧ c ≠ 59
theorem skip_loop (N : Nat) (s : ByteArray) (hs : s.size ≤ 6000000) : ∀ (k y m : Nat), s.size - y ≤ k → k < m → y ≤ s.size →
    ∃ y' : Nat, (gsexp_parser__skip_L1 N s m (y : Int) = some (.out (y' : Int)) ∨ gsexp_parser__skip_L1 N s m (y : Int) = some (.ret (y' : Int))) ∧ SkipR s y y' := by
  intro k
  induction k with
  | zero =>
    intro y m hk hm hy
    obtain ⟨m, rfl⟩ : ∃ m', m = m' + 1 := ⟨m - 1, by omega⟩
    have hlen := bs_length s
    rw [gsexp_parser__skip_L1]
    have h1 : decide (((y : Nat) : Int) < ((s.size : Nat) : Int)) = false := by simp; omega
    rw [h1]
    refine ⟨y, .inl rfl, by omega, hy, rfl, fun c r h => ?_⟩
    rw [List.drop_eq_nil_of_le (by omega)] at h; cases h
  | succ k ih =>
    intro y m hk hm hy
    obtain ⟨m, rfl⟩ : ∃ m', m = m' + 1 := ⟨m - 1, by omega⟩
    have hlen := bs_length s
    rw [gsexp_parser__skip_L1]
    rcases hl : (bs s).drop y with _ | ⟨c, r⟩
    · have := drop_nil_le hl
      have h1 : decide (((y : Nat) : Int) < ((s.size : Nat) : Int)) = false := by simp; omega
      rw [h1]
      refine ⟨y, .inl rfl, by omega, hy, rfl, fun c r h => ?_⟩
      rw [hl] at h; cases h
    obtain ⟨hc, hr, hlt⟩ := drop_cons_at hl
    have h1 : decide (((y : Nat) : Int) < ((s.size : Nat) : Int)) = true := by simp; omega
    rw [h1, atS_bs, hc]
    simp only [Option.bind_some, cond_true]
    by_cases hw : c = 32 ∨ c = 10
    · have h2 : (c == 32 || c == 10) = true := by simpa using hw
      rw [h2, w64_succ (by omega)]
      obtain ⟨y', g1, g2, g3, g4, g5⟩ := ih (y + 1) m (by omega) (by omega) (by omega)
      refine ⟨y', g1, by omega, g3, ?_, g5⟩
      rw [← g4, hr, hl]
      rcases hw with rfl | rfl
      · exact lex_sp r
      · exact lex_nl r
    · have h2 : (c == 32 || c == 10) = false := by simpa using hw
      rw [h2]
      simp only [cond_false]
      by_cases hq : c = 59
      · subst hq
        simp only [beq_self_eq_true, cond_true]
        rw [subS_nat s y s.size (by omega) (by omega)]
        simp only [Option.bind_some]
        rcases idx10 (s.extract y s.size) with ⟨e1, e2⟩ | ⟨u, v, e1, e2, e3⟩
        · rw [e1]
          rw [bs_tail hy, hl] at e2
          have h3 : decide ((-1 : Int) < 0) = true := rfl
          simp only [Option.bind_some, h3, cond_true]
          rw [show (((s.size : Nat) : Int) - (y : Int)) = ((s.size - y : Nat) : Int) by omega, w64 (n := ((s.size - y : Nat) : Int)) (by omega) (by omega), show ((y : Int) + ((s.size - y : Nat) : Int)) = ((s.size : Nat) : Int) by omega, w64 (n := ((s.size : Nat) : Int)) (by omega) (by omega)]
          obtain ⟨y', g1, g2, g3, g4, g5⟩ := ih s.size m (by omega) (by omega) (by omega)
          refine ⟨y', g1, by omega, g3, ?_, g5⟩
          rw [← g4, hl, List.drop_eq_nil_of_le (by omega), lex_rem]
          have := lex_remark r [] (fun x hx => e2 x (List.mem_cons_of_mem _ hx))
          rw [List.append_nil] at this
          rw [this]; rfl
        · rw [e3]
          rw [bs_tail hy, hl] at e1
          have hu : u ≠ [] := fun h => by
            rw [h] at e1; simp at e1
          obtain ⟨w, u, rfl⟩ : ∃ w u', u = w :: u' := by
            cases u with
            | nil => exact absurd rfl hu
            | cons a b => exact ⟨a, b, rfl⟩
          rw [List.cons_append] at e1
          injection e1 with e1 e1'
          subst e1
          have h3 : decide (((((59 : Int) :: u).length : Nat) : Int) < 0) = false := by simp; omega
          simp only [Option.bind_some, h3, cond_false]
          have hlr : r.length + 1 + y = s.size := by
            have := congrArg List.length hl
            rw [List.length_drop, List.length_cons] at this; omega
          have hlu : u.length + 1 ≤ r.length := by rw [e1']; simp
          have hc1 : ((59 : Int) :: u).length = u.length + 1 := rfl
          rw [hc1, show ((y : Int) + ((u.length + 1 : Nat) : Int)) = ((y + (u.length + 1) : Nat) : Int) by omega, w64 (by omega) (by omega)]
          obtain ⟨y', g1, g2, g3, g4, g5⟩ := ih (y + (u.length + 1)) m (by omega) (by omega) (by omega)
          refine ⟨y', g1, by omega, g3, ?_, g5⟩
          rw [← g4]
          have hd : (bs s).drop (y + (u.length + 1)) = 10 :: v := by
            rw [← List.drop_drop, hl, List.drop_succ_cons, e1', List.drop_left]
          rw [hd, hl, lex_rem, e1', lex_remark u _ (fun x hx => e2 x (List.mem_cons_of_mem _ hx)), lex_remnl, lex_nl]
      · have h3 : (c == 59) = false := by simpa using hq
        rw [h3]
        refine ⟨y, .inr rfl, by omega, hy, by rw [hl], fun c' r' h => ?_⟩
        rw [hl] at h
        injection h with h _
        subst h
        exact ⟨fun h => hw (.inl h), fun h => hw (.inr h), hq⟩
theorem skip_eq (n : Nat) (s : ByteArray) (hs : s.size ≤ 6000000) (hn : s.size < n) (y : Nat) (hy : y ≤ s.size) (z : Int) : ∃ y' : Nat, gsexp_parser__skip n s (y : Int) z = some (y' : Int) ∧ SkipR s y y' := by
  obtain ⟨y', g1, g2⟩ := skip_loop n s hs s.size y n (by omega) hn hy
  refine ⟨y', ?_, g2⟩
  unfold gsexp_parser__skip
  rcases g1 with g1 | g1 <;> rw [g1] <;> rfl

/-! texts in quotes -/
theorem quoted_loop (N : Nat) (s : ByteArray) (hs : s.size ≤ 6000000) (p : Nat) : ∀ (k y m : Nat), s.size - y ≤ k → k < m → p + 1 ≤ y → y ≤ s.size →
    (lexF (.text (bs (s.extract (p + 1) y))) ((bs s).drop y) = none ∧ (gsexp_parser__quoted_L1 N s (p : Int) m (y : Int) = some (.out ()) ∨ ∃ e : Tsexp_fault, e.f_e ≠ 0 ∧ gsexp_parser__quoted_L1 N s (p : Int) m (y : Int) = some (.ret (.pan e)))) ∨
    ∃ (w : ByteArray) (y' : Nat), gsexp_parser__quoted_L1 N s (p : Int) m (y : Int) = some (.ret (.val (.mk 3 w 0 [], (y' : Int)))) ∧ p < y' ∧ y' ≤ s.size ∧ lexF (.text (bs (s.extract (p + 1) y))) ((bs s).drop y) = (lexF .blank ((bs s).drop y')).map (([.atom (.mk 3 w 0 [])] : List Tk) ++ ·) := by
  intro k
  induction k with
  | zero =>
    intro y m hk hm hp hy
    obtain ⟨m, rfl⟩ : ∃ m', m = m' + 1 := ⟨m - 1, by omega⟩
    have hlen := bs_length s
    rw [gsexp_parser__quoted_L1]
    have h1 : decide (((y : Nat) : Int) < ((s.size : Nat) : Int)) = false := by simp; omega
    rw [h1]
    left
    rw [List.drop_eq_nil_of_le (by omega)]
    exact ⟨rfl, .inl rfl⟩
  | succ k ih =>
    intro y m hk hm hp hy
    obtain ⟨m, rfl⟩ : ∃ m', m = m' + 1 := ⟨m - 1, by omega⟩
    have hlen := bs_length s
    rw [gsexp_parser__quoted_L1]
    rcases hl : (bs s).drop y with _ | ⟨c, r⟩
    · have := drop_nil_le hl
      have h1 : decide (((y : Nat) : Int) < ((s.size : Nat) : Int)) = false := by simp; omega
      rw [h1]
      left
      exact ⟨rfl, .inl rfl⟩
    obtain ⟨hc, hr, hlt⟩ := drop_cons_at hl
    have h1 : decide (((y : Nat) : Int) < ((s.size : Nat) : Int)) = true := by simp; omega
    rw [h1, atS_bs, hc]
    simp only [Option.bind_some, cond_true]
    by_cases h34 : c = 34
    · subst h34
      simp only [beq_self_eq_true, cond_true]
      rw [w64_succ (n := p) (by omega), subS_nat s (p + 1) y hp (by omega), w64_succ (n := y) (by omega)]
      right
      refine ⟨s.extract (p + 1) y, y + 1, rfl, by omega, by omega, ?_⟩
      rw [lex_textEnd, ofB_bs, hr]
    · have h2 : (c == 34) = false := by simpa using h34
      rw [h2]
      simp only [cond_false]
      by_cases h10 : c = 10
      · subst h10
        left
        exact ⟨lex_textBad _ _ (by omega) (by omega), .inl rfl⟩
      · have h3 : (c == 10) = false := by simpa using h10
        rw [h3]
        simp only [cond_false]
        by_cases hb : c < 32 ∨ c > 126
        · have h4 : (decide (c < 32) || decide (c > 126)) = true := by simpa using hb
          rw [h4]
          left
          exact ⟨lex_textBad _ _ h34 hb, .inr ⟨⟨y, 31⟩, (by show (31 : Int) ≠ 0; decide), rfl⟩⟩
        · have h4 : (decide (c < 32) || decide (c > 126)) = false := by simpa using hb
          rw [h4]
          simp only [cond_false, Option.bind_some]
          rw [w64_succ (n := y) (by omega)]
          have := ih (y + 1) m (by omega) (by omega) (by omega) (by omega)
          rw [ext_snoc hp hc, hr] at this
          have e : lexF (.text (bs (s.extract (p + 1) y))) (c :: r) = lexF (.text (bs (s.extract (p + 1) y) ++ [c])) r := by
            have := lex_text [c] (bs (s.extract (p + 1) y)) r (fun x hx => by rw [List.mem_singleton] at hx; subst hx; omega)
            exact this
          rw [e]
          exact this
theorem quoted_eq (n : Nat) (s : ByteArray) (hs : s.size ≤ 6000000) (hn : s.size < n) (p : Nat) (r : List Int) (hp : (bs s).drop p = 34 :: r) (z : Int) :
    (lexF .blank ((bs s).drop p) = none ∧ ∃ e : Tsexp_fault, e.f_e ≠ 0 ∧ gsexp_parser__quoted n s (p : Int) z = some (.pan e)) ∨
    ∃ (t : TTree) (y' : Nat), gsexp_parser__quoted n s (p : Int) z = some (.val (t, (y' : Int))) ∧ p < y' ∧ y' ≤ s.size ∧ lexF .blank ((bs s).drop p) = (lexF .blank ((bs s).drop y')).map (([.atom t] : List Tk) ++ ·) := by
  obtain ⟨hc, hr, hlt⟩ := drop_cons_at hp
  rw [bs_length] at hlt
  have e0 : bs (s.extract (p + 1) (p + 1)) = [] := by rw [bs_extract, Nat.sub_self]; rfl
  have := quoted_loop n s hs p s.size (p + 1) n (by omega) hn (by omega) (by omega)
  rw [e0, hr, ← lex_quote, ← hp] at this
  unfold gsexp_parser__quoted
  rw [w64_succ (n := p) (by omega)]
  rcases this with ⟨h1, h2 | ⟨e, he, h2⟩⟩ | ⟨w, y', h1, h2, h3, h4⟩
  · left
    rw [h2]
    exact ⟨h1, ⟨p, 31⟩, (by show (31 : Int) ≠ 0; decide), rfl⟩
  · left
    rw [h2]
    exact ⟨h1, e, he, rfl⟩
  · right
    rw [h1]
    exact ⟨_, y', rfl, h2, h3, h4⟩

/-! words and numbers -/
theorem run_loop3 (N : Nat) (s : ByteArray) (hs : s.size ≤ 6000000) : ∀ (k y m : Nat), s.size - y ≤ k → k < m → y ≤ s.size → gsexp_parser__run_L1 N s m (y : Int) = some (((y + (((bs s).drop y).takeWhile inR).length : Nat) : Int)) := by
  intro k
  induction k with
  | zero =>
    intro y m hk hm hy
    obtain ⟨m, rfl⟩ : ∃ m', m = m' + 1 := ⟨m - 1, by omega⟩
    have hlen := bs_length s
    rw [gsexp_parser__run_L1]
    have h1 : decide (((y : Nat) : Int) < ((s.size : Nat) : Int)) = false := by simp; omega
    rw [h1, List.drop_eq_nil_of_le (by omega)]
    rfl
  | succ k ih =>
    intro y m hk hm hy
    obtain ⟨m, rfl⟩ : ∃ m', m = m' + 1 := ⟨m - 1, by omega⟩
    have hlen := bs_length s
    rw [gsexp_parser__run_L1]
    rcases hl : (bs s).drop y with _ | ⟨c, r⟩
    · have := drop_nil_le hl
      have h1 : decide (((y : Nat) : Int) < ((s.size : Nat) : Int)) = false := by simp; omega
      rw [h1]
      rfl
    obtain ⟨hc, hr, hlt⟩ := drop_cons_at hl
    have hb : 0 ≤ c ∧ c < 256 := bs_byte (List.mem_of_getElem? hc)
    have h1 : decide (((y : Nat) : Int) < ((s.size : Nat) : Int)) = true := by simp; omega
    rw [h1, atS_bs, hc]
    simp only [Option.bind_some, cond_true]
    rw [within_eq N hb.1 hb.2]
    simp only [Option.bind_some]
    cases hi : inR c
    · rw [List.takeWhile_cons, hi]; rfl
    · rw [List.takeWhile_cons, hi, cond_true, w64_succ (by omega), ih (y + 1) m (by omega) (by omega) (by omega), hr]
      simp only [if_true, List.length_cons]
      congr 2; omega
theorem tw_take (p : Int → Bool) : ∀ (l : List Int), l.take (l.takeWhile p).length = l.takeWhile p
  | [] => rfl
  | c :: l => by
    rw [List.takeWhile_cons]
    cases h : p c
    · rfl
    · simp only [if_true, List.length_cons, List.take_succ_cons]; rw [tw_take p l]
theorem tw_drop (p : Int → Bool) : ∀ (l : List Int), l.drop (l.takeWhile p).length = l.dropWhile p
  | [] => rfl
  | c :: l => by
    rw [List.takeWhile_cons, List.dropWhile_cons]
    cases h : p c
    · rfl
    · simp only [if_true, List.length_cons, List.drop_succ_cons]; rw [tw_drop p l]
theorem tw_all (p : Int → Bool) : ∀ (l : List Int), ∀ c ∈ l.takeWhile p, p c = true
  | [], c, h => by cases h
  | d :: l, c, h => by
    rw [List.takeWhile_cons] at h
    cases hd : p d
    · rw [hd] at h; cases h
    · rw [hd, if_pos rfl] at h
      rcases List.mem_cons.1 h with rfl | h
      · exact hd
      · exact tw_all p l c h
theorem dw_head (p : Int → Bool) : ∀ (l : List Int) (c : Int) (r : List Int), l.dropWhile p = c :: r → p c = false
  | [], c, r, h => by cases h
  | d :: l, c, r, h => by
    rw [List.dropWhile_cons] at h
    cases hd : p d
    · rw [hd] at h; injection h with h _; rw [← h]; exact hd
    · rw [hd, if_pos rfl] at h; exact dw_head p l c r h
theorem numeric_eq (n : Nat) (s : ByteArray) (h : bs s ≠ []) : gsexp_numeric n s = some (numB (bs s)) := by
  unfold gsexp_numeric
  have e : atS s 0 = (bs s)[0]? := atS_bs s 0
  rw [e]
  rcases hl : bs s with _ | ⟨c, r⟩
  · exact absurd hl h
  · simp only [List.getElem?_cons_zero, Option.bind_some, numB]
    cases c == 45 <;> cases decide (c ≥ 48) <;> rfl
theorem number_eq (n : Nat) (s : ByteArray) (h : s.size ≤ 6000000) : ∃ v b, gsexp_number n s = some (v, b) ∧ numV s = if b = true then some v else none := by
  have key : ∃ v b, gsexp_number n s = some (v, b) := by
    unfold gsexp_number
    obtain ⟨v, e, ha⟩ : ∃ v e, atoiT s = some (v, e) := by
      unfold atoiT
      rw [if_pos (by omega)]
      cases Lib.atoiAll s.data.toList <;> exact ⟨_, _, rfl⟩
    rw [ha]
    simp only [Option.bind_some]
    cases hc : ((!e) && (decide (v ≥ (-999999999999999999)))) && (decide (v ≤ 999999999999999999))
    · exact ⟨_, _, rfl⟩
    · simp only [Bool.and_eq_true, decide_eq_true_eq] at hc
      have : itoaT v = some ⟨(Lib.itoa v).toArray⟩ := by unfold itoaT; rw [if_pos (by omega)]
      simp only [cond_true]
      rw [this]
      exact ⟨_, _, rfl⟩
  obtain ⟨v, b, hk⟩ := key
  refine ⟨v, b, hk, ?_⟩
  have hk' : gsexp_number 0 s = some (v, b) := hk
  unfold numV
  rw [hk']
  cases b <;> rfl
theorem run_eq (n : Nat) (s : ByteArray) (hs : s.size ≤ 6000000) (hn : s.size < n) (p : Nat) (c : Int) (r : List Int) (hp : (bs s).drop p = c :: r) (hc : c ≠ 32 ∧ c ≠ 10 ∧ c ≠ 59) (hc' : c ≠ 41 ∧ c ≠ 40 ∧ c ≠ 34) (z : Int) :
    (lexF .blank ((bs s).drop p) = none ∧ ∃ e : Tsexp_fault, e.f_e ≠ 0 ∧ gsexp_parser__run n s (p : Int) z = some (.pan e)) ∨
    ∃ (t : TTree) (y' : Nat), gsexp_parser__run n s (p : Int) z = some (.val (t, (y' : Int))) ∧ p < y' ∧ y' ≤ s.size ∧ lexF .blank ((bs s).drop p) = (lexF .blank ((bs s).drop y')).map (([.atom t] : List Tk) ++ ·) := by
  obtain ⟨hcc, hr, hlt⟩ := drop_cons_at hp
  rw [bs_length] at hlt
  have hlen : (bs s).length = s.size := bs_length s
  unfold gsexp_parser__run
  rw [run_loop3 n s hs s.size p n (by omega) hn (by omega)]
  simp only [Option.bind_some]
  have htw : (((bs s).drop p).takeWhile inR).length ≤ s.size - p := by
    have := (List.takeWhile_sublist inR (l := (bs s).drop p)).length_le
    rw [List.length_drop] at this; omega
  rw [subS_nat s p _ (by omega) (by omega)]
  simp only [Option.bind_some]
  have hw : bs (s.extract p (p + (((bs s).drop p).takeWhile inR).length)) = ((bs s).drop p).takeWhile inR := by
    rw [bs_extract, show p + (((bs s).drop p).takeWhile inR).length - p = (((bs s).drop p).takeWhile inR).length by omega, tw_take]
  cases hi : inR c
  · left
    have e0 : ((bs s).drop p).takeWhile inR = [] := by rw [hp, List.takeWhile_cons, hi]; rfl
    have e1 : s.extract p (p + (((bs s).drop p).takeWhile inR).length) = ByteArray.mk #[] := by rw [← bs_nil, hw, e0]
    rw [decide_eq_true e1]
    refine ⟨?_, ⟨p, 31⟩, (by show (31 : Int) ≠ 0; decide), rfl⟩
    rw [hp]
    exact lex_bad hi ⟨hc.1, hc.2.1, hc.2.2, hc'.2.1, hc'.1, hc'.2.2⟩ r
  · have e0 : ((bs s).drop p).takeWhile inR = c :: r.takeWhile inR := by rw [hp, List.takeWhile_cons, hi]; rfl
    have e1 : ¬ s.extract p (p + (((bs s).drop p).takeWhile inR).length) = ByteArray.mk #[] := by
      rw [← bs_nil, hw, e0]; simp
    have hnn : bs (s.extract p (p + (((bs s).drop p).takeWhile inR).length)) ≠ [] := by rw [hw, e0]; simp
    have hlx : lexF .blank ((bs s).drop p) = (atomR (((bs s).drop p).takeWhile inR)).bind fun t => (lexF .blank ((bs s).drop (p + (((bs s).drop p).takeWhile inR).length))).map (([t] : List Tk) ++ ·) := by
      rw [← List.drop_drop, tw_drop, ← lex_runEnd _ _ (dw_head inR _)]
      have h2 : (bs s).drop p = ((bs s).drop p).takeWhile inR ++ ((bs s).drop p).dropWhile inR := (List.takeWhile_append_dropWhile).symm
      conv => lhs; rw [h2, e0]
      rw [e0, List.cons_append, lex_word hi, lex_run _ _ _ (tw_all inR r)]
      rfl
    rw [hlx]
    rw [decide_eq_false e1]
    simp only [cond_false, Option.bind_some]
    rw [numeric_eq n _ hnn, hw]
    simp only [Option.bind_some]
    have hpos : 0 < (((bs s).drop p).takeWhile inR).length := by rw [e0]; simp
    have hof : ofB (((bs s).drop p).takeWhile inR) = s.extract p (p + (((bs s).drop p).takeWhile inR).length) := by rw [← hw, ofB_bs]; rw [hw]
    unfold atomR
    cases hnb : numB (((bs s).drop p).takeWhile inR)
    · right
      rw [if_neg (by simp)]
      refine ⟨_, p + (((bs s).drop p).takeWhile inR).length, rfl, by omega, by omega, ?_⟩
      rw [hof]; rfl
    · rw [if_pos rfl, hof]
      simp only [Bool.not_true, cond_false]
      have hsz : (s.extract p (p + (((bs s).drop p).takeWhile inR).length)).size ≤ 6000000 := by
        rw [← bs_length, hw]; omega
      obtain ⟨v, b, k1, k2⟩ := number_eq n _ hsz
      rw [k1, k2]
      cases b
      · left
        exact ⟨rfl, ⟨p, 31⟩, (by show (31 : Int) ≠ 0; decide), rfl⟩
      · right
        exact ⟨_, p + (((bs s).drop p).takeWhile inR).length, rfl, by omega, by omega, rfl⟩
end Go.DM
namespace Go.DM
open Go
set_option maxRecDepth 100000
def itoaL (v : Int) : List Int := (Lib.itoa v).map (fun b => (b.toNat : Int))
def itoaS (v : Int) : ByteArray := ⟨(Lib.itoa v).toArray⟩
theorem bs_itoaS (v : Int) : bs (itoaS v) = itoaL v := by simp [bs, itoaS, itoaL]
theorem itoaT_ok3 {v : Int} (h : -most18 ≤ v ∧ v ≤ most18) : itoaT v = some (itoaS v) := by
  unfold most18 at h
  unfold itoaT
  rw [if_pos (by omega)]; rfl
theorem itoaL_len {v : Int} (h : -most18 ≤ v ∧ v ≤ most18) : (itoaL v).length ≤ 21 := by
  unfold most18 at h
  unfold itoaL
  rw [List.length_map]
  exact Lib.itoa_length_le v (by omega) (by omega)
/-! numbers, written and read -/
theorem parseU_app : ∀ (a b : List UInt8) (acc u : Nat), Lib.parseUint10 acc a = .ok u → Lib.parseUint10 acc (a ++ b) = Lib.parseUint10 u b
  | [], b, acc, u, h => by rw [Lib.parseUint10] at h; injection h with h; rw [h]; rfl
  | c :: a, b, acc, u, h => by
    rw [Lib.parseUint10] at h
    rw [List.cons_append, Lib.parseUint10]
    by_cases h1 : 48 ≤ c.toNat ∧ c.toNat ≤ 57
    · rw [if_pos h1] at h ⊢
      by_cases h2 : 1844674407370955162 ≤ acc
      · rw [if_pos h2] at h; cases h
      · rw [if_neg h2] at h ⊢
        by_cases h3 : 18446744073709551616 ≤ acc * 10 + (c.toNat - 48)
        · rw [if_pos h3] at h; cases h
        · rw [if_neg h3] at h ⊢
          exact parseU_app a b _ u h
    · rw [if_neg h1] at h; cases h
theorem dec_facts : ∀ (n u : Nat), u ≤ n → u < 1000000000000000000 → Lib.parseUint10 0 (Lib.decDigits u) = .ok u ∧ (∀ c ∈ Lib.decDigits u, 48 ≤ c.toNat ∧ c.toNat ≤ 57) ∧ Lib.decDigits u ≠ []
  | n, u, hn, hu => by
    rw [Lib.decDigits]
    by_cases h : u < 10
    · rw [dif_pos h]
      have e : (UInt8.ofNat (48 + u)).toNat = 48 + u := by rw [UInt8.toNat_ofNat']; omega
      refine ⟨?_, ?_, by simp⟩
      · rw [Lib.parseUint10, e, if_pos (by omega), if_neg (by omega), if_neg (by omega), Lib.parseUint10]
        congr 1; omega
      · intro c hc
        rw [List.mem_singleton] at hc
        subst hc
        omega
    · rw [dif_neg h]
      cases n with
      | zero => omega
      | succ n =>
        obtain ⟨h1, h2, h3⟩ := dec_facts n (u / 10) (by omega) (by omega)
        have e : (UInt8.ofNat (48 + u % 10)).toNat = 48 + u % 10 := by rw [UInt8.toNat_ofNat']; omega
        refine ⟨?_, ?_, by simp⟩
        · rw [parseU_app _ _ _ _ h1, Lib.parseUint10, e, if_pos (by omega), if_neg (by omega), if_neg (by omega), Lib.parseUint10]
          congr 1; omega
        · intro c hc
          rcases List.mem_append.1 hc with hc | hc
          · exact h2 c hc
          · rw [List.mem_singleton] at hc
            subst hc
            omega
theorem atoi_itoa {v : Int} (h : -most18 ≤ v ∧ v ≤ most18) : Lib.atoiAll (Lib.itoa v) = .ok v := by
  unfold most18 at h
  unfold Lib.itoa
  split
  · obtain ⟨h1, h2, h3⟩ := dec_facts v.natAbs v.natAbs (by omega) (by omega)
    rw [Lib.atoiAll_minus, Lib.parseMag, if_neg h3, h1, Lib.signed, if_neg (by omega)]
    congr 1; omega
  · obtain ⟨h1, h2, h3⟩ := dec_facts v.toNat v.toNat (by omega) (by omega)
    cases hd : Lib.decDigits v.toNat with
    | nil => exact absurd hd h3
    | cons c r =>
      have hc := h2 c (by rw [hd]; exact List.mem_cons_self ..)
      rw [Lib.atoiAll_plain c r (by omega) (by omega), ← hd, Lib.parseMag, if_neg h3, h1, Lib.signless, if_neg (by omega)]
      congr 1; omega
theorem numV_itoa {v : Int} (h : -most18 ≤ v ∧ v ≤ most18) : numV (itoaS v) = some v := by
  have hl := itoaL_len h
  have hz : (itoaS v).size ≤ 21 := by rw [← bs_length, bs_itoaS]; exact hl
  have e : gsexp_number 0 (itoaS v) = some (v, true) := by
    unfold gsexp_number
    have ha : atoiT (itoaS v) = some (v, false) := by
      unfold atoiT
      rw [if_pos (by omega)]
      have : (itoaS v).data.toList = Lib.itoa v := by simp [itoaS]
      rw [this, atoi_itoa h]
    rw [ha, Option.bind_some]
    simp only []
    have h' := h
    unfold most18 at h'
    rw [decide_eq_true (by omega : v ≥ -999999999999999999), decide_eq_true (by omega : v ≤ 999999999999999999), itoaT_ok3 h]
    simp
  unfold numV
  rw [e]

/-! digits -/
def valF (a : Int) (l : List Int) : Int := l.foldl (fun a c => a * 10 + (c - 48)) a
theorem valF_snoc (a : Int) (l : List Int) (c : Int) : valF a (l ++ [c]) = valF a l * 10 + (c - 48) := by simp [valF]
def AllD (l : List Int) : Prop := ∀ c ∈ l, 48 ≤ c ∧ c ≤ 57
def dD (u : Nat) : List Int := (Lib.decDigits u).map (fun b => (b.toNat : Int))
theorem dD_small {u : Nat} (h : u < 10) : dD u = [48 + (u : Int)] := by
  unfold dD
  rw [Lib.decDigits, dif_pos h]
  have e : (UInt8.ofNat (48 + u)).toNat = 48 + u := by rw [UInt8.toNat_ofNat']; omega
  rw [List.map_cons, List.map_nil, e]; rfl
theorem dD_big {u : Nat} (h : ¬ u < 10) : dD u = dD (u / 10) ++ [48 + ((u % 10 : Nat) : Int)] := by
  unfold dD
  rw [Lib.decDigits, dif_neg h]
  have e : (UInt8.ofNat (48 + u % 10)).toNat = 48 + u % 10 := by rw [UInt8.toNat_ofNat']; omega
  rw [List.map_append, List.map_cons, List.map_nil, e]; rfl
theorem dD_facts : ∀ (n u : Nat), u ≤ n → AllD (dD u) ∧ dD u ≠ [] ∧ valF 0 (dD u) = (u : Int) ∧ (10 ≤ u → (dD u).head? ≠ some 48) ∧ (1 ≤ u → (dD u).head? ≠ some 48) ∧ ∀ k, u < 10 ^ (k + 1) → (dD u).length ≤ k + 1
  | n, u, hn => by
    by_cases h : u < 10
    · rw [dD_small h]
      refine ⟨fun c hc => ?_, by simp, by simp [valF]; omega, fun h => by omega, fun h1 => by simp; omega, fun k _ => by simp⟩
      rw [List.mem_singleton] at hc; subst hc; omega
    · cases n with
      | zero => omega
      | succ n =>
        obtain ⟨h1, h2, h3, h4, h5, h6⟩ := dD_facts n (u / 10) (by omega)
        rw [dD_big h]
        have hh : (dD (u / 10) ++ [48 + ((u % 10 : Nat) : Int)]).head? = (dD (u / 10)).head? := by
          cases hd : dD (u / 10) with
          | nil => exact absurd hd h2
          | cons a b => rfl
        refine ⟨fun c hc => ?_, by simp, ?_, fun _ => by rw [hh]; exact h5 (by omega), fun _ => by rw [hh]; exact h5 (by omega), fun k hk => ?_⟩
        · rcases List.mem_append.1 hc with hc | hc
          · exact h1 c hc
          · rw [List.mem_singleton] at hc; subst hc; omega
        · rw [valF_snoc, h3]; omega
        · cases k with
          | zero => simp at hk; omega
          | succ k =>
            have := h6 k (by rw [Nat.pow_succ] at hk; omega)
            rw [List.length_append]; simp only [List.length_cons, List.length_nil]; omega
theorem canon_dD : ∀ (n : Nat) (d : List Int), d.length = n → AllD d → d ≠ [] → (d.head? ≠ some 48 ∨ d.length = 1) → 0 ≤ valF 0 d ∧ dD (valF 0 d).toNat = d ∧ (d.head? ≠ some 48 → 1 ≤ valF 0 d)
  | n, d, hn, ha, hne, hc => by
    rcases List.eq_nil_or_concat d with rfl | ⟨e, c, rfl⟩
    · exact absurd rfl hne
    · rw [List.concat_eq_append] at *
      have hcd := ha c (by simp)
      rw [valF_snoc]
      cases e with
      | nil =>
        have : valF 0 [] = 0 := rfl
        rw [this]
        refine ⟨by omega, ?_, fun h => ?_⟩
        · rw [dD_small (by omega)]
          simp only [List.nil_append, List.cons.injEq, and_true]; omega
        · have : c ≠ 48 := by rintro rfl; exact h rfl
          omega
      | cons a r =>
        have hh : (a :: r).head? ≠ some 48 := by
          rcases hc with h | h
          · exact h
          · simp at h
        obtain ⟨g1, g2, g3⟩ := canon_dD (n - 1) (a :: r) (by simp at hn ⊢; omega) (fun x hx => ha x (List.mem_append_left _ hx)) (by simp) (.inl hh)
        have g3 := g3 hh
        refine ⟨by omega, ?_, fun _ => by omega⟩
        have e1 : (valF 0 (a :: r) * 10 + (c - 48)).toNat / 10 = (valF 0 (a :: r)).toNat := by omega
        have e2 : (((valF 0 (a :: r) * 10 + (c - 48)).toNat % 10 : Nat) : Int) = c - 48 := by omega
        rw [dD_big (by omega), e1, e2, g2]
        congr 1
        simp only [List.cons.injEq, and_true]; omega
termination_by n d _hn => n
decreasing_by simp at hn; omega
theorem valF_lt : ∀ (d : List Int), AllD d → valF 0 d < (10 : Int) ^ d.length := by
  intro d
  generalize hn : d.length = n
  induction n generalizing d with
  | zero => intro _; have := List.eq_nil_of_length_eq_zero hn; subst this; simp [valF]
  | succ n ih =>
    intro ha
    rcases List.eq_nil_or_concat d with rfl | ⟨e, c, rfl⟩
    · simp at hn
    · rw [List.concat_eq_append] at *
      have hcd := ha c (by simp)
      have := ih e (by simp at hn; omega) (fun x hx => ha x (List.mem_append_left _ hx))
      rw [valF_snoc, Int.pow_succ]; omega
instance (l : List Int) : Decidable (AllD l) := by unfold AllD; infer_instance
def refNumD (d : List Int) (g : Bool) : Option Int :=
  if d.length < 1 ∨ d.length > 18 ∨ (d.head? = some 48 ∧ (g = true ∨ d.length > 1)) then none
  else if AllD d then some (if g = true then -valF 0 d else valF 0 d) else none
/-- the document's number of a run -/
def refNum : List Int → Option Int
  | [] => refNumD [] false
  | c :: r => if c = 45 then refNumD r true else refNumD (c :: r) false
theorem refNumD_itoa {d : List Int} {g : Bool} {v : Int} (h : refNumD d g = some v) : itoaL v = (if g = true then 45 :: d else d) ∧ -most18 ≤ v ∧ v ≤ most18 := by
  unfold refNumD at h
  unfold most18
  by_cases hc : d.length < 1 ∨ d.length > 18 ∨ (d.head? = some 48 ∧ (g = true ∨ d.length > 1))
  · rw [if_pos hc] at h; cases h
  rw [if_neg hc] at h
  by_cases hd : AllD d
  rotate_left
  · rw [if_neg hd] at h; cases h
  rw [if_pos hd] at h
  have hne : d ≠ [] := by rintro rfl; exact hc (.inl (by simp))
  have hl0 : d.length ≠ 0 := by simpa using hne
  have hlt := valF_lt d hd
  have hp : (10 : Int) ^ d.length ≤ 10 ^ 18 := by
    have : (10 : Nat) ^ d.length ≤ 10 ^ 18 := Nat.pow_le_pow_right (by omega) (by omega)
    exact_mod_cast this
  have e18 : (10 : Int) ^ 18 = 1000000000000000000 := rfl
  cases g with
  | true =>
    have hh : d.head? ≠ some 48 := fun e => hc (.inr (.inr ⟨e, .inl rfl⟩))
    obtain ⟨g1, g2, g3⟩ := canon_dD d.length d rfl hd hne (.inl hh)
    have g3 := g3 hh
    rw [if_pos rfl] at h
    cases h
    refine ⟨?_, by omega, by omega⟩
    unfold itoaL Lib.itoa
    rw [if_pos (by omega), List.map_cons, if_pos rfl]
    have : (-valF 0 d).natAbs = (valF 0 d).toNat := by omega
    rw [this]
    show _ :: dD _ = _
    rw [g2]; rfl
  | false =>
    obtain ⟨g1, g2, _⟩ := canon_dD d.length d rfl hd hne (by
      by_cases h1 : d.length = 1
      · exact .inr h1
      · exact .inl fun e => hc (.inr (.inr ⟨e, .inr (by omega)⟩)))
    rw [if_neg (by simp)] at h
    cases h
    refine ⟨?_, by omega, by omega⟩
    unfold itoaL Lib.itoa
    rw [if_neg (by omega), if_neg (by simp)]
    exact g2
theorem refNum_itoa {l : List Int} {v : Int} (h : refNum l = some v) : l = itoaL v ∧ -most18 ≤ v ∧ v ≤ most18 := by
  cases l with
  | nil => cases h
  | cons c r =>
    have h : (if c = 45 then refNumD r true else refNumD (c :: r) false) = some v := h
    by_cases hc : c = 45
    · rw [if_pos hc] at h
      obtain ⟨h1, h2⟩ := refNumD_itoa h
      rw [h1, if_pos rfl, hc]; exact ⟨rfl, h2⟩
    · rw [if_neg hc] at h
      obtain ⟨h1, h2⟩ := refNumD_itoa h
      rw [h1, if_neg (by simp)]; exact ⟨rfl, h2⟩
theorem itoa_refNum {v : Int} (h : -most18 ≤ v ∧ v ≤ most18) : refNum (itoaL v) = some v := by
  unfold most18 at h
  unfold itoaL Lib.itoa
  split
  · rename_i hv
    obtain ⟨h1, h2, h3, _, h5, h6⟩ := dD_facts v.natAbs v.natAbs (Nat.le_refl _)
    have hl := h6 17 (by omega)
    have hl0 : (dD v.natAbs).length ≠ 0 := by simpa using h2
    rw [List.map_cons]
    show refNumD (dD v.natAbs) true = _
    unfold refNumD
    rw [if_neg (by
      rintro (h | h | ⟨h, _⟩)
      · omega
      · omega
      · exact h5 (by omega) h), if_pos h1, if_pos rfl, h3]
    congr 1; omega
  · rename_i hv
    obtain ⟨h1, h2, h3, h4, h5, h6⟩ := dD_facts v.toNat v.toNat (Nat.le_refl _)
    have hl := h6 17 (by omega)
    have hl0 : (dD v.toNat).length ≠ 0 := by simpa using h2
    show refNum (dD v.toNat) = _
    have e : refNum (dD v.toNat) = refNumD (dD v.toNat) false := by
      cases hd : dD v.toNat with
      | nil => rfl
      | cons a b =>
        have := h1 a (by rw [hd]; simp)
        show (if a = 45 then refNumD b true else refNumD (a :: b) false) = _
        rw [if_neg (by omega)]
    rw [e]
    unfold refNumD
    rw [if_neg (by
      rintro (h | h | ⟨h, hh | hh⟩)
      · omega
      · omega
      · cases hh
      · by_cases h10 : v.toNat < 10
        · rw [dD_small h10] at hh; simp at hh
        · exact h4 (by omega) h), if_pos h1, if_neg (by simp), h3]
    congr 1; omega
theorem num_same (s : ByteArray) : refNum (bs s) = numV s := by
  cases hr : refNum (bs s) with
  | some v =>
    obtain ⟨h1, h2⟩ := refNum_itoa hr
    have : s = itoaS v := bs_inj (by rw [h1, bs_itoaS])
    rw [this, numV_itoa h2]
  | none =>
    cases hn : numV s with
    | none => rfl
    | some v =>
      obtain ⟨h1, h2, h3⟩ := numV_bounds hn
      rw [itoaT_ok3 ⟨h1, h2⟩] at h3
      cases h3
      rw [bs_itoaS, itoa_refNum ⟨h1, h2⟩] at hr
      cases hr
end Go.DM
namespace Go.DM
open Go
set_option maxRecDepth 100000
abbrev Tok := TK.Tdovetailref03_Token
abbrev nl (c : Int) : Bool := !(c == 10)
/-- a text in quotes: where it is wrong, or its letters, the place behind it, the rest -/
def txtP (st : Nat) : Nat → List Int → List Int → Nat ⊕ (List Int × Nat × List Int)
  | _, _, [] => .inl st
  | p, a, c :: r => if c = 34 then .inr (a, p + 1, r) else if c = 10 then .inl st else if c < 32 ∨ c > 126 then .inl p else txtP st (p + 1) (a ++ [c]) r
theorem txtP_len {st : Nat} : ∀ {l : List Int} {p : Nat} {a w t : List Int} {q : Nat}, txtP st p a l = .inr (w, q, t) → t.length < l.length ∧ q + t.length = p + l.length ∧ t = l.drop (q - p)
  | [], p, a, w, t, q, h => by simp [txtP] at h
  | c :: r, p, a, w, t, q, h => by
    unfold txtP at h
    by_cases h1 : c = 34
    · rw [if_pos h1] at h
      simp only [Sum.inr.injEq, Prod.mk.injEq] at h
      obtain ⟨_, rfl, rfl⟩ := h
      refine ⟨by simp, by simp; omega, by simp⟩
    · rw [if_neg h1] at h
      by_cases h2 : c = 10
      · rw [if_pos h2] at h; cases h
      · rw [if_neg h2] at h
        by_cases h3 : c < 32 ∨ c > 126
        · rw [if_pos h3] at h; cases h
        · rw [if_neg h3] at h
          obtain ⟨g1, g2, g3⟩ := txtP_len h
          refine ⟨by simp; omega, by simp; omega, ?_⟩
          have : q - p = q - (p + 1) + 1 := by omega
          rw [this, List.drop_succ_cons]; exact g3
theorem dw_len (f : Int → Bool) (l : List Int) : (l.dropWhile f).length ≤ l.length := (List.dropWhile_suffix f).length_le
/-- the tokens of a text that begins at a place -/
def toksP (p : Nat) (l : List Int) : List Tok :=
  match l with
  | [] => []
  | c :: r =>
    if c = 32 ∨ c = 10 then toksP (p + 1) r
    else if c = 59 then toksP (p + 1 + (r.takeWhile nl).length) (r.dropWhile nl)
    else if c = 40 then ⟨p, 4, 0, 0, nilB3⟩ :: toksP (p + 1) r
    else if c = 41 then ⟨p, 5, 0, 0, nilB3⟩ :: toksP (p + 1) r
    else if c = 34 then match _h : txtP p (p + 1) [] r with
      | .inl w => [⟨p, 6, 0, w, nilB3⟩]
      | .inr x => ⟨p, 3, 0, 0, ofB x.1⟩ :: toksP x.2.1 x.2.2
    else if inR c = true then
      if numB (c :: r.takeWhile inR) = true then match refNum (c :: r.takeWhile inR) with
        | some v => ⟨p, 2, v, 0, nilB3⟩ :: toksP (p + 1 + (r.takeWhile inR).length) (r.dropWhile inR)
        | none => [⟨p, 6, 0, p, nilB3⟩]
      else ⟨p, 1, 0, 0, ofB (c :: r.takeWhile inR)⟩ :: toksP (p + 1 + (r.takeWhile inR).length) (r.dropWhile inR)
    else [⟨p, 6, 0, p, nilB3⟩]
termination_by l.length
decreasing_by
  all_goals simp only [List.length_cons]
  all_goals first
    | omega
    | (have := dw_len nl r; omega)
    | (have := dw_len inR r; omega)
    | (have := (txtP_len (w := x.1) (q := x.2.1) (t := x.2.2) _h).1; omega)
/-! the typed functions -/
theorem In_eq (n : Nat) {c : Int} (h0 : 0 ≤ c) (h1 : c < 256) : TK.gdovetailref03_In n c = some (inR c) := by
  show TK.gdovetailref03_In 0 c = some (inR c)
  exact byte_fin3 (P := fun c => TK.gdovetailref03_In 0 c = some (inR c)) (by decide +kernel) h0 h1
theorem L2_eq (N : Nat) (s : ByteArray) (hs : s.size ≤ 6000000) : ∀ (k y m : Nat), s.size - y ≤ k → k < m → y ≤ s.size → TK.gdovetailref03_Tokens_L2 N s m (y : Int) = some (((y + (((bs s).drop y).takeWhile nl).length : Nat) : Int)) := by
  intro k
  induction k with
  | zero =>
    intro y m hk hm hy
    obtain ⟨m, rfl⟩ : ∃ m', m = m' + 1 := ⟨m - 1, by omega⟩
    have hlen := bs_length s
    rw [TK.gdovetailref03_Tokens_L2]
    have h1 : decide (((y : Nat) : Int) < ((s.size : Nat) : Int)) = false := by simp; omega
    rw [h1, List.drop_eq_nil_of_le (by omega)]
    rfl
  | succ k ih =>
    intro y m hk hm hy
    obtain ⟨m, rfl⟩ : ∃ m', m = m' + 1 := ⟨m - 1, by omega⟩
    have hlen := bs_length s
    rw [TK.gdovetailref03_Tokens_L2]
    rcases hl : (bs s).drop y with _ | ⟨c, r⟩
    · have := drop_nil_le hl
      have h1 : decide (((y : Nat) : Int) < ((s.size : Nat) : Int)) = false := by simp; omega
      rw [h1]
      rfl
    obtain ⟨hc, hr, hlt⟩ := drop_cons_at hl
    have h1 : decide (((y : Nat) : Int) < ((s.size : Nat) : Int)) = true := by simp; omega
    rw [h1, atS_bs, hc]
    simp only [Option.bind_some, cond_true]
    by_cases hi : c = 10
    · subst hi; rw [List.takeWhile_cons]; rfl
    · have h2 : (c != 10) = true := by simpa using hi
      have h3 : nl c = true := by simpa [nl] using hi
      rw [h2, cond_true, List.takeWhile_cons, h3, w64_succ (by omega), ih (y + 1) m (by omega) (by omega) (by omega), hr]
      simp only [if_true, List.length_cons]
      congr 2; omega
theorem L3_eq (N : Nat) (s : ByteArray) (hs : s.size ≤ 6000000) : ∀ (k y m : Nat), s.size - y ≤ k → k < m → y ≤ s.size → TK.gdovetailref03_Tokens_L3 N s m (y : Int) = some (((y + (((bs s).drop y).takeWhile inR).length : Nat) : Int)) := by
  intro k
  induction k with
  | zero =>
    intro y m hk hm hy
    obtain ⟨m, rfl⟩ : ∃ m', m = m' + 1 := ⟨m - 1, by omega⟩
    have hlen := bs_length s
    rw [TK.gdovetailref03_Tokens_L3]
    have h1 : decide (((y : Nat) : Int) < ((s.size : Nat) : Int)) = false := by simp; omega
    rw [h1, List.drop_eq_nil_of_le (by omega)]
    rfl
  | succ k ih =>
    intro y m hk hm hy
    obtain ⟨m, rfl⟩ : ∃ m', m = m' + 1 := ⟨m - 1, by omega⟩
    have hlen := bs_length s
    rw [TK.gdovetailref03_Tokens_L3]
    rcases hl : (bs s).drop y with _ | ⟨c, r⟩
    · have := drop_nil_le hl
      have h1 : decide (((y : Nat) : Int) < ((s.size : Nat) : Int)) = false := by simp; omega
      rw [h1]
      rfl
    obtain ⟨hc, hr, hlt⟩ := drop_cons_at hl
    have hb : 0 ≤ c ∧ c < 256 := bs_byte (List.mem_of_getElem? hc)
    have h1 : decide (((y : Nat) : Int) < ((s.size : Nat) : Int)) = true := by simp; omega
    rw [h1, atS_bs, hc]
    simp only [Option.bind_some, cond_true]
    rw [In_eq N hb.1 hb.2]
    simp only [Option.bind_some]
    cases hi : inR c
    · rw [List.takeWhile_cons, hi]; rfl
    · rw [List.takeWhile_cons, hi, cond_true, w64_succ (by omega), ih (y + 1) m (by omega) (by omega) (by omega), hr]
      simp only [if_true, List.length_cons]
      congr 2; omega
theorem text_loop (N : Nat) (s : ByteArray) (hs : s.size ≤ 6000000) (p : Nat) : ∀ (k y m : Nat), s.size - y ≤ k → k < m → p + 1 ≤ y → y ≤ s.size →
    (∃ w, txtP p y (bs (s.extract (p + 1) y)) ((bs s).drop y) = .inl w ∧ (TK.gdovetailref03_text_L1 N s (p : Int) m (y : Int) = some (.out ()) ∧ w = p ∨ TK.gdovetailref03_text_L1 N s (p : Int) m (y : Int) = some (.ret (⟨p, 6, 0, w, nilB3⟩, 0)))) ∨
    ∃ (w : List Int) (q : Nat) (t : List Int), txtP p y (bs (s.extract (p + 1) y)) ((bs s).drop y) = .inr (w, q, t) ∧ TK.gdovetailref03_text_L1 N s (p : Int) m (y : Int) = some (.ret (⟨p, 3, 0, 0, ofB w⟩, (q : Int))) := by
  intro k
  induction k with
  | zero =>
    intro y m hk hm hp hy
    obtain ⟨m, rfl⟩ : ∃ m', m = m' + 1 := ⟨m - 1, by omega⟩
    have hlen := bs_length s
    rw [TK.gdovetailref03_text_L1]
    have h1 : decide (((y : Nat) : Int) < ((s.size : Nat) : Int)) = false := by simp; omega
    rw [h1]
    left
    rw [List.drop_eq_nil_of_le (by omega)]
    exact ⟨p, rfl, .inl ⟨rfl, rfl⟩⟩
  | succ k ih =>
    intro y m hk hm hp hy
    obtain ⟨m, rfl⟩ : ∃ m', m = m' + 1 := ⟨m - 1, by omega⟩
    have hlen := bs_length s
    rw [TK.gdovetailref03_text_L1]
    rcases hl : (bs s).drop y with _ | ⟨c, r⟩
    · have := drop_nil_le hl
      have h1 : decide (((y : Nat) : Int) < ((s.size : Nat) : Int)) = false := by simp; omega
      rw [h1]
      left
      exact ⟨p, rfl, .inl ⟨rfl, rfl⟩⟩
    obtain ⟨hc, hr, hlt⟩ := drop_cons_at hl
    have h1 : decide (((y : Nat) : Int) < ((s.size : Nat) : Int)) = true := by simp; omega
    rw [h1, atS_bs, hc]
    simp only [Option.bind_some, cond_true]
    unfold txtP
    by_cases h10 : c = 10
    · subst h10
      left
      exact ⟨p, rfl, .inl ⟨rfl, rfl⟩⟩
    · have h2 : (c != 10) = true := by simpa using h10
      rw [h2, cond_true]
      by_cases h34 : c = 34
      · subst h34
        right
        simp only [beq_self_eq_true, cond_true, if_true]
        rw [w64_succ (n := p) (by omega), subS_nat s (p + 1) y hp (by omega), w64_succ (n := y) (by omega)]
        exact ⟨_, _, _, rfl, by rw [ofB_bs]; rfl⟩
      · have h3 : (c == 34) = false := by simpa using h34
        rw [h3]
        simp only [cond_false, if_neg h34, if_neg h10]
        by_cases hb : c < 32 ∨ c > 126
        · left
          rw [if_pos hb]
          refine ⟨y, rfl, .inr ?_⟩
          rcases hb with hb | hb
          · rw [decide_eq_true hb]; rfl
          · by_cases hb' : c < 32
            · rw [decide_eq_true hb']; rfl
            · rw [decide_eq_false hb', decide_eq_true hb]; rfl
        · rw [if_neg hb]
          have e1 : decide (c < 32) = false := by simp; omega
          have e2 : decide (c > 126) = false := by simp; omega
          rw [e1, e2]
          simp only [cond_false, Option.bind_some]
          rw [w64_succ (n := y) (by omega)]
          have := ih (y + 1) m (by omega) (by omega) (by omega) (by omega)
          rw [ext_snoc hp hc, hr] at this
          exact this
theorem text_eq (n : Nat) (s : ByteArray) (hs : s.size ≤ 6000000) (hn : s.size < n) (p : Nat) (r : List Int) (hp : (bs s).drop p = 34 :: r) :
    (∃ w, txtP p (p + 1) [] r = .inl w ∧ TK.gdovetailref03_text n s (p : Int) = some (⟨p, 6, 0, w, nilB3⟩, 0)) ∨ ∃ (w : List Int) (q : Nat) (t : List Int), txtP p (p + 1) [] r = .inr (w, q, t) ∧ TK.gdovetailref03_text n s (p : Int) = some (⟨p, 3, 0, 0, ofB w⟩, (q : Int)) := by
  obtain ⟨hc, hr, hlt⟩ := drop_cons_at hp
  rw [bs_length] at hlt
  have e0 : bs (s.extract (p + 1) (p + 1)) = [] := by rw [bs_extract, Nat.sub_self]; rfl
  have := text_loop n s hs p s.size (p + 1) n (by omega) hn (by omega) (by omega)
  rw [e0, hr] at this
  unfold TK.gdovetailref03_text
  rw [w64_succ (n := p) (by omega)]
  rcases this with ⟨w, h1, ⟨h2, rfl⟩ | h2⟩ | ⟨w, q, t, h1, h2⟩
  · left; rw [h2]; exact ⟨_, h1, rfl⟩
  · left; rw [h2]; exact ⟨w, h1, rfl⟩
  · right; rw [h2]; exact ⟨w, q, t, h1, rfl⟩
end Go.DM
namespace Go.DM
open Go
set_option maxRecDepth 100000
theorem allD_cons {c : Int} {r : List Int} : AllD (c :: r) ↔ (48 ≤ c ∧ c ≤ 57) ∧ AllD r := by simp [AllD]
theorem valF_cons (a c : Int) (r : List Int) : valF a (c :: r) = valF (a * 10 + (c - 48)) r := rfl
theorem valF_nonneg : ∀ (l : List Int), AllD l → 0 ≤ valF 0 l := by
  have key : ∀ (l : List Int) (a : Int), 0 ≤ a → AllD l → 0 ≤ valF a l := by
    intro l
    induction l with
    | nil => intro a h _; exact h
    | cons c r ih =>
      intro a h hd
      obtain ⟨h1, h2⟩ := allD_cons.1 hd
      rw [valF_cons]
      exact ih _ (by omega) h2
  exact fun l => key l 0 (by omega)
theorem numL (N : Nat) (x : ByteArray) (hx : x.size ≤ 18) : ∀ (k y m : Nat) (acc : Int), x.size - y ≤ k → k < m → y ≤ x.size → 0 ≤ acc → acc < (10 : Int) ^ y →
    TK.gdovetailref03_Number_L1 N x m acc (y : Int) = some (if AllD ((bs x).drop y) then .out (valF acc ((bs x).drop y)) else .ret (0, false)) := by
  intro k
  induction k with
  | zero =>
    intro y m acc hk hm hy h0 ha
    obtain ⟨m, rfl⟩ : ∃ m', m = m' + 1 := ⟨m - 1, by omega⟩
    have hlen := bs_length x
    rw [TK.gdovetailref03_Number_L1]
    have h1 : decide (((y : Nat) : Int) < ((x.size : Nat) : Int)) = false := by simp; omega
    rw [h1, List.drop_eq_nil_of_le (by omega), if_pos (by simp [AllD])]
    rfl
  | succ k ih =>
    intro y m acc hk hm hy h0 ha
    obtain ⟨m, rfl⟩ : ∃ m', m = m' + 1 := ⟨m - 1, by omega⟩
    have hlen := bs_length x
    rw [TK.gdovetailref03_Number_L1]
    rcases hl : (bs x).drop y with _ | ⟨c, r⟩
    · have := drop_nil_le hl
      have h1 : decide (((y : Nat) : Int) < ((x.size : Nat) : Int)) = false := by simp; omega
      rw [h1, if_pos (by simp [AllD])]
      rfl
    obtain ⟨hc, hr, hlt⟩ := drop_cons_at hl
    have h1 : decide (((y : Nat) : Int) < ((x.size : Nat) : Int)) = true := by simp; omega
    rw [h1, atS_bs, hc]
    simp only [Option.bind_some, cond_true]
    by_cases hd : 48 ≤ c ∧ c ≤ 57
    · have e1 : decide (c < 48) = false := by simp; omega
      have e2 : decide (c > 57) = false := by simp; omega
      rw [e1, e2]
      simp only [cond_false, Option.bind_some]
      have hp : (10 : Int) ^ (y + 1) ≤ 10 ^ 18 := by
        have : (10 : Nat) ^ (y + 1) ≤ 10 ^ 18 := Nat.pow_le_pow_right (by omega) (by omega)
        exact_mod_cast this
      have e18 : (10 : Int) ^ 18 = 1000000000000000000 := rfl
      have hps : (10 : Int) ^ (y + 1) = 10 ^ y * 10 := Int.pow_succ ..
      have w1 : IntKind.wrap .u8 (c - 48) = c - 48 := wrap_u8 (by omega) (by omega)
      have w2 : IntKind.wrap .i64 (acc * 10) = acc * 10 := w64 (by omega) (by omega)
      have w3 : IntKind.wrap .i64 (c - 48) = c - 48 := w64 (by omega) (by omega)
      have w4 : IntKind.wrap .i64 (acc * 10 + (c - 48)) = acc * 10 + (c - 48) := w64 (by omega) (by omega)
      rw [w1, w2, w3, w4, w64_succ (by omega), ih (y + 1) m (acc * 10 + (c - 48)) (by omega) (by omega) (by omega) (by omega) (by omega), hr]
      by_cases hr' : AllD r
      · rw [if_pos hr', if_pos (allD_cons.2 ⟨hd, hr'⟩), valF_cons]
      · rw [if_neg hr', if_neg (fun h => hr' (allD_cons.1 h).2)]
    · rw [if_neg (fun h => hd (allD_cons.1 h).1)]
      by_cases hb' : c < 48
      · rw [decide_eq_true hb']; rfl
      · rw [decide_eq_false hb', decide_eq_true (by omega : c > 57)]; rfl
theorem number_ref (n : Nat) (s : ByteArray) (hn : 30 ≤ n) (hs : s.size ≤ 6000000) : ∃ v b, TK.gdovetailref03_Number n s = some (v, b) ∧ refNum (bs s) = if b = true then some v else none := by
  have hlen := bs_length s
  unfold TK.gdovetailref03_Number
  rcases hl : bs s with _ | ⟨c, r⟩
  · have h0 : s.size = 0 := by rw [← hlen, hl]; rfl
    have h1 : decide (((s.size : Nat) : Int) > 0) = false := decide_eq_false (by omega)
    have h2 : decide (((s.size : Nat) : Int) < 1) = true := decide_eq_true (by omega)
    rw [h1]
    simp only [cond_false, Option.bind_some, h2, Bool.true_or, cond_true]
    exact ⟨0, false, rfl, rfl⟩
  · have hsz : s.size = r.length + 1 := by rw [← hlen, hl]; rfl
    have h1 : decide (((s.size : Nat) : Int) > 0) = true := by simp; omega
    have hc : atS s 0 = some c := by have := atS_bs s 0; rw [hl] at this; exact this
    rw [h1, hc]
    simp only [cond_true, Option.bind_some]
    have key : ∀ (x : ByteArray) (d : List Int) (g : Bool), bs x = d → (g = true → d.length + 1 = s.size) → (g = false → d.length = s.size) →
        ∃ v b, (((cond ((decide (((x.size : Nat) : Int) < 1)) || (decide (((x.size : Nat) : Int) > 18))) (some true) (((atS x 0).bind fun b29 => (cond (b29 == 48) (some (decide (((s.size : Nat) : Int) > 1))) (some false))))) : Option (Bool)).bind fun x27 => (cond x27 (some (0, false)) (((TK.gdovetailref03_Number_L1 n x n 0 0).bind fun v => match v with | .out x68 => (((cond (decide (((x.size : Nat) : Int) < ((s.size : Nat) : Int))) (some (IntKind.wrap .i64 (0 - x68))) (some x68)) : Option (Int)).bind fun x91 => some (x91, true)) | .ret r99 => some r99)))) = some (v, b) ∧ refNumD d g = if b = true then some v else none := by
      intro x d g hx hg1 hg2
      have hxl := bs_length x
      rw [hx] at hxl
      unfold refNumD
      by_cases hsz : d.length < 1 ∨ d.length > 18
      · have e : ((decide (((x.size : Nat) : Int) < 1)) || (decide (((x.size : Nat) : Int) > 18))) = true := by simp; omega
        rw [e, if_pos (by rcases hsz with h | h; exact .inl h; exact .inr (.inl h))]
        exact ⟨0, false, rfl, rfl⟩
      · have e : ((decide (((x.size : Nat) : Int) < 1)) || (decide (((x.size : Nat) : Int) > 18))) = false := by simp; omega
        rw [e]
        obtain ⟨a, t, rfl⟩ : ∃ a t, d = a :: t := by cases d with
          | nil => simp at hsz
          | cons a t => exact ⟨a, t, rfl⟩
        have ha : atS x 0 = some a := by have := atS_bs x 0; rw [hx] at this; exact this
        rw [ha]
        simp only [cond_false, Option.bind_some]
        have hlp := numL n x (by omega) x.size 0 n 0 (by omega) (by omega) (by omega) (by omega) (by simp)
        rw [List.drop_zero, hx] at hlp
        have hlp' : TK.gdovetailref03_Number_L1 n x n 0 0 = _ := hlp
        by_cases h48 : a = 48 ∧ (g = true ∨ (a :: t).length > 1)
        · have e2 : (a == 48) = true := by simpa using h48.1
          have e3 : decide (((s.size : Nat) : Int) > 1) = true := by
            simp only [decide_eq_true_eq, List.length_cons] at *
            rcases h48.2 with h | h
            · have := hg1 h; omega
            · cases g with
              | true => have := hg1 rfl; omega
              | false => have := hg2 rfl; omega
          rw [e2, e3, if_pos (.inr (.inr ⟨by rw [h48.1]; rfl, h48.2⟩))]
          exact ⟨0, false, rfl, rfl⟩
        · have e4 : (cond (a == 48) (some (decide (((s.size : Nat) : Int) > 1))) (some false) : Option Bool) = some false := by
            by_cases e2 : a = 48
            · have : ¬ (g = true ∨ (a :: t).length > 1) := fun h => h48 ⟨e2, h⟩
              have hgf : g = false := by cases g with
                | true => exact absurd (.inl rfl) this
                | false => rfl
              have := hg2 hgf
              have e5 : decide (((s.size : Nat) : Int) > 1) = false := by simp only [decide_eq_false_iff_not]; omega
              rw [e5]; cases (a == 48) <;> rfl
            · have : (a == 48) = false := by simpa using e2
              rw [this]; rfl
          rw [e4, if_neg (by
            rintro (h | h | ⟨h, h'⟩)
            · exact hsz (.inl h)
            · exact hsz (.inr h)
            · exact h48 ⟨by simpa using h, h'⟩)]
          simp only [Option.bind_some, cond_false]
          rw [hlp']
          by_cases hd : AllD (a :: t)
          · rw [if_pos hd, if_pos hd]
            simp only [Option.bind_some]
            have hv0 := (valF_lt (a :: t) hd)
            have hp : (10 : Int) ^ (a :: t).length ≤ 10 ^ 18 := by
              have : (10 : Nat) ^ (a :: t).length ≤ 10 ^ 18 := Nat.pow_le_pow_right (by omega) (by omega)
              exact_mod_cast this
            have e18 : (10 : Int) ^ 18 = 1000000000000000000 := rfl
            have hnn : 0 ≤ valF 0 (a :: t) := valF_nonneg _ hd
            cases g with
            | true =>
              have := hg1 rfl
              rw [decide_eq_true (by omega : ((x.size : Nat) : Int) < ((s.size : Nat) : Int)), cond_true, w64 (by omega) (by omega)]
              exact ⟨_, true, rfl, by rw [if_pos rfl, if_pos rfl]; congr 1; omega⟩
            | false =>
              have := hg2 rfl
              rw [decide_eq_false (by omega : ¬ ((x.size : Nat) : Int) < ((s.size : Nat) : Int)), cond_false]
              exact ⟨_, true, rfl, by rw [if_neg (by simp), if_pos rfl]⟩
          · rw [if_neg hd, if_neg hd]
            exact ⟨0, false, rfl, rfl⟩
    by_cases h45 : c = 45
    · have e : (c == 45) = true := by simpa using h45
      have hx : bs (s.extract 1 s.size) = r := by rw [bs_extract, hl, List.drop_succ_cons, List.drop_zero, List.take_of_length_le (by omega)]
      have h11 := subS_nat s 1 s.size (by omega) (Nat.le_refl _)
      rw [e, cond_true]
      rw [show ((1 : Nat) : Int) = 1 from rfl] at h11
      rw [h11]
      simp only [Option.bind_some]
      have := key (s.extract 1 s.size) r true hx (fun _ => by omega) (fun h => by cases h)
      unfold refNum
      dsimp only
      rw [if_pos h45]
      exact this
    · have e : (c == 45) = false := by simpa using h45
      rw [e, cond_false]
      simp only [Option.bind_some]
      have := key s (c :: r) false hl (fun h => by cases h) (fun _ => by simp; omega)
      unfold refNum
      dsimp only
      rw [if_neg h45]
      exact this
end Go.DM
namespace Go.DM
open Go
set_option maxRecDepth 100000
section
variable {p : Nat} {c : Int} {r : List Int}
theorem tk_nil : toksP p [] = [] := by rw [toksP]
theorem tk_blank (h : c = 32 ∨ c = 10) : toksP p (c :: r) = toksP (p + 1) r := by rw [toksP, if_pos h]
theorem tk_rem : toksP p (59 :: r) = toksP (p + 1 + (r.takeWhile nl).length) (r.dropWhile nl) := by rw [toksP, if_neg (by omega), if_pos rfl]
theorem tk_opn : toksP p (40 :: r) = ⟨p, 4, 0, 0, nilB3⟩ :: toksP (p + 1) r := by rw [toksP, if_neg (by omega), if_neg (by omega), if_pos rfl]
theorem tk_cls : toksP p (41 :: r) = ⟨p, 5, 0, 0, nilB3⟩ :: toksP (p + 1) r := by rw [toksP, if_neg (by omega), if_neg (by omega), if_neg (by omega), if_pos rfl]
theorem tk_txtBad {w : Nat} (h : txtP p (p + 1) [] r = .inl w) : toksP p (34 :: r) = [⟨p, 6, 0, w, nilB3⟩] := by
  rw [toksP, if_neg (by omega), if_neg (by omega), if_neg (by omega), if_neg (by omega), if_pos rfl]
  split
  · rename_i h'; rw [h] at h'; cases h'; rfl
  · rename_i h'; rw [h] at h'; cases h'
theorem tk_txt {w t : List Int} {q : Nat} (h : txtP p (p + 1) [] r = .inr (w, q, t)) : toksP p (34 :: r) = ⟨p, 3, 0, 0, ofB w⟩ :: toksP q t := by
  rw [toksP, if_neg (by omega), if_neg (by omega), if_neg (by omega), if_neg (by omega), if_pos rfl]
  split
  · rename_i h'; rw [h] at h'; cases h'
  · rename_i h'; rw [h] at h'; cases h'; rfl
theorem tk_run (h1 : c ≠ 32 ∧ c ≠ 10 ∧ c ≠ 59) (h2 : c ≠ 41 ∧ c ≠ 40 ∧ c ≠ 34) : toksP p (c :: r) =
    (if inR c = true then
      if numB (c :: r.takeWhile inR) = true then match refNum (c :: r.takeWhile inR) with
        | some v => ⟨p, 2, v, 0, nilB3⟩ :: toksP (p + 1 + (r.takeWhile inR).length) (r.dropWhile inR)
        | none => [⟨p, 6, 0, p, nilB3⟩]
      else ⟨p, 1, 0, 0, ofB (c :: r.takeWhile inR)⟩ :: toksP (p + 1 + (r.takeWhile inR).length) (r.dropWhile inR)
    else [⟨p, 6, 0, p, nilB3⟩]) := by
  rw [toksP, if_neg (by omega), if_neg (by omega), if_neg (by omega), if_neg (by omega), if_neg (by omega)]
  all_goals (cases refNum (c :: r.takeWhile inR) <;> rfl)
end
theorem drop_run {l : List Int} {y : Nat} {c : Int} {r : List Int} (h : l.drop y = c :: r) (f : Int → Bool) : l.drop (y + 1 + (r.takeWhile f).length) = r.dropWhile f := by
  obtain ⟨_, hr, _⟩ := drop_cons_at h
  rw [← List.drop_drop, hr, tw_drop]
theorem tw_len (f : Int → Bool) (l : List Int) : (l.takeWhile f).length ≤ l.length := (List.takeWhile_prefix f).length_le
/-- a typed loop's answer: the list -/
def tokR : LR (List Tok) (List Tok) → List Tok
  | .out l => l
  | .ret l => l
theorem tok_loop (N : Nat) (s : ByteArray) (hs : s.size ≤ 262144) (hN : s.size + 30 < N) : ∀ (k y m : Nat) (out : List Tok), s.size - y ≤ k → k < m → y ≤ s.size → out.length ≤ y →
    ∃ r, TK.gdovetailref03_Tokens_L1 N s m out (y : Int) = some r ∧ tokR r = out ++ toksP y ((bs s).drop y) := by
  intro k
  induction k with
  | zero =>
    intro y m out hk hm hy ho
    obtain ⟨m, rfl⟩ : ∃ m', m = m' + 1 := ⟨m - 1, by omega⟩
    have hlen := bs_length s
    rw [TK.gdovetailref03_Tokens_L1]
    have h1 : decide (((y : Nat) : Int) < ((s.size : Nat) : Int)) = false := by simp; omega
    rw [h1, List.drop_eq_nil_of_le (by omega), tk_nil]
    exact ⟨_, rfl, by simp [tokR]⟩
  | succ k ih =>
    intro y m out hk hm hy ho
    obtain ⟨m, rfl⟩ : ∃ m', m = m' + 1 := ⟨m - 1, by omega⟩
    have hlen := bs_length s
    rw [TK.gdovetailref03_Tokens_L1]
    rcases hl : (bs s).drop y with _ | ⟨c, r⟩
    · have := drop_nil_le hl
      have h1 : decide (((y : Nat) : Int) < ((s.size : Nat) : Int)) = false := by simp; omega
      rw [h1, tk_nil]
      exact ⟨_, rfl, by simp [tokR]⟩
    obtain ⟨hc, hr, hlt⟩ := drop_cons_at hl
    have hb : 0 ≤ c ∧ c < 256 := bs_byte (List.mem_of_getElem? hc)
    have h1 : decide (((y : Nat) : Int) < ((s.size : Nat) : Int)) = true := by simp; omega
    have hrl : y + 1 + r.length = s.size := by
      have := congrArg List.length hl
      rw [List.length_drop] at this
      simp at this; omega
    rw [h1, atS_bs, hc]
    simp only [Option.bind_some, cond_true]
    have app : ∀ t : Tok, appL 48 out [t] = some (out ++ [t]) := fun t => appL_ok (by simp; omega) (by omega)
    have next : ∀ (t : Tok) (y' : Nat), y < y' → y' ≤ s.size → ∃ r, TK.gdovetailref03_Tokens_L1 N s m (out ++ [t]) (y' : Int) = some r ∧ tokR r = out ++ t :: toksP y' ((bs s).drop y') := fun t y' g1 g2 => by
      obtain ⟨r, e1, e2⟩ := ih y' m (out ++ [t]) (by omega) (by omega) g2 (by simp; omega)
      exact ⟨r, e1, by rw [e2]; simp⟩
    by_cases hbl : c = 32 ∨ c = 10
    · have e : ((c == 32) || (c == 10)) = true := by simpa using hbl
      rw [e, tk_blank hbl]
      simp only [cond_true, Option.bind_some]
      rw [w64_succ (by omega)]
      have := ih (y + 1) m out (by omega) (by omega) (by omega) (by omega)
      rw [hr] at this
      exact this
    have e : ((c == 32) || (c == 10)) = false := by simpa using hbl
    rw [e]
    simp only [cond_false]
    by_cases h59 : c = 59
    · subst h59
      have htl := tw_len nl r
      have hL2 := L2_eq N s (by omega) s.size y N (by omega) (by omega) hy
      rw [hl, List.takeWhile_cons] at hL2
      rw [tk_rem]
      simp only [beq_self_eq_true, cond_true]
      rw [hL2]
      simp only [Option.bind_some]
      have hz : (if nl 59 = true then 59 :: r.takeWhile nl else []).length = 1 + (r.takeWhile nl).length := by
        have h9 : nl 59 = true := rfl
        rw [if_pos h9, List.length_cons]; omega
      rw [hz, ← Nat.add_assoc]
      have := ih (y + 1 + (r.takeWhile nl).length) m out (by omega) (by omega) (by omega) (by omega)
      rw [drop_run hl] at this
      exact this
    have e59 : (c == 59) = false := by simpa using h59
    rw [e59]
    simp only [cond_false]
    by_cases h40 : c = 40
    · subst h40
      rw [tk_opn]
      simp only [beq_self_eq_true, cond_true, Option.bind_some]
      rw [w64_succ (by omega), app]
      simp only [Option.bind_some]
      have := next ⟨y, 4, 0, 0, nilB3⟩ (y + 1) (by omega) (by omega)
      rw [hr] at this
      exact this
    have e40 : (c == 40) = false := by simpa using h40
    rw [e40]
    simp only [cond_false]
    by_cases h41 : c = 41
    · subst h41
      rw [tk_cls]
      simp only [beq_self_eq_true, cond_true, Option.bind_some]
      rw [w64_succ (by omega), app]
      simp only [Option.bind_some]
      have := next ⟨y, 5, 0, 0, nilB3⟩ (y + 1) (by omega) (by omega)
      rw [hr] at this
      exact this
    have e41 : (c == 41) = false := by simpa using h41
    rw [e41]
    simp only [cond_false]
    by_cases h34 : c = 34
    · subst h34
      simp only [beq_self_eq_true, cond_true]
      rcases text_eq N s (by omega) (by omega) y r hl with ⟨w, g1, g2⟩ | ⟨w, q, t, g1, g2⟩
      · rw [g2, tk_txtBad g1]
        simp only [Option.bind_some]
        rw [app]
        exact ⟨_, rfl, rfl⟩
      · rw [g2, tk_txt g1]
        simp only [Option.bind_some]
        rw [app]
        simp only [Option.bind_some]
        obtain ⟨k1, k2, k3⟩ := txtP_len g1
        have := next ⟨y, 3, 0, 0, ofB w⟩ q (by omega) (by omega)
        have hd : (bs s).drop q = t := by
          rw [k3, ← hr, List.drop_drop]; congr 1; omega
        rw [hd] at this
        exact this
    have e34 : (c == 34) = false := by simpa using h34
    rw [e34]
    simp only [cond_false]
    rw [In_eq N hb.1 hb.2, tk_run (p := y) (c := c) (r := r) ⟨fun e => hbl (.inl e), fun e => hbl (.inr e), h59⟩ ⟨h41, h40, h34⟩]
    simp only [Option.bind_some]
    cases hi : inR c with
    | false =>
      simp only [cond_false, Option.bind_some]
      rw [app, if_neg (by simp)]
      exact ⟨_, rfl, rfl⟩
    | true =>
      have htl := tw_len inR r
      have hL3 := L3_eq N s (by omega) s.size (y + 1) N (by omega) (by omega) (by omega)
      rw [hr] at hL3
      simp only [cond_true]
      rw [w64_succ (by omega), hL3]
      simp only [Option.bind_some]
      rw [subS_nat s y (y + 1 + (r.takeWhile inR).length) (by omega) (by omega)]
      simp only [Option.bind_some]
      have hrun : bs (s.extract y (y + 1 + (r.takeWhile inR).length)) = c :: r.takeWhile inR := by
        rw [bs_extract, hl]
        have : y + 1 + (r.takeWhile inR).length - y = (r.takeWhile inR).length + 1 := by omega
        rw [this, List.take_succ_cons, tw_take]
      have hnumB : ((c == 45) || ((decide (c ≥ 48)) && (decide (c ≤ 57)))) = numB (c :: r.takeWhile inR) := rfl
      rw [hnumB, if_pos (by trivial)]
      have hdr := drop_run hl inR
      cases hnb : numB (c :: r.takeWhile inR) with
      | true =>
        simp only [cond_true]
        obtain ⟨v, b, g1, g2⟩ := number_ref N (s.extract y (y + 1 + (r.takeWhile inR).length)) (by omega) (by rw [← bs_length, hrun]; simp; omega)
        rw [hrun] at g2
        rw [g1, if_pos (by trivial), g2]
        simp only [Option.bind_some]
        cases b with
        | true =>
          simp only [cond_true, Option.bind_some, if_true]
          rw [app]
          simp only [Option.bind_some]
          have := next ⟨y, 2, v, 0, nilB3⟩ (y + 1 + (r.takeWhile inR).length) (by omega) (by omega)
          rw [hdr] at this
          exact this
        | false =>
          simp only [cond_false, Option.bind_some]
          rw [app]
          exact ⟨_, rfl, rfl⟩
      | false =>
        simp only [cond_false, Option.bind_some]
        rw [app, if_neg (by simp)]
        simp only [Option.bind_some]
        have hw : s.extract y (y + 1 + (r.takeWhile inR).length) = ofB (c :: r.takeWhile inR) := by rw [← hrun, ofB_bs]
        rw [hw]
        have := next ⟨y, 1, 0, 0, ofB (c :: r.takeWhile inR)⟩ (y + 1 + (r.takeWhile inR).length) (by omega) (by omega)
        rw [hdr] at this
        exact this
theorem tokens_eq (N : Nat) (s : ByteArray) (hs : s.size ≤ 262144) (hN : s.size + 30 < N) : TK.gdovetailref03_Tokens N s = some (toksP 0 (bs s)) := by
  obtain ⟨r, h1, h2⟩ := tok_loop N s hs hN s.size 0 N [] (by omega) (by omega) (by omega) (by simp)
  unfold TK.gdovetailref03_Tokens
  have h1' : TK.gdovetailref03_Tokens_L1 N s N [] 0 = some r := h1
  rw [h1']
  rw [List.nil_append, List.drop_zero] at h2
  cases r with
  | out l => exact congrArg some h2
  | ret l => exact congrArg some h2
end Go.DM
