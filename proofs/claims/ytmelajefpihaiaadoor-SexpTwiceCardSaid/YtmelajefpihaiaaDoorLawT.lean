/- Plain laws of sexp, first part: a text's tokens by a state machine, trees out of tokens, and both ways between them. No condition. -/
import Derived.Test.YtmelajefpihaiaaDoorWalkT2
import Derived.Test.YtmelajefpihaiaaDoorDmF
import Derived.Lib.AtoiAllCases
import Derived.Test.YtmelajefpihaiaaDoorWalkU
import Derived.Lib.AtoiTie
import Derived.Lib.ItoaMem
import Derived.Lib.ItoaLen
namespace Go.DM
open Go

def nilB3 : ByteArray := ByteArray.mk #[]
/-- a byte that may stand in a run -/
def inR (c : Int) : Bool := (((decide (c > 32) && decide (c < 127)) && !(c == 40)) && !(c == 41)) && (!(c == 34) && !(c == 59))
theorem inR_iff (c : Int) : inR c = true ↔ (32 < c ∧ c < 127 ∧ c ≠ 40 ∧ c ≠ 41 ∧ c ≠ 34 ∧ c ≠ 59) := by
  unfold inR
  simp only [Bool.and_eq_true, Bool.not_eq_true', decide_eq_true_eq, beq_eq_false_iff_ne, ne_eq]
  constructor
  · rintro ⟨⟨⟨⟨a, b⟩, c⟩, d⟩, e, f⟩; exact ⟨a, b, c, d, e, f⟩
  · rintro ⟨a, b, c, d, e, f⟩; exact ⟨⟨⟨⟨a, b⟩, c⟩, d⟩, e, f⟩
inductive Tk where
  | opn
  | cls
  | atom (t : TTree)
inductive LS where
  | blank
  | remark
  | text (a : List Int)
  | run (a : List Int)
/-- must the run be a number -/
def numB : List Int → Bool
  | [] => false
  | c :: _ => (c == 45) || (decide (c ≥ 48) && decide (c ≤ 57))
def numV (s : ByteArray) : Option Int := match gsexp_number 0 s with
  | some (v, true) => some v
  | _ => none
def atomR (a : List Int) : Option Tk := if numB a = true then (numV (ofB a)).map (fun v => .atom (.mk 2 nilB3 v [])) else some (.atom (.mk 1 (ofB a) 0 []))
def stepB (c : Int) : Option (List Tk × LS) :=
  if c = 32 ∨ c = 10 then some ([], .blank) else if c = 59 then some ([], .remark) else if c = 40 then some ([.opn], .blank) else if c = 41 then some ([.cls], .blank) else if c = 34 then some ([], .text []) else if inR c = true then some ([], .run [c]) else none
def stepL : LS → Int → Option (List Tk × LS)
  | .blank, c => stepB c
  | .remark, c => some ([], if c = 10 then .blank else .remark)
  | .text a, c => if c = 34 then some ([.atom (.mk 3 (ofB a) 0 [])], .blank) else if c < 32 ∨ c > 126 then none else some ([], .text (a ++ [c]))
  | .run a, c => if inR c = true then some ([], .run (a ++ [c])) else (atomR a).bind fun t => (stepB c).map fun p => (t :: p.1, p.2)
def finL : LS → Option (List Tk)
  | .blank => some []
  | .remark => some []
  | .text _ => none
  | .run a => (atomR a).map fun t => [t]
def lexF : LS → List Int → Option (List Tk)
  | st, [] => finL st
  | st, c :: r => (stepL st c).bind fun p => (lexF p.2 r).map (p.1 ++ ·)

theorem omap_nil (x : Option (List Tk)) : x.map (([] : List Tk) ++ ·) = x := by cases x <;> rfl
theorem omap_app (x : Option (List Tk)) (a b : List Tk) : (x.map (b ++ ·)).map (a ++ ·) = x.map ((a ++ b) ++ ·) := by cases x <;> simp
theorem fin_nl {st : LS} {o : List Tk} (h : finL st = some o) : stepL st 10 = some (o, .blank) := by
  cases st with
  | blank => cases h; rfl
  | remark => cases h; rfl
  | text a => cases h
  | run a =>
    simp only [finL] at h
    simp only [stepL]
    cases ha : atomR a with
    | none => rw [ha] at h; cases h
    | some t => rw [ha] at h; cases h; rfl
/-- two texts, one behind the other with a line feed between -/
theorem lex_join : ∀ (a : List Int) (st : LS) (ta : List Tk) (b : List Int), lexF st a = some ta → lexF st (a ++ 10 :: b) = (lexF .blank b).map (ta ++ ·)
  | [], st, ta, b, h => by
    rw [List.nil_append, lexF, fin_nl h]; rfl
  | c :: r, st, ta, b, h => by
    rw [List.cons_append, lexF]
    rw [lexF] at h
    cases hs : stepL st c with
    | none => rw [hs] at h; cases h
    | some p =>
      rw [hs] at h
      simp only [Option.bind_some] at h ⊢
      cases hr : lexF p.2 r with
      | none => rw [hr] at h; cases h
      | some t =>
        rw [hr] at h; cases h
        rw [lex_join r p.2 t b hr, omap_app]
theorem lex_open (l : List Int) : lexF .blank (40 :: l) = (lexF .blank l).map (([.opn] : List Tk) ++ ·) := rfl
theorem lex_close (l : List Int) : lexF .blank (41 :: l) = (lexF .blank l).map (([.cls] : List Tk) ++ ·) := rfl
theorem lex_sp (l : List Int) : lexF .blank (32 :: l) = lexF .blank l := omap_nil _
theorem lex_nl (l : List Int) : lexF .blank (10 :: l) = lexF .blank l := omap_nil _
theorem lex_rem (l : List Int) : lexF .blank (59 :: l) = lexF .remark l := omap_nil _
theorem lex_remnl (l : List Int) : lexF .remark (10 :: l) = lexF .blank l := omap_nil _
theorem lex_rem1 {c : Int} (h : c ≠ 10) (l : List Int) : lexF .remark (c :: l) = lexF .remark l := by
  rw [lexF, stepL, if_neg h]; exact omap_nil _
theorem lex_remark : ∀ (u v : List Int), (∀ c ∈ u, c ≠ 10) → lexF .remark (u ++ v) = lexF .remark v
  | [], _, _ => rfl
  | c :: u, v, h => by
    rw [List.cons_append, lex_rem1 (h c (List.mem_cons_self ..)), lex_remark u v (fun x hx => h x (List.mem_cons_of_mem _ hx))]
theorem lex_run : ∀ (u a : List Int) (v : List Int), (∀ c ∈ u, inR c = true) → lexF (.run a) (u ++ v) = lexF (.run (a ++ u)) v
  | [], a, v, _ => by rw [List.nil_append, List.append_nil]
  | c :: u, a, v, h => by
    rw [List.cons_append, lexF, stepL, if_pos (h c (List.mem_cons_self ..))]
    show (lexF (.run (a ++ [c])) (u ++ v)).map _ = _
    rw [omap_nil, lex_run u _ v (fun x hx => h x (List.mem_cons_of_mem _ hx)), List.append_assoc]; rfl
/-- a run ends where a byte stands that is none of its -/
theorem lex_runEnd (a v : List Int) (h : ∀ c r, v = c :: r → inR c = false) : lexF (.run a) v = (atomR a).bind fun t => (lexF .blank v).map (([t] : List Tk) ++ ·) := by
  cases v with
  | nil => rw [lexF, lexF, finL, finL]; cases atomR a <;> rfl
  | cons c r =>
    have hc := h c r rfl
    have hc' : ¬ inR c = true := by rw [hc]; simp
    rw [lexF, lexF]
    simp only [stepL]
    rw [if_neg hc']
    cases atomR a with
    | none => rfl
    | some t =>
      simp only [Option.bind_some]
      cases stepB c with
      | none => rfl
      | some p =>
        simp only [Option.map_some, Option.bind_some]
        rw [omap_app]; rfl
theorem lex_text : ∀ (u a : List Int) (v : List Int), (∀ c ∈ u, 32 ≤ c ∧ c ≤ 126 ∧ c ≠ 34) → lexF (.text a) (u ++ v) = lexF (.text (a ++ u)) v
  | [], a, v, _ => by rw [List.nil_append, List.append_nil]
  | c :: u, a, v, h => by
    have hc := h c (List.mem_cons_self ..)
    rw [List.cons_append, lexF, stepL, if_neg hc.2.2, if_neg (by omega)]
    show (lexF (.text (a ++ [c])) (u ++ v)).map _ = _
    rw [omap_nil, lex_text u _ v (fun x hx => h x (List.mem_cons_of_mem _ hx)), List.append_assoc]; rfl
theorem lex_textEnd (a v : List Int) : lexF (.text a) (34 :: v) = (lexF .blank v).map (([.atom (.mk 3 (ofB a) 0 [])] : List Tk) ++ ·) := rfl
theorem lex_textBad (a : List Int) {c : Int} (v : List Int) (h : c ≠ 34) (h' : c < 32 ∨ c > 126) : lexF (.text a) (c :: v) = none := by
  rw [lexF, stepL, if_neg h, if_pos h']; rfl
theorem lex_quote (l : List Int) : lexF .blank (34 :: l) = lexF (.text []) l := omap_nil _
theorem lex_word {c : Int} (hc : inR c = true) (l : List Int) : lexF .blank (c :: l) = lexF (.run [c]) l := by
  have h := (inR_iff c).1 hc
  rw [lexF, stepL, stepB, if_neg (by omega), if_neg (by omega), if_neg (by omega), if_neg (by omega), if_neg (by omega), if_pos hc]
  exact omap_nil _
theorem lex_bad {c : Int} (hc : inR c = false) (h : c ≠ 32 ∧ c ≠ 10 ∧ c ≠ 59 ∧ c ≠ 40 ∧ c ≠ 41 ∧ c ≠ 34) (l : List Int) : lexF .blank (c :: l) = none := by
  rw [lexF, stepL, stepB, if_neg (by omega), if_neg (by omega), if_neg (by omega), if_neg (by omega), if_neg (by omega), if_neg (by rw [hc]; simp)]
  rfl

/-! trees -/
mutual
def toksT : TTree → List Tk
  | .mk k w v l => if k = 4 then .opn :: (toksL l ++ [.cls]) else [.atom (.mk k w v l)]
def toksL : List TTree → List Tk
  | [] => []
  | t :: r => toksT t ++ toksL r
end
mutual
def cntT : TTree → Nat
  | .mk _ _ _ l => cntL l + 1
def cntL : List TTree → Nat
  | [] => 0
  | t :: r => cntT t + cntL r
end
mutual
def deepT : TTree → Nat
  | .mk k _ _ l => if k = 4 then deepL l + 1 else 0
def deepL : List TTree → Nat
  | [] => 0
  | t :: r => max (deepT t) (deepL r)
end
def most18 : Int := 999999999999999999
def AtomOk (t : TTree) : Prop :=
  (t.f_Kind = 1 ∧ t.f_Num = 0 ∧ t.f_Kids = [] ∧ bs t.f_Word ≠ [] ∧ (∀ c ∈ bs t.f_Word, inR c = true) ∧ numB (bs t.f_Word) = false) ∨
  (t.f_Kind = 2 ∧ t.f_Word = nilB3 ∧ t.f_Kids = [] ∧ -most18 ≤ t.f_Num ∧ t.f_Num ≤ most18) ∨
  (t.f_Kind = 3 ∧ t.f_Num = 0 ∧ t.f_Kids = [] ∧ ∀ c ∈ bs t.f_Word, 32 ≤ c ∧ c ≤ 126 ∧ c ≠ 34)
mutual
def FormT : TTree → Prop
  | .mk k w v l => (k = 4 ∧ w = nilB3 ∧ v = 0 ∧ FormL l) ∨ (k ≠ 4 ∧ AtomOk (.mk k w v l))
def FormL : List TTree → Prop
  | [] => True
  | t :: r => FormT t ∧ FormL r
end
theorem AtomOk.ne4 {t : TTree} (h : AtomOk t) : t.f_Kind ≠ 4 := by
  rcases h with h | h | h <;> omega
theorem AtomOk.kids {t : TTree} (h : AtomOk t) : t.f_Kids = [] := by
  rcases h with h | h | h
  · exact h.2.2.1
  · exact h.2.2.1
  · exact h.2.2.1
theorem AtomOk.tree {t : TTree} (h : AtomOk t) : FormT t ∧ toksT t = [.atom t] ∧ cntT t = 1 ∧ deepT t = 0 := by
  have h4 := h.ne4
  have hk := h.kids
  obtain ⟨k, w, v, l⟩ := t
  simp only [TTree.f_Kind, TTree.f_Kids] at h4 hk
  subst hk
  refine ⟨?_, ?_, ?_, ?_⟩
  · rw [FormT]; exact .inr ⟨h4, h⟩
  · rw [toksT, if_neg h4]
  · rw [cntT, cntL]
  · rw [deepT, if_neg h4]
theorem toksL_app : ∀ (a b : List TTree), toksL (a ++ b) = toksL a ++ toksL b
  | [], _ => by rw [toksL]; rfl
  | t :: r, b => by rw [List.cons_append, toksL, toksL, toksL_app r b, List.append_assoc]
theorem cntL_app : ∀ (a b : List TTree), cntL (a ++ b) = cntL a + cntL b
  | [], _ => by rw [cntL]; simp
  | t :: r, b => by rw [List.cons_append, cntL, cntL, cntL_app r b]; omega
theorem deepL_app : ∀ (a b : List TTree), deepL (a ++ b) = max (deepL a) (deepL b)
  | [], _ => by rw [deepL]; simp
  | t :: r, b => by rw [List.cons_append, deepL, deepL, deepL_app r b]; omega
theorem FormL_app : ∀ {a b : List TTree}, FormL a → FormL b → FormL (a ++ b)
  | [], _, _, h => h
  | t :: r, b, ha, hb => by
    rw [FormL] at ha
    rw [List.cons_append, FormL]; exact ⟨ha.1, FormL_app ha.2 hb⟩
theorem len_cntL : ∀ (l : List TTree), l.length ≤ cntL l
  | [] => by rw [cntL]; simp
  | t :: r => by
    have := len_cntL r
    obtain ⟨k, w, v, l⟩ := t
    rw [cntL, cntT, List.length_cons]; omega

/-- trees out of tokens -/
def gram : List (List TTree) → List TTree → Nat → List Tk → Option (List TTree × Nat)
  | [], acc, n, [] => some (acc, n)
  | _ :: _, _, _, [] => none
  | stk, acc, n, .atom t :: r => if 65536 < n + 1 then none else gram stk (acc ++ [t]) (n + 1) r
  | stk, acc, n, .opn :: r => if 65536 < n + 1 ∨ 32 < stk.length + 1 then none else gram (acc :: stk) [] (n + 1) r
  | [], _, _, .cls :: _ => none
  | p :: stk, acc, n, .cls :: r => gram stk (p ++ [.mk 4 nilB3 0 acc]) n r
theorem gram_atom (stk : List (List TTree)) (acc : List TTree) (n : Nat) (t : TTree) (r : List Tk) : gram stk acc n (.atom t :: r) = if 65536 < n + 1 then none else gram stk (acc ++ [t]) (n + 1) r := by
  cases stk <;> rw [gram]
theorem gram_opn (stk : List (List TTree)) (acc : List TTree) (n : Nat) (r : List Tk) : gram stk acc n (.opn :: r) = if 65536 < n + 1 ∨ 32 < stk.length + 1 then none else gram (acc :: stk) [] (n + 1) r := by
  cases stk <;> rw [gram]

mutual
theorem gramT : ∀ (t : TTree) (stk : List (List TTree)) (acc : List TTree) (n : Nat) (r : List Tk), FormT t → n + cntT t ≤ 65536 → stk.length + deepT t ≤ 32 → gram stk acc n (toksT t ++ r) = gram stk (acc ++ [t]) (n + cntT t) r
  | .mk k w v l, stk, acc, n, r, hf, hn, hd => by
    rw [FormT] at hf
    rcases hf with ⟨rfl, rfl, rfl, hl⟩ | ⟨hk, ha⟩
    · rw [cntT] at hn
      rw [deepT, if_pos rfl] at hd
      rw [toksT, if_pos rfl, List.cons_append, gram_opn, if_neg (by omega), List.append_assoc, gramL l _ _ _ _ hl (by omega) (by rw [List.length_cons]; omega), List.nil_append]
      show gram (acc :: stk) l _ (.cls :: r) = _
      rw [gram, cntT]
      congr 1; omega
    · obtain ⟨_, h2, h3, _⟩ := ha.tree
      rw [h2, h3, List.singleton_append, gram_atom, if_neg (by omega)]
theorem gramL : ∀ (l : List TTree) (stk : List (List TTree)) (acc : List TTree) (n : Nat) (r : List Tk), FormL l → n + cntL l ≤ 65536 → stk.length + deepL l ≤ 32 → gram stk acc n (toksL l ++ r) = gram stk (acc ++ l) (n + cntL l) r
  | [], stk, acc, n, r, _, _, _ => by rw [toksL, cntL, List.nil_append, List.append_nil, Nat.add_zero]
  | t :: l, stk, acc, n, r, hf, hn, hd => by
    rw [FormL] at hf
    rw [cntL] at hn
    rw [deepL] at hd
    rw [toksL, List.append_assoc, gramT t _ _ _ _ hf.1 (by omega) (by omega), gramL l _ _ _ _ hf.2 (by omega) (by omega), cntL, List.append_assoc, List.singleton_append, Nat.add_assoc]
end
def pend : List (List TTree) → List TTree → List Tk
  | [], acc => toksL acc
  | p :: stk, acc => pend stk p ++ .opn :: toksL acc
def GInv : List (List TTree) → List TTree → Nat → Prop
  | [], acc, n => FormL acc ∧ deepL acc ≤ 32 ∧ cntL acc = n
  | p :: stk, acc, n => FormL acc ∧ deepL acc + (stk.length + 1) ≤ 32 ∧ ∃ m, GInv stk p m ∧ m + 1 + cntL acc = n
theorem GInv.push {stk : List (List TTree)} {acc : List TTree} {n : Nat} (h : GInv stk acc n) (t : TTree) (ht : FormT t) (hd : deepT t + stk.length ≤ 32) : GInv stk (acc ++ [t]) (n + cntT t) := by
  have e1 : deepL (acc ++ [t]) = max (deepL acc) (deepT t) := by rw [deepL_app, deepL, deepL]; omega
  have e2 : cntL (acc ++ [t]) = cntL acc + cntT t := by rw [cntL_app, cntL, cntL]; omega
  have e3 : FormL [t] := by rw [FormL, FormL]; exact ⟨ht, trivial⟩
  cases stk with
  | nil =>
    obtain ⟨a, b, c⟩ := h
    simp only [List.length_nil] at hd
    exact ⟨FormL_app a e3, by omega, by omega⟩
  | cons p stk =>
    obtain ⟨a, b, m, c, d⟩ := h
    simp only [List.length_cons] at hd
    exact ⟨FormL_app a e3, by omega, m, c, by omega⟩
theorem pend_push : ∀ (stk : List (List TTree)) (acc : List TTree) (t : TTree), pend stk (acc ++ [t]) = pend stk acc ++ toksT t
  | [], acc, t => by rw [pend, pend, toksL_app, toksL, toksL, List.append_nil]
  | p :: stk, acc, t => by rw [pend, pend, toksL_app, toksL, toksL, List.append_nil, List.append_assoc]; rfl
theorem gram_sound : ∀ (ts : List Tk) (stk : List (List TTree)) (acc : List TTree) (n : Nat) (x : List TTree) (m : Nat), (∀ t, Tk.atom t ∈ ts → AtomOk t) → GInv stk acc n → n ≤ 65536 → gram stk acc n ts = some (x, m) →
    toksL x = pend stk acc ++ ts ∧ FormL x ∧ deepL x ≤ 32 ∧ cntL x = m ∧ m ≤ 65536
  | [], stk, acc, n, x, m, _, hi, hn, h => by
    cases stk with
    | nil =>
      rw [gram] at h
      cases h
      exact ⟨by rw [pend, List.append_nil], hi.1, hi.2.1, hi.2.2, hn⟩
    | cons p stk => rw [gram] at h; cases h
  | .atom t :: r, stk, acc, n, x, m, ha, hi, hn, h => by
    rw [gram_atom] at h
    split at h
    · cases h
    have ht := ha t (List.mem_cons_self ..)
    obtain ⟨h1, h2, h3, h4⟩ := ht.tree
    have hs : stk.length ≤ 32 := by
      cases stk with
      | nil => simp
      | cons p s => have := hi.2.1; rw [List.length_cons]; omega
    have hi' := hi.push t h1 (by omega)
    rw [h3] at hi'
    obtain ⟨g1, g2⟩ := gram_sound r stk _ _ x m (fun u hu => ha u (List.mem_cons_of_mem _ hu)) hi' (by omega) h
    exact ⟨by rw [g1, pend_push, h2, List.append_assoc]; rfl, g2⟩
  | .opn :: r, stk, acc, n, x, m, ha, hi, hn, h => by
    rw [gram_opn] at h
    split at h
    · cases h
    have hi' : GInv (acc :: stk) [] (n + 1) := ⟨by rw [FormL]; trivial, by rw [deepL]; omega, n, hi, by rw [cntL]⟩
    obtain ⟨g1, g2⟩ := gram_sound r (acc :: stk) [] (n + 1) x m (fun u hu => ha u (List.mem_cons_of_mem _ hu)) hi' (by omega) h
    exact ⟨by rw [g1, pend, toksL, List.append_assoc]; rfl, g2⟩
  | .cls :: r, [], acc, n, x, m, ha, hi, hn, h => by rw [gram] at h; cases h
  | .cls :: r, p :: stk, acc, n, x, m, ha, hi, hn, h => by
    rw [gram] at h
    obtain ⟨a, b, k, c, d⟩ := hi
    have e : cntT (.mk 4 nilB3 0 acc) = cntL acc + 1 := by rw [cntT]
    have hi' : GInv stk (p ++ [.mk 4 nilB3 0 acc]) n := by
      have := c.push (.mk 4 nilB3 0 acc) (by rw [FormT]; exact .inl ⟨rfl, rfl, rfl, a⟩) (by rw [deepT, if_pos rfl]; omega)
      rw [e] at this
      rwa [show k + (cntL acc + 1) = n by omega] at this
    obtain ⟨g1, g2⟩ := gram_sound r stk _ n x m (fun u hu => ha u (List.mem_cons_of_mem _ hu)) hi' hn h
    refine ⟨?_, g2⟩
    rw [g1, pend_push, toksT, if_pos rfl, pend, List.append_assoc, List.append_assoc]
    simp

/-! what tokens of a text are -/
theorem numV_bounds {s : ByteArray} {v : Int} (h : numV s = some v) : -most18 ≤ v ∧ v ≤ most18 ∧ itoaT v = some s := by
  unfold numV at h
  split at h
  · rename_i v' hv
    cases h
    unfold gsexp_number at hv
    cases ha : atoiT s with
    | none => rw [ha] at hv; cases hv
    | some p =>
      obtain ⟨u, b⟩ := p
      rw [ha] at hv
      simp only [Option.bind_some] at hv
      cases hc : ((!b) && (decide (u ≥ (-999999999999999999)))) && (decide (u ≤ 999999999999999999))
      · rw [hc] at hv
        simp at hv
      · rw [hc] at hv
        simp only [Bool.and_eq_true, Bool.not_eq_true', decide_eq_true_eq] at hc
        simp only [cond_true] at hv
        cases hi : itoaT u with
        | none => rw [hi] at hv; cases hv
        | some q =>
          rw [hi] at hv
          simp only [Option.bind_some, Option.some.injEq, Prod.mk.injEq, decide_eq_true_eq] at hv
          obtain ⟨rfl, rfl⟩ := hv
          exact ⟨by unfold most18; omega, by unfold most18; omega, hi⟩
  · cases h
def tkz : Tk → Nat
  | .opn => 3
  | .cls => 3
  | .atom t => if t.f_Kind = 2 then 23 else t.f_Word.size + 3
def tkzs : List Tk → Nat
  | [] => 0
  | t :: r => tkz t + tkzs r
theorem tkzs_app : ∀ (a b : List Tk), tkzs (a ++ b) = tkzs a + tkzs b
  | [], _ => by rw [tkzs]; simp
  | t :: r, b => by rw [List.cons_append, tkzs, tkzs, tkzs_app r b]; omega
def LSOk : LS → Prop
  | .blank => True
  | .remark => True
  | .text a => ∀ c ∈ a, 32 ≤ c ∧ c ≤ 126 ∧ c ≠ 34
  | .run a => a ≠ [] ∧ ∀ c ∈ a, inR c = true
def lsz : LS → Nat
  | .blank => 0
  | .remark => 0
  | .text a => a.length + 1
  | .run a => a.length
theorem size_ofB (a : List Int) : (ofB a).size = a.length := by
  show (a.map _).toArray.size = _
  simp
theorem atomR_ok {a : List Int} {t : Tk} (h0 : a ≠ []) (h1 : ∀ c ∈ a, inR c = true) (h : atomR a = some t) : ∃ u, t = .atom u ∧ AtomOk u ∧ tkz t ≤ 23 * a.length := by
  have hl : 1 ≤ a.length := by cases a with | nil => exact absurd rfl h0 | cons _ _ => simp
  have hb : bs (ofB a) = a := bs_ofB (fun c hc => by have := (inR_iff c).1 (h1 c hc); omega)
  unfold atomR at h
  split at h
  · cases hv : numV (ofB a) with
    | none => rw [hv] at h; cases h
    | some v =>
      rw [hv] at h; cases h
      have := numV_bounds hv
      exact ⟨_, rfl, .inr (.inl ⟨rfl, rfl, rfl, this.1, this.2.1⟩), by simp only [tkz, TTree.f_Kind, if_true]; omega⟩
  · rename_i hn
    cases h
    refine ⟨_, rfl, .inl ⟨rfl, rfl, rfl, ?_, ?_, ?_⟩, ?_⟩
    · show bs (ofB a) ≠ []; rw [hb]; exact h0
    · show ∀ c ∈ bs (ofB a), _; rw [hb]; exact h1
    · show numB (bs (ofB a)) = false; rw [hb]; simpa using hn
    · simp only [tkz, TTree.f_Kind, TTree.f_Word, size_ofB]
      rw [if_neg (by decide)]; omega
theorem stepB_ok {c : Int} {o : List Tk} {st : LS} (h : stepB c = some (o, st)) : LSOk st ∧ (∀ t, Tk.atom t ∈ o → AtomOk t) ∧ tkzs o + 23 * lsz st ≤ 23 := by
  unfold stepB at h
  split at h
  · cases h; exact ⟨trivial, by simp, by simp [tkzs, lsz]⟩
  split at h
  · cases h; exact ⟨trivial, by simp, by simp [tkzs, lsz]⟩
  split at h
  · cases h; exact ⟨trivial, by simp, by simp [tkzs, tkz, lsz]⟩
  split at h
  · cases h; exact ⟨trivial, by simp, by simp [tkzs, tkz, lsz]⟩
  split at h
  · cases h; exact ⟨by simp [LSOk], by simp, by simp [tkzs, lsz]⟩
  split at h
  · rename_i hc
    cases h; exact ⟨⟨by simp, by simpa using hc⟩, by simp, by simp [tkzs, lsz]⟩
  · cases h
theorem stepL_ok {s0 st : LS} {c : Int} {o : List Tk} (h0 : LSOk s0) (h : stepL s0 c = some (o, st)) : LSOk st ∧ (∀ t, Tk.atom t ∈ o → AtomOk t) ∧ tkzs o + 23 * lsz st ≤ 23 * lsz s0 + 23 := by
  cases s0 with
  | blank =>
    have := stepB_ok h
    exact ⟨this.1, this.2.1, by simp only [lsz] at *; omega⟩
  | remark =>
    cases h
    split
    · exact ⟨trivial, by simp, by simp [tkzs, lsz]⟩
    · exact ⟨trivial, by simp, by simp [tkzs, lsz]⟩
  | text a =>
    simp only [stepL] at h
    split at h
    · cases h
      have h0' : ∀ c ∈ a, 32 ≤ c ∧ c ≤ 126 ∧ c ≠ 34 := h0
      have hb : bs (ofB a) = a := bs_ofB (fun c hc => by have := h0' c hc; omega)
      refine ⟨trivial, fun t ht => ?_, ?_⟩
      · rw [List.mem_singleton] at ht
        cases ht
        refine .inr (.inr ⟨rfl, rfl, rfl, ?_⟩)
        show ∀ c ∈ bs (ofB a), _
        rw [hb]; exact h0'
      · simp only [tkzs, tkz, TTree.f_Kind, TTree.f_Word, size_ofB, lsz]
        rw [if_neg (by decide)]; omega
    · split at h
      · cases h
      · rename_i h1 h2
        cases h
        refine ⟨fun x hx => ?_, by simp, by simp only [tkzs, lsz, List.length_append, List.length_singleton]; omega⟩
        rcases List.mem_append.1 hx with hx | hx
        · exact h0 x hx
        · rw [List.mem_singleton] at hx
          subst hx
          exact ⟨by omega, by omega, h1⟩
  | run a =>
    simp only [stepL] at h
    split at h
    · rename_i hc
      cases h
      refine ⟨⟨by simp, fun x hx => ?_⟩, by simp, by simp only [tkzs, lsz, List.length_append, List.length_singleton]; omega⟩
      rcases List.mem_append.1 hx with hx | hx
      · exact h0.2 x hx
      · rw [List.mem_singleton] at hx
        subst hx
        exact hc
    · cases ha : atomR a with
      | none => rw [ha] at h; cases h
      | some t =>
        rw [ha] at h
        cases hb : stepB c with
        | none => rw [hb] at h; cases h
        | some p =>
          obtain ⟨o', st'⟩ := p
          rw [hb] at h
          cases h
          obtain ⟨u, rfl, hu, hz⟩ := atomR_ok h0.1 h0.2 ha
          obtain ⟨k1, k2, k3⟩ := stepB_ok hb
          refine ⟨k1, fun t ht => ?_, ?_⟩
          · rcases List.mem_cons.1 ht with ht | ht
            · cases ht; exact hu
            · exact k2 t ht
          · simp only [tkzs, lsz] at *; omega
theorem lexF_ok : ∀ (l : List Int) (st : LS) (ts : List Tk), LSOk st → lexF st l = some ts → (∀ t, Tk.atom t ∈ ts → AtomOk t) ∧ tkzs ts ≤ 23 * (l.length + lsz st)
  | [], st, ts, h0, h => by
    rw [lexF] at h
    cases st with
    | blank => cases h; exact ⟨by simp, by simp [tkzs]⟩
    | remark => cases h; exact ⟨by simp, by simp [tkzs]⟩
    | text a => cases h
    | run a =>
      simp only [finL] at h
      cases ha : atomR a with
      | none => rw [ha] at h; cases h
      | some t =>
        rw [ha] at h
        cases h
        obtain ⟨u, rfl, hu, hz⟩ := atomR_ok h0.1 h0.2 ha
        refine ⟨fun t ht => ?_, ?_⟩
        · rw [List.mem_singleton] at ht; cases ht; exact hu
        · simp only [tkzs, lsz, List.length_nil] at *; omega
  | c :: r, st, ts, h0, h => by
    rw [lexF] at h
    cases hs : stepL st c with
    | none => rw [hs] at h; cases h
    | some p =>
      obtain ⟨o, st'⟩ := p
      rw [hs] at h
      simp only [Option.bind_some] at h
      cases hr : lexF st' r with
      | none => rw [hr] at h; cases h
      | some t =>
        rw [hr] at h; cases h
        obtain ⟨k1, k2, k3⟩ := stepL_ok h0 hs
        obtain ⟨g1, g2⟩ := lexF_ok r st' t k1 hr
        refine ⟨fun u hu => ?_, ?_⟩
        · rcases List.mem_append.1 hu with hu | hu
          · exact k2 u hu
          · exact g1 u hu
        · rw [tkzs_app, List.length_cons]; omega

/-- a text's trees -/
def parseX (l : List Int) : Option (List TTree) := ((lexF .blank l).bind (gram [] [] 0)).map (·.1)
theorem parseX_iff (l : List Int) (x : List TTree) : parseX l = some x ↔ (lexF .blank l = some (toksL x) ∧ FormL x ∧ deepL x ≤ 32 ∧ cntL x ≤ 65536) := by
  unfold parseX
  constructor
  · intro h
    cases hl : lexF .blank l with
    | none => rw [hl] at h; cases h
    | some ts =>
      rw [hl] at h
      simp only [Option.bind_some] at h
      cases hg : gram [] [] 0 ts with
      | none => rw [hg] at h; cases h
      | some p =>
        obtain ⟨y, m⟩ := p
        rw [hg] at h
        cases h
        obtain ⟨h1, h2, h3, h4, h5⟩ := gram_sound ts [] [] 0 _ _ (lexF_ok l .blank ts trivial hl).1 ⟨by rw [FormL]; trivial, by rw [deepL]; omega, by rw [cntL]⟩ (by omega) hg
        rw [pend, toksL, List.nil_append] at h1
        exact ⟨by rw [h1], h2, h3, by show cntL y ≤ 65536; omega⟩
  · rintro ⟨h1, h2, h3, h4⟩
    rw [h1]
    have := gramL x [] [] 0 [] h2 (by omega) (by simp; omega)
    rw [List.append_nil, List.nil_append, Nat.zero_add, gram] at this
    rw [Option.bind_some, this]; rfl
end Go.DM
namespace Go.DM
open Go

/-! library functions at bytes -/
theorem byte_fin3 {P : Int → Prop} (h : ∀ n : _root_.Fin 256, P ((n.val : Nat) : Int)) {c : Int} (h0 : 0 ≤ c) (h1 : c < 256) : P c := by
  have := h ⟨c.toNat, by omega⟩
  simpa [Int.toNat_of_nonneg h0] using this
theorem within_eq (n : Nat) {c : Int} (h0 : 0 ≤ c) (h1 : c < 256) : gsexp_within n c = some (inR c) := by
  show gsexp_within 0 c = some (inR c)
  exact byte_fin3 (P := fun c => gsexp_within 0 c = some (inR c)) (by decide +kernel) h0 h1
theorem idx10L : ∀ (l : List UInt8), (Lib.indexByte l 10 = -1 ∧ ∀ c ∈ l.map (fun b => (b.toNat : Int)), c ≠ 10) ∨ ∃ u v, l.map (fun b => (b.toNat : Int)) = u ++ 10 :: v ∧ (∀ c ∈ u, c ≠ 10) ∧ Lib.indexByte l 10 = (u.length : Int)
  | [] => .inl ⟨rfl, by simp⟩
  | b :: l => by
    by_cases hb : b = 10
    · subst hb
      exact .inr ⟨[], _, rfl, by simp, rfl⟩
    · have hb' : (b == 10) = false := by simpa using hb
      have hn : (b.toNat : Int) ≠ 10 := fun e => hb (UInt8.toNat.inj (by show b.toNat = 10; omega))
      unfold Lib.indexByte
      rw [hb']
      rcases idx10L l with ⟨h1, h2⟩ | ⟨u, v, h1, h2, h3⟩
      · left
        rw [h1]
        refine ⟨rfl, fun c hc => ?_⟩
        rw [List.map_cons] at hc
        rcases List.mem_cons.1 hc with rfl | hc
        · exact hn
        · exact h2 c hc
      · right
        refine ⟨(b.toNat : Int) :: u, v, by rw [List.map_cons, h1]; rfl, fun c hc => ?_, ?_⟩
        · rcases List.mem_cons.1 hc with rfl | hc
          · exact hn
          · exact h2 c hc
        · rw [h3]
          have : ((u.length : Int) == -1) = false := by rw [beq_eq_false_iff_ne]; omega
          rw [this]
          rfl
theorem idx10 (t : ByteArray) : (indexByteT t 10 = some (-1) ∧ ∀ c ∈ bs t, c ≠ 10) ∨ ∃ u v, bs t = u ++ 10 :: v ∧ (∀ c ∈ u, c ≠ 10) ∧ indexByteT t 10 = some (u.length : Int) := by
  rcases idx10L t.data.toList with ⟨h1, h2⟩ | ⟨u, v, h1, h2, h3⟩
  · left
    exact ⟨congrArg some h1, h2⟩
  · right
    exact ⟨u, v, h1, h2, congrArg some h3⟩
theorem bs_tail {s : ByteArray} {y : Nat} (_h : y ≤ s.size) : bs (s.extract y s.size) = (bs s).drop y := by
  rw [bs_extract, List.take_of_length_le (by rw [List.length_drop, bs_length]; omega)]
theorem ext_snoc {s : ByteArray} {a y : Nat} {c : Int} (h : a ≤ y) (hc : (bs s)[y]? = some c) : bs (s.extract a (y + 1)) = bs (s.extract a y) ++ [c] := by
  rw [bs_extract, bs_extract, show y + 1 - a = (y - a) + 1 by omega, List.take_add_one, List.getElem?_drop, show a + (y - a) = y by omega, hc]
  rfl

/-! skip -/
def SkipR (s : ByteArray) (y y' : Nat) : Prop := y ≤ y' ∧ y' ≤ s.size ∧ lexF .blank ((bs s).drop y) = lexF .blank ((bs s).drop y') ∧ ∀ c r, (bs s).drop y' = c :: r → c ≠ 32 ∧ c ≠ 10 ∧ c ≠ 59
theorem skip_loop (N : Nat) (s : ByteArray) (hs : s.size ≤ 6000000) : ∀ (k y m : Nat), s.size - y ≤ k → k < m → y ≤ s.size →
    ∃ y' : Nat, (gsexp_parser__skip_L1 N s m (y : Int) = some (.out (y' : Int)) ∨ gsexp_parser__skip_L1 N s m (y : Int) = some (.ret (y' : Int))) ∧ SkipR s y y' := by
  intro k
  induction k with
  | zero =>
    intro y m hk hm hy
    obtain ⟨m, rfl⟩ : ∃ m', m = m' + 1 := ⟨m - 1, by omega⟩
    have hlen := bs_length s
    rw [gsexp_parser__skip_L1]
    have h1 : decide (((y : Nat) : Int) < ((s.size : Nat) : Int)) = false := by simp; omega
    rw [h1]
    refine ⟨y, .inl rfl, by omega, hy, rfl, fun c r h => ?_⟩
    rw [List.drop_eq_nil_of_le (by omega)] at h; cases h
  | succ k ih =>
    intro y m hk hm hy
    obtain ⟨m, rfl⟩ : ∃ m', m = m' + 1 := ⟨m - 1, by omega⟩
    have hlen := bs_length s
    rw [gsexp_parser__skip_L1]
    rcases hl : (bs s).drop y with _ | ⟨c, r⟩
    · have := drop_nil_le hl
      have h1 : decide (((y : Nat) : Int) < ((s.size : Nat) : Int)) = false := by simp; omega
      rw [h1]
      refine ⟨y, .inl rfl, by omega, hy, rfl, fun c r h => ?_⟩
      rw [hl] at h; cases h
    obtain ⟨hc, hr, hlt⟩ := drop_cons_at hl
    have h1 : decide (((y : Nat) : Int) < ((s.size : Nat) : Int)) = true := by simp; omega
    rw [h1, atS_bs, hc]
    simp only [Option.bind_some, cond_true]
    by_cases hw : c = 32 ∨ c = 10
    · have h2 : (c == 32 || c == 10) = true := by simpa using hw
      rw [h2, w64_succ (by omega)]
      obtain ⟨y', g1, g2, g3, g4, g5⟩ := ih (y + 1) m (by omega) (by omega) (by omega)
      refine ⟨y', g1, by omega, g3, ?_, g5⟩
      rw [← g4, hr, hl]
      rcases hw with rfl | rfl
      · exact lex_sp r
      · exact lex_nl r
    · have h2 : (c == 32 || c == 10) = false := by simpa using hw
      rw [h2]
      simp only [cond_false]
      by_cases hq : c = 59
      · subst hq
        simp only [beq_self_eq_true, cond_true]
        rw [subS_nat s y s.size (by omega) (by omega)]
        simp only [Option.bind_some]
        rcases idx10 (s.extract y s.size) with ⟨e1, e2⟩ | ⟨u, v, e1, e2, e3⟩
        · rw [e1]
          rw [bs_tail hy, hl] at e2
          have h3 : decide ((-1 : Int) < 0) = true := rfl
          simp only [Option.bind_some, h3, cond_true]
          rw [show (((s.size : Nat) : Int) - (y : Int)) = ((s.size - y : Nat) : Int) by omega, w64 (n := ((s.size - y : Nat) : Int)) (by omega) (by omega), show ((y : Int) + ((s.size - y : Nat) : Int)) = ((s.size : Nat) : Int) by omega, w64 (n := ((s.size : Nat) : Int)) (by omega) (by omega)]
          obtain ⟨y', g1, g2, g3, g4, g5⟩ := ih s.size m (by omega) (by omega) (by omega)
          refine ⟨y', g1, by omega, g3, ?_, g5⟩
          rw [← g4, hl, List.drop_eq_nil_of_le (by omega), lex_rem]
          have := lex_remark r [] (fun x hx => e2 x (List.mem_cons_of_mem _ hx))
          rw [List.append_nil] at this
          rw [this]; rfl
        · rw [e3]
          rw [bs_tail hy, hl] at e1
          have hu : u ≠ [] := fun h => by
            rw [h] at e1; simp at e1
          obtain ⟨w, u, rfl⟩ : ∃ w u', u = w :: u' := by
            cases u with
            | nil => exact absurd rfl hu
            | cons a b => exact ⟨a, b, rfl⟩
          rw [List.cons_append] at e1
          injection e1 with e1 e1'
          subst e1
          have h3 : decide (((((59 : Int) :: u).length : Nat) : Int) < 0) = false := by simp; omega
          simp only [Option.bind_some, h3, cond_false]
          have hlr : r.length + 1 + y = s.size := by
            have := congrArg List.length hl
            rw [List.length_drop, List.length_cons] at this; omega
          have hlu : u.length + 1 ≤ r.length := by rw [e1']; simp
          have hc1 : ((59 : Int) :: u).length = u.length + 1 := rfl
          rw [hc1, show ((y : Int) + ((u.length + 1 : Nat) : Int)) = ((y + (u.length + 1) : Nat) : Int) by omega, w64 (by omega) (by omega)]
          obtain ⟨y', g1, g2, g3, g4, g5⟩ := ih (y + (u.length + 1)) m (by omega) (by omega) (by omega)
          refine ⟨y', g1, by omega, g3, ?_, g5⟩
          rw [← g4]
          have hd : (bs s).drop (y + (u.length + 1)) = 10 :: v := by
            rw [← List.drop_drop, hl, List.drop_succ_cons, e1', List.drop_left]
          rw [hd, hl, lex_rem, e1', lex_remark u _ (fun x hx => e2 x (List.mem_cons_of_mem _ hx)), lex_remnl, lex_nl]
      · have h3 : (c == 59) = false := by simpa using hq
        rw [h3]
        refine ⟨y, .inr rfl, by omega, hy, by rw [hl], fun c' r' h => ?_⟩
        rw [hl] at h
        injection h with h _
        subst h
        exact ⟨fun h => hw (.inl h), fun h => hw (.inr h), hq⟩
theorem skip_eq (n : Nat) (s : ByteArray) (hs : s.size ≤ 6000000) (hn : s.size < n) (y : Nat) (hy : y ≤ s.size) (z : Int) : ∃ y' : Nat, gsexp_parser__skip n s (y : Int) z = some (y' : Int) ∧ SkipR s y y' := by
  obtain ⟨y', g1, g2⟩ := skip_loop n s hs s.size y n (by omega) hn hy
  refine ⟨y', ?_, g2⟩
  unfold gsexp_parser__skip
  rcases g1 with g1 | g1 <;> rw [g1] <;> rfl

/-! texts in quotes -/
theorem quoted_loop (N : Nat) (s : ByteArray) (hs : s.size ≤ 6000000) (p : Nat) : ∀ (k y m : Nat), s.size - y ≤ k → k < m → p + 1 ≤ y → y ≤ s.size →
    (lexF (.text (bs (s.extract (p + 1) y))) ((bs s).drop y) = none ∧ (gsexp_parser__quoted_L1 N s (p : Int) m (y : Int) = some (.out ()) ∨ ∃ e : Tsexp_fault, e.f_e ≠ 0 ∧ gsexp_parser__quoted_L1 N s (p : Int) m (y : Int) = some (.ret (.pan e)))) ∨
    ∃ (w : ByteArray) (y' : Nat), gsexp_parser__quoted_L1 N s (p : Int) m (y : Int) = some (.ret (.val (.mk 3 w 0 [], (y' : Int)))) ∧ p < y' ∧ y' ≤ s.size ∧ lexF (.text (bs (s.extract (p + 1) y))) ((bs s).drop y) = (lexF .blank ((bs s).drop y')).map (([.atom (.mk 3 w 0 [])] : List Tk) ++ ·) := by
  intro k
  induction k with
  | zero =>
    intro y m hk hm hp hy
    obtain ⟨m, rfl⟩ : ∃ m', m = m' + 1 := ⟨m - 1, by omega⟩
    have hlen := bs_length s
    rw [gsexp_parser__quoted_L1]
    have h1 : decide (((y : Nat) : Int) < ((s.size : Nat) : Int)) = false := by simp; omega
    rw [h1]
    left
    rw [List.drop_eq_nil_of_le (by omega)]
    exact ⟨rfl, .inl rfl⟩
  | succ k ih =>
    intro y m hk hm hp hy
    obtain ⟨m, rfl⟩ : ∃ m', m = m' + 1 := ⟨m - 1, by omega⟩
    have hlen := bs_length s
    rw [gsexp_parser__quoted_L1]
    rcases hl : (bs s).drop y with _ | ⟨c, r⟩
    · have := drop_nil_le hl
      have h1 : decide (((y : Nat) : Int) < ((s.size : Nat) : Int)) = false := by simp; omega
      rw [h1]
      left
      exact ⟨rfl, .inl rfl⟩
    obtain ⟨hc, hr, hlt⟩ := drop_cons_at hl
    have h1 : decide (((y : Nat) : Int) < ((s.size : Nat) : Int)) = true := by simp; omega
    rw [h1, atS_bs, hc]
    simp only [Option.bind_some, cond_true]
    by_cases h34 : c = 34
    · subst h34
      simp only [beq_self_eq_true, cond_true]
      rw [w64_succ (n := p) (by omega), subS_nat s (p + 1) y hp (by omega), w64_succ (n := y) (by omega)]
      right
      refine ⟨s.extract (p + 1) y, y + 1, rfl, by omega, by omega, ?_⟩
      rw [lex_textEnd, ofB_bs, hr]
    · have h2 : (c == 34) = false := by simpa using h34
      rw [h2]
      simp only [cond_false]
      by_cases h10 : c = 10
      · subst h10
        left
        exact ⟨lex_textBad _ _ (by omega) (by omega), .inl rfl⟩
      · have h3 : (c == 10) = false := by simpa using h10
        rw [h3]
        simp only [cond_false]
        by_cases hb : c < 32 ∨ c > 126
        · have h4 : (decide (c < 32) || decide (c > 126)) = true := by simpa using hb
          rw [h4]
          left
          exact ⟨lex_textBad _ _ h34 hb, .inr ⟨⟨y, 31⟩, (by show (31 : Int) ≠ 0; decide), rfl⟩⟩
        · have h4 : (decide (c < 32) || decide (c > 126)) = false := by simpa using hb
          rw [h4]
          simp only [cond_false, Option.bind_some]
          rw [w64_succ (n := y) (by omega)]
          have := ih (y + 1) m (by omega) (by omega) (by omega) (by omega)
          rw [ext_snoc hp hc, hr] at this
          have e : lexF (.text (bs (s.extract (p + 1) y))) (c :: r) = lexF (.text (bs (s.extract (p + 1) y) ++ [c])) r := by
            have := lex_text [c] (bs (s.extract (p + 1) y)) r (fun x hx => by rw [List.mem_singleton] at hx; subst hx; omega)
            exact this
          rw [e]
          exact this
theorem quoted_eq (n : Nat) (s : ByteArray) (hs : s.size ≤ 6000000) (hn : s.size < n) (p : Nat) (r : List Int) (hp : (bs s).drop p = 34 :: r) (z : Int) :
    (lexF .blank ((bs s).drop p) = none ∧ ∃ e : Tsexp_fault, e.f_e ≠ 0 ∧ gsexp_parser__quoted n s (p : Int) z = some (.pan e)) ∨
    ∃ (t : TTree) (y' : Nat), gsexp_parser__quoted n s (p : Int) z = some (.val (t, (y' : Int))) ∧ p < y' ∧ y' ≤ s.size ∧ lexF .blank ((bs s).drop p) = (lexF .blank ((bs s).drop y')).map (([.atom t] : List Tk) ++ ·) := by
  obtain ⟨hc, hr, hlt⟩ := drop_cons_at hp
  rw [bs_length] at hlt
  have e0 : bs (s.extract (p + 1) (p + 1)) = [] := by rw [bs_extract, Nat.sub_self]; rfl
  have := quoted_loop n s hs p s.size (p + 1) n (by omega) hn (by omega) (by omega)
  rw [e0, hr, ← lex_quote, ← hp] at this
  unfold gsexp_parser__quoted
  rw [w64_succ (n := p) (by omega)]
  rcases this with ⟨h1, h2 | ⟨e, he, h2⟩⟩ | ⟨w, y', h1, h2, h3, h4⟩
  · left
    rw [h2]
    exact ⟨h1, ⟨p, 31⟩, (by show (31 : Int) ≠ 0; decide), rfl⟩
  · left
    rw [h2]
    exact ⟨h1, e, he, rfl⟩
  · right
    rw [h1]
    exact ⟨_, y', rfl, h2, h3, h4⟩

/-! words and numbers -/
theorem run_loop3 (N : Nat) (s : ByteArray) (hs : s.size ≤ 6000000) : ∀ (k y m : Nat), s.size - y ≤ k → k < m → y ≤ s.size → gsexp_parser__run_L1 N s m (y : Int) = some (((y + (((bs s).drop y).takeWhile inR).length : Nat) : Int)) := by
  intro k
  induction k with
  | zero =>
    intro y m hk hm hy
    obtain ⟨m, rfl⟩ : ∃ m', m = m' + 1 := ⟨m - 1, by omega⟩
    have hlen := bs_length s
    rw [gsexp_parser__run_L1]
    have h1 : decide (((y : Nat) : Int) < ((s.size : Nat) : Int)) = false := by simp; omega
    rw [h1, List.drop_eq_nil_of_le (by omega)]
    rfl
  | succ k ih =>
    intro y m hk hm hy
    obtain ⟨m, rfl⟩ : ∃ m', m = m' + 1 := ⟨m - 1, by omega⟩
    have hlen := bs_length s
    rw [gsexp_parser__run_L1]
    rcases hl : (bs s).drop y with _ | ⟨c, r⟩
    · have := drop_nil_le hl
      have h1 : decide (((y : Nat) : Int) < ((s.size : Nat) : Int)) = false := by simp; omega
      rw [h1]
      rfl
    obtain ⟨hc, hr, hlt⟩ := drop_cons_at hl
    have hb : 0 ≤ c ∧ c < 256 := bs_byte (List.mem_of_getElem? hc)
    have h1 : decide (((y : Nat) : Int) < ((s.size : Nat) : Int)) = true := by simp; omega
    rw [h1, atS_bs, hc]
    simp only [Option.bind_some, cond_true]
    rw [within_eq N hb.1 hb.2]
    simp only [Option.bind_some]
    cases hi : inR c
    · rw [List.takeWhile_cons, hi]; rfl
    · rw [List.takeWhile_cons, hi, cond_true, w64_succ (by omega), ih (y + 1) m (by omega) (by omega) (by omega), hr]
      simp only [if_true, List.length_cons]
      congr 2; omega
theorem tw_take (p : Int → Bool) : ∀ (l : List Int), l.take (l.takeWhile p).length = l.takeWhile p
  | [] => rfl
  | c :: l => by
    rw [List.takeWhile_cons]
    cases h : p c
    · rfl
    · simp only [if_true, List.length_cons, List.take_succ_cons]; rw [tw_take p l]
theorem tw_drop (p : Int → Bool) : ∀ (l : List Int), l.drop (l.takeWhile p).length = l.dropWhile p
  | [] => rfl
  | c :: l => by
    rw [List.takeWhile_cons, List.dropWhile_cons]
    cases h : p c
    · rfl
    · simp only [if_true, List.length_cons, List.drop_succ_cons]; rw [tw_drop p l]
theorem tw_all (p : Int → Bool) : ∀ (l : List Int), ∀ c ∈ l.takeWhile p, p c = true
  | [], c, h => by cases h
  | d :: l, c, h => by
    rw [List.takeWhile_cons] at h
    cases hd : p d
    · rw [hd] at h; cases h
    · rw [hd, if_pos rfl] at h
      rcases List.mem_cons.1 h with rfl | h
      · exact hd
      · exact tw_all p l c h
theorem dw_head (p : Int → Bool) : ∀ (l : List Int) (c : Int) (r : List Int), l.dropWhile p = c :: r → p c = false
  | [], c, r, h => by cases h
  | d :: l, c, r, h => by
    rw [List.dropWhile_cons] at h
    cases hd : p d
    · rw [hd] at h; injection h with h _; rw [← h]; exact hd
    · rw [hd, if_pos rfl] at h; exact dw_head p l c r h
theorem numeric_eq (n : Nat) (s : ByteArray) (h : bs s ≠ []) : gsexp_numeric n s = some (numB (bs s)) := by
  unfold gsexp_numeric
  have e : atS s 0 = (bs s)[0]? := atS_bs s 0
  rw [e]
  rcases hl : bs s with _ | ⟨c, r⟩
  · exact absurd hl h
  · simp only [List.getElem?_cons_zero, Option.bind_some, numB]
    cases c == 45 <;> cases decide (c ≥ 48) <;> rfl
theorem number_eq (n : Nat) (s : ByteArray) (h : s.size ≤ 6000000) : ∃ v b, gsexp_number n s = some (v, b) ∧ numV s = if b = true then some v else none := by
  have key : ∃ v b, gsexp_number n s = some (v, b) := by
    unfold gsexp_number
    obtain ⟨v, e, ha⟩ : ∃ v e, atoiT s = some (v, e) := by
      unfold atoiT
      rw [if_pos (by omega)]
      cases Lib.atoiAll s.data.toList <;> exact ⟨_, _, rfl⟩
    rw [ha]
    simp only [Option.bind_some]
    cases hc : ((!e) && (decide (v ≥ (-999999999999999999)))) && (decide (v ≤ 999999999999999999))
    · exact ⟨_, _, rfl⟩
    · simp only [Bool.and_eq_true, decide_eq_true_eq] at hc
      have : itoaT v = some ⟨(Lib.itoa v).toArray⟩ := by unfold itoaT; rw [if_pos (by omega)]
      simp only [cond_true]
      rw [this]
      exact ⟨_, _, rfl⟩
  obtain ⟨v, b, hk⟩ := key
  refine ⟨v, b, hk, ?_⟩
  have hk' : gsexp_number 0 s = some (v, b) := hk
  unfold numV
  rw [hk']
  cases b <;> rfl
theorem run_eq (n : Nat) (s : ByteArray) (hs : s.size ≤ 6000000) (hn : s.size < n) (p : Nat) (c : Int) (r : List Int) (hp : (bs s).drop p = c :: r) (hc : c ≠ 32 ∧ c ≠ 10 ∧ c ≠ 59) (hc' : c ≠ 41 ∧ c ≠ 40 ∧ c ≠ 34) (z : Int) :
    (lexF .blank ((bs s).drop p) = none ∧ ∃ e : Tsexp_fault, e.f_e ≠ 0 ∧ gsexp_parser__run n s (p : Int) z = some (.pan e)) ∨
    ∃ (t : TTree) (y' : Nat), gsexp_parser__run n s (p : Int) z = some (.val (t, (y' : Int))) ∧ p < y' ∧ y' ≤ s.size ∧ lexF .blank ((bs s).drop p) = (lexF .blank ((bs s).drop y')).map (([.atom t] : List Tk) ++ ·) := by
  obtain ⟨hcc, hr, hlt⟩ := drop_cons_at hp
  rw [bs_length] at hlt
  have hlen : (bs s).length = s.size := bs_length s
  unfold gsexp_parser__run
  rw [run_loop3 n s hs s.size p n (by omega) hn (by omega)]
  simp only [Option.bind_some]
  have htw : (((bs s).drop p).takeWhile inR).length ≤ s.size - p := by
    have := (List.takeWhile_sublist inR (l := (bs s).drop p)).length_le
    rw [List.length_drop] at this; omega
  rw [subS_nat s p _ (by omega) (by omega)]
  simp only [Option.bind_some]
  have hw : bs (s.extract p (p + (((bs s).drop p).takeWhile inR).length)) = ((bs s).drop p).takeWhile inR := by
    rw [bs_extract, show p + (((bs s).drop p).takeWhile inR).length - p = (((bs s).drop p).takeWhile inR).length by omega, tw_take]
  cases hi : inR c
  · left
    have e0 : ((bs s).drop p).takeWhile inR = [] := by rw [hp, List.takeWhile_cons, hi]; rfl
    have e1 : s.extract p (p + (((bs s).drop p).takeWhile inR).length) = ByteArray.mk #[] := by rw [← bs_nil, hw, e0]
    rw [decide_eq_true e1]
    refine ⟨?_, ⟨p, 31⟩, (by show (31 : Int) ≠ 0; decide), rfl⟩
    rw [hp]
    exact lex_bad hi ⟨hc.1, hc.2.1, hc.2.2, hc'.2.1, hc'.1, hc'.2.2⟩ r
  · have e0 : ((bs s).drop p).takeWhile inR = c :: r.takeWhile inR := by rw [hp, List.takeWhile_cons, hi]; rfl
    have e1 : ¬ s.extract p (p + (((bs s).drop p).takeWhile inR).length) = ByteArray.mk #[] := by
      rw [← bs_nil, hw, e0]; simp
    have hnn : bs (s.extract p (p + (((bs s).drop p).takeWhile inR).length)) ≠ [] := by rw [hw, e0]; simp
    have hlx : lexF .blank ((bs s).drop p) = (atomR (((bs s).drop p).takeWhile inR)).bind fun t => (lexF .blank ((bs s).drop (p + (((bs s).drop p).takeWhile inR).length))).map (([t] : List Tk) ++ ·) := by
      rw [← List.drop_drop, tw_drop, ← lex_runEnd _ _ (dw_head inR _)]
      have h2 : (bs s).drop p = ((bs s).drop p).takeWhile inR ++ ((bs s).drop p).dropWhile inR := (List.takeWhile_append_dropWhile).symm
      conv => lhs; rw [h2, e0]
      rw [e0, List.cons_append, lex_word hi, lex_run _ _ _ (tw_all inR r)]
      rfl
    rw [hlx]
    rw [decide_eq_false e1]
    simp only [cond_false, Option.bind_some]
    rw [numeric_eq n _ hnn, hw]
    simp only [Option.bind_some]
    have hpos : 0 < (((bs s).drop p).takeWhile inR).length := by rw [e0]; simp
    have hof : ofB (((bs s).drop p).takeWhile inR) = s.extract p (p + (((bs s).drop p).takeWhile inR).length) := by rw [← hw, ofB_bs]; rw [hw]
    unfold atomR
    cases hnb : numB (((bs s).drop p).takeWhile inR)
    · right
      rw [if_neg (by simp)]
      refine ⟨_, p + (((bs s).drop p).takeWhile inR).length, rfl, by omega, by omega, ?_⟩
      rw [hof]; rfl
    · rw [if_pos rfl, hof]
      simp only [Bool.not_true, cond_false]
      have hsz : (s.extract p (p + (((bs s).drop p).takeWhile inR).length)).size ≤ 6000000 := by
        rw [← bs_length, hw]; omega
      obtain ⟨v, b, k1, k2⟩ := number_eq n _ hsz
      rw [k1, k2]
      cases b
      · left
        exact ⟨rfl, ⟨p, 31⟩, (by show (31 : Int) ≠ 0; decide), rfl⟩
      · right
        exact ⟨_, p + (((bs s).drop p).takeWhile inR).length, rfl, by omega, by omega, rfl⟩
end Go.DM
namespace Go.DM
open Go
set_option maxRecDepth 100000

def fullX (stk : List (List TTree)) (acc : List TTree) (n : Nat) (l : List Int) : Option (List TTree × Nat) := (lexF .blank l).bind (gram stk acc n)
section
variable {stk : List (List TTree)} {acc : List TTree} {n : Nat} {l l' : List Int}
theorem full_none (h : lexF .blank l = none) : fullX stk acc n l = none := by unfold fullX; rw [h]; rfl
theorem full_same (h : lexF .blank l = lexF .blank l') : fullX stk acc n l = fullX stk acc n l' := by unfold fullX; rw [h]
theorem full_atom {t : TTree} (h : lexF .blank l = (lexF .blank l').map (([.atom t] : List Tk) ++ ·)) : fullX stk acc n l = if 65536 < n + 1 then none else fullX stk (acc ++ [t]) (n + 1) l' := by
  unfold fullX
  rw [h]
  cases lexF .blank l' with
  | none => simp
  | some ts => simp only [Option.map_some, Option.bind_some, List.singleton_append]; rw [gram_atom]
theorem full_open : fullX stk acc n (40 :: l) = if 65536 < n + 1 ∨ 32 < stk.length + 1 then none else fullX (acc :: stk) [] (n + 1) l := by
  unfold fullX
  rw [lex_open]
  cases lexF .blank l with
  | none => simp
  | some ts => simp only [Option.map_some, Option.bind_some, List.singleton_append]; rw [gram_opn]
theorem full_close0 : fullX [] acc n (41 :: l) = none := by
  unfold fullX
  rw [lex_close]
  cases lexF .blank l with
  | none => rfl
  | some ts => simp only [Option.map_some, Option.bind_some, List.singleton_append]; rw [gram]
theorem full_close {p : List TTree} : fullX (p :: stk) acc n (41 :: l) = fullX stk (p ++ [.mk 4 nilB3 0 acc]) n l := by
  unfold fullX
  rw [lex_close]
  cases lexF .blank l with
  | none => rfl
  | some ts => simp only [Option.map_some, Option.bind_some, List.singleton_append]; rw [gram]
theorem full_nil0 : fullX [] acc n [] = some (acc, n) := by
  show gram [] acc n [] = _; rw [gram]
theorem full_nil {p : List TTree} : fullX (p :: stk) acc n [] = none := by
  show gram (p :: stk) acc n [] = _; rw [gram]
end
/-- what a list that was read is, to those around it -/
def LVal (s : ByteArray) : List (List TTree) → List TTree → Nat → Nat → List TTree → Nat → Nat → Prop
  | [], acc, n, y, out, _, n' => fullX [] acc n ((bs s).drop y) = some (out, n')
  | p :: q, acc, n, y, out, y', n' => fullX (p :: q) acc n ((bs s).drop y) = fullX q (p ++ [.mk 4 nilB3 0 out]) n' ((bs s).drop y')
def LSpec (s : ByteArray) (stk : List (List TTree)) (acc : List TTree) (n y : Nat) (res : Option (LR Unit (PR (List TTree × Int × Int) Tsexp_fault))) : Prop :=
  (∃ e : Tsexp_fault, e.f_e ≠ 0 ∧ res = some (.ret (.pan e)) ∧ fullX stk acc n ((bs s).drop y) = none) ∨
  (∃ (out : List TTree) (y' n' : Nat), res = some (.ret (.val (out, (y' : Int), (n' : Int)))) ∧ y ≤ y' ∧ y' ≤ s.size ∧ n' ≤ 65536 ∧ LVal s stk acc n y out y' n')
theorem LVal.of {s : ByteArray} {stk : List (List TTree)} {acc acc1 out : List TTree} {n n1 y y1 y' n' : Nat} (h : fullX stk acc n ((bs s).drop y) = fullX stk acc1 n1 ((bs s).drop y1)) (g : LVal s stk acc1 n1 y1 out y' n') : LVal s stk acc n y out y' n' := by
  cases stk with
  | nil => exact h.trans g
  | cons p q => exact h.trans g
theorem LSpec.of {s : ByteArray} {stk : List (List TTree)} {acc acc1 : List TTree} {n n1 y y1 : Nat} {res : Option (LR Unit (PR (List TTree × Int × Int) Tsexp_fault))} (hy : y ≤ y1) (h : fullX stk acc n ((bs s).drop y) = fullX stk acc1 n1 ((bs s).drop y1)) (g : LSpec s stk acc1 n1 y1 res) : LSpec s stk acc n y res := by
  rcases g with ⟨e, g1, g2, g3⟩ | ⟨out, y', n', g1, g2, g3, g4, g5⟩
  · exact .inl ⟨e, g1, g2, h.trans g3⟩
  · exact .inr ⟨out, y', n', g1, by omega, g3, g4, g5.of h⟩

theorem list_loop3 (N : Nat) (s : ByteArray) (hs : s.size ≤ 262144) (hN : s.size < N) : ∀ (k y m rf : Nat) (stk : List (List TTree)) (acc : List TTree) (n : Nat), s.size - y ≤ k → k ≤ s.size → k < m → k ≤ rf → y ≤ s.size → stk.length ≤ 32 → n ≤ 65536 → acc.length ≤ y →
    LSpec s stk acc n y (gsexp_parser__list_L1 N (gsexp_parser__list_rec N rf) s ((stk.length : Nat) : Int) m acc (y : Int) (n : Int)) := by
  intro k
  induction k with
  | zero =>
    intro y m rf stk acc n hk hks hm hrf hy hst hn hac
    obtain ⟨m, rfl⟩ : ∃ m', m = m' + 1 := ⟨m - 1, by omega⟩
    have hlen := bs_length s
    rw [gsexp_parser__list_L1]
    obtain ⟨y1, h1, h2, h3, h4, h5⟩ := skip_eq N s (by omega) hN y hy (n : Int)
    have hy1 : y1 = s.size := by omega
    subst hy1
    rw [h1]
    simp only [Option.bind_some, beq_self_eq_true, cond_true]
    have hd : (bs s).drop s.size = [] := List.drop_eq_nil_of_le (by omega)
    rw [hd] at h4
    cases stk with
    | nil =>
      right
      refine ⟨acc, s.size, n, rfl, h2, h3, hn, ?_⟩
      show fullX [] acc n _ = _
      rw [full_same h4, full_nil0]
    | cons p q =>
      left
      have : decide (((((p :: q).length : Nat) : Int)) > 0) = true := decide_eq_true (by rw [List.length_cons]; omega)
      rw [this]
      exact ⟨⟨s.size, 31⟩, (by show (31 : Int) ≠ 0; decide), rfl, by rw [full_same h4, full_nil]⟩
  | succ k ih =>
    intro y m rf stk acc n hk hks hm hrf hy hst hn hac
    obtain ⟨m, rfl⟩ : ∃ m', m = m' + 1 := ⟨m - 1, by omega⟩
    obtain ⟨rf, rfl⟩ : ∃ m', rf = m' + 1 := ⟨rf - 1, by omega⟩
    have hlen := bs_length s
    rw [gsexp_parser__list_L1]
    obtain ⟨y1, h1, h2, h3, h4, h5⟩ := skip_eq N s (by omega) hN y hy (n : Int)
    rw [h1]
    simp only [Option.bind_some]
    rcases hl : (bs s).drop y1 with _ | ⟨c, r⟩
    · have := drop_nil_le hl
      have hy1 : y1 = s.size := by omega
      subst hy1
      simp only [beq_self_eq_true, cond_true]
      rw [hl] at h4
      cases stk with
      | nil =>
        right
        refine ⟨acc, s.size, n, rfl, h2, h3, hn, ?_⟩
        show fullX [] acc n _ = _
        rw [full_same h4, full_nil0]
      | cons p q =>
        left
        have : decide (((((p :: q).length : Nat) : Int)) > 0) = true := decide_eq_true (by rw [List.length_cons]; omega)
        rw [this]
        exact ⟨⟨s.size, 31⟩, (by show (31 : Int) ≠ 0; decide), rfl, by rw [full_same h4, full_nil]⟩
    obtain ⟨hc, hr, hlt⟩ := drop_cons_at hl
    obtain ⟨c1, c2, c3⟩ := h5 c r hl
    have hne : (((y1 : Nat) : Int) == ((s.size : Nat) : Int)) = false := by simp; omega
    rw [hne]
    simp only [cond_false]
    rw [atS_bs, hc]
    simp only [Option.bind_some]
    have hfs : ∀ (stk : List (List TTree)) (acc : List TTree) (n : Nat), fullX stk acc n ((bs s).drop y) = fullX stk acc n ((bs s).drop y1) := fun _ _ _ => full_same h4
    refine LSpec.of h2 (hfs stk acc n) ?_
    by_cases h41 : c = 41
    · subst h41
      simp only [beq_self_eq_true, cond_true]
      cases stk with
      | nil =>
        left
        exact ⟨⟨y1, 31⟩, (by show (31 : Int) ≠ 0; decide), rfl, by rw [hl, full_close0]⟩
      | cons p q =>
        right
        have : (((((p :: q).length : Nat) : Int)) == 0) = false := by rw [beq_eq_false_iff_ne, List.length_cons]; omega
        rw [this]
        simp only [cond_false, Option.bind_some]
        rw [w64_succ (n := y1) (by omega)]
        refine ⟨acc, y1 + 1, n, rfl, by omega, by omega, hn, ?_⟩
        show fullX _ _ _ _ = _
        rw [hl, full_close, hr]
    have e41 : (c == 41) = false := by simpa using h41
    rw [e41]
    simp only [cond_false]
    by_cases h40 : c = 40
    · subst h40
      simp only [beq_self_eq_true, cond_true]
      rw [w64_succ (n := stk.length) (by omega)]
      unfold gsexp_parser__count
      rw [w64_succ (n := n) (by omega)]
      by_cases hov : 65536 < n + 1 ∨ 32 < stk.length + 1
      · have : (decide (((n + 1 : Nat) : Int) > 65536) || decide (((stk.length + 1 : Nat) : Int) > 32)) = true := by simp; omega
        rw [this]
        left
        exact ⟨⟨y1, 33⟩, (by show (33 : Int) ≠ 0; decide), rfl, by rw [hl, full_open, if_pos hov]⟩
      · have : (decide (((n + 1 : Nat) : Int) > 65536) || decide (((stk.length + 1 : Nat) : Int) > 32)) = false := by simp; omega
        rw [this]
        simp only [cond_false, Option.bind_some]
        rw [w64_succ (n := y1) (by omega), gsexp_parser__list_rec]
        have hin := ih (y1 + 1) N rf (acc :: stk) [] (n + 1) (by omega) (by omega) (by omega) (by omega) (by omega) (by rw [List.length_cons]; omega) (by omega) (by simp)
        rw [List.length_cons] at hin
        have hop : fullX stk acc n ((bs s).drop y1) = fullX (acc :: stk) [] (n + 1) ((bs s).drop (y1 + 1)) := by rw [hl, full_open, if_neg hov, hr]
        rcases hin with ⟨e, g1, g2, g3⟩ | ⟨out, y2, n2, g1, g2, g3, g4, g5⟩
        · rw [g2]
          left
          exact ⟨e, g1, rfl, by rw [hop, g3]⟩
        · rw [g1]
          simp only [Option.bind_some]
          rw [appL_ok (by rw [List.length_singleton]; omega) (by omega)]
          simp only [Option.bind_some]
          have h6 := ih y2 m (rf + 1) stk (acc ++ [.mk 4 nilB3 0 out]) n2 (by omega) (by omega) (by omega) (by omega) g3 hst g4 (by rw [List.length_append, List.length_singleton]; omega)
          exact LSpec.of (by omega) (hop.trans g5) h6
    have e40 : (c == 40) = false := by simpa using h40
    rw [e40]
    simp only [cond_false]
    have tail : ∀ (t : TTree) (y2 : Nat), y1 < y2 → y2 ≤ s.size → lexF .blank ((bs s).drop y1) = (lexF .blank ((bs s).drop y2)).map (([.atom t] : List Tk) ++ ·) →
        LSpec s stk acc n y1 ((gsexp_parser__counted N s (y2 : Int) (n : Int) (y1 : Int)).bind fun v => match v with | .val r484 => ((appL 56 acc ([t] : List TTree)).bind fun l491 => gsexp_parser__list_L1 N (gsexp_parser__list_rec N (rf + 1)) s ((stk.length : Nat) : Int) m l491 (y2 : Int) r484) | .pan p498 => some (.ret (.pan p498))) := by
      intro t y2 k1 k2 k3
      have hat := full_atom (stk := stk) (acc := acc) (n := n) k3
      unfold gsexp_parser__counted
      rw [w64_succ (n := n) (by omega)]
      by_cases hov : 65536 < n + 1
      · have : decide (((n + 1 : Nat) : Int) > 65536) = true := by simp; omega
        rw [this]
        left
        exact ⟨⟨y1, 33⟩, (by show (33 : Int) ≠ 0; decide), rfl, by rw [hat, if_pos hov]⟩
      · have : decide (((n + 1 : Nat) : Int) > 65536) = false := by simp; omega
        rw [this]
        simp only [cond_false, Option.bind_some]
        rw [appL_ok (by rw [List.length_singleton]; omega) (by omega)]
        simp only [Option.bind_some]
        rw [if_neg hov] at hat
        have h6 := ih y2 m (rf + 1) stk (acc ++ [t]) (n + 1) (by omega) (by omega) (by omega) (by omega) k2 hst (by omega) (by rw [List.length_append, List.length_singleton]; omega)
        exact LSpec.of (by omega) hat h6
    by_cases h34 : c = 34
    · subst h34
      simp only [beq_self_eq_true, cond_true]
      rcases quoted_eq N s (by omega) hN y1 r hl (n : Int) with ⟨k1, e, k2, k3⟩ | ⟨t, y2, k1, k2, k3, k4⟩
      · rw [k3]
        left
        exact ⟨e, k2, rfl, full_none k1⟩
      · rw [k1]
        simp only [Option.bind_some]
        exact tail t y2 k2 k3 k4
    have e34 : (c == 34) = false := by simpa using h34
    rw [e34]
    simp only [cond_false]
    rcases run_eq N s (by omega) hN y1 c r hl ⟨c1, c2, c3⟩ ⟨h41, h40, h34⟩ (n : Int) with ⟨k1, e, k2, k3⟩ | ⟨t, y2, k1, k2, k3, k4⟩
    · rw [k3]
      left
      exact ⟨e, k2, rfl, full_none k1⟩
    · rw [k1]
      simp only [Option.bind_some]
      exact tail t y2 k2 k3 k4

/-- WHAT Parse COMES TO. -/
theorem Parse_eq (n : Nat) (s : ByteArray) (hn : 262200 ≤ n) : ∃ x a e, gsexp_Parse n s = some (x, a, e) ∧
    ((e = 0 ∧ a = 0 ∧ s.size ≤ 262144 ∧ parseX (bs s) = some x) ∨ (e ≠ 0 ∧ x = [] ∧ (s.size ≤ 262144 → parseX (bs s) = none))) := by
  unfold gsexp_Parse
  by_cases hs : s.size > 262144
  · have : decide (((s.size : Nat) : Int) > 262144) = true := by simp; omega
    rw [this]
    exact ⟨_, _, _, rfl, .inr ⟨(by show (33 : Int) ≠ 0; decide), rfl, fun h => absurd h (by omega)⟩⟩
  · have : decide (((s.size : Nat) : Int) > 262144) = false := by simp; omega
    rw [this]
    simp only [cond_false]
    obtain ⟨rf, rfl⟩ : ∃ m', n = m' + 1 := ⟨n - 1, by omega⟩
    have h := list_loop3 (rf + 1) s (by omega) (by omega) s.size 0 (rf + 1) rf [] [] 0 (by omega) (by omega) (by omega) (by omega) (by omega) (by simp) (by omega) (by simp)
    unfold gsexp_parser__list
    rw [gsexp_parser__list_rec]
    have e0 : ((([] : List (List TTree)).length : Nat) : Int) = 0 := rfl
    have e1 : (((0 : Nat) : Nat) : Int) = 0 := rfl
    rw [e0, e1] at h
    have hf : parseX (bs s) = (fullX [] [] 0 ((bs s).drop 0)).map (·.1) := rfl
    rcases h with ⟨e, g1, g2, g3⟩ | ⟨out, y2, n2, g1, g2, g3, g4, g5⟩
    · rw [g2]
      refine ⟨[], e.f_at, e.f_e, rfl, .inr ⟨g1, rfl, fun _ => ?_⟩⟩
      rw [hf, g3]; rfl
    · rw [g1]
      refine ⟨out, 0, 0, rfl, .inl ⟨rfl, rfl, by omega, ?_⟩⟩
      have g6 : fullX [] [] 0 ((bs s).drop 0) = some (out, n2) := g5
      rw [hf, g6]; rfl
theorem Parse_ok (n : Nat) (s : ByteArray) (hn : 262200 ≤ n) (hs : s.size ≤ 262144) {x : List TTree} (h : parseX (bs s) = some x) : gsexp_Parse n s = some (x, 0, 0) := by
  obtain ⟨y, a, e, h1, h2⟩ := Parse_eq n s hn
  rcases h2 with ⟨rfl, rfl, _, h3⟩ | ⟨_, _, h3⟩
  · rw [h] at h3; cases h3; exact h1
  · rw [h3 hs] at h; cases h
theorem alive3_eq (k : Nat) : gdovetaillaw03_sexpAlive (k + 300) = some true := by kernel_rfl
end Go.DM
namespace Go.DM
open Go
set_option maxRecDepth 100000

mutual
def szT : TTree → Nat
  | .mk _ w _ l => szL l + 1 + w.size
def szL : List TTree → Nat
  | [] => 0
  | t :: r => szT t + szL r
end
theorem szT_eq (t : TTree) : szT t = szL t.f_Kids + 1 + t.f_Word.size := by obtain ⟨k, w, v, l⟩ := t; rw [szT]; rfl
theorem cntT_eq (t : TTree) : cntT t = cntL t.f_Kids + 1 := by obtain ⟨k, w, v, l⟩ := t; rw [cntT]; rfl
theorem deepT_eq (t : TTree) : deepT t = if t.f_Kind = 4 then deepL t.f_Kids + 1 else 0 := by obtain ⟨k, w, v, l⟩ := t; rw [deepT]; rfl
theorem szL_drop {l : List TTree} {y : Nat} (h : y < l.length) : szL (l.drop y) = szT l[y] + szL (l.drop (y + 1)) := by
  rw [List.drop_eq_getElem_cons h, szL]
theorem szL_mem {x : TTree} : ∀ {l : List TTree}, x ∈ l → szT x ≤ szL l
  | t :: r, h => by
    rw [szL]
    rcases List.mem_cons.1 h with rfl | h
    · omega
    · have := szL_mem h; omega
theorem len_szL : ∀ (l : List TTree), l.length ≤ szL l
  | [] => by rw [szL]; simp
  | t :: r => by
    have := len_szL r
    rw [szL, szT_eq, List.length_cons]; omega
mutual
theorem cnt_szT : ∀ (t : TTree), cntT t ≤ szT t
  | .mk k w v l => by rw [cntT, szT]; have := cnt_szL l; omega
theorem cnt_szL : ∀ (l : List TTree), cntL l ≤ szL l
  | [] => by rw [cntL]; omega
  | t :: r => by rw [cntL, szL]; have := cnt_szT t; have := cnt_szL r; omega
end
mutual
theorem deep_szT : ∀ (t : TTree), deepT t ≤ szT t
  | .mk k w v l => by rw [deepT, szT]; have := deep_szL l; split <;> omega
theorem deep_szL : ∀ (l : List TTree), deepL l ≤ szL l
  | [] => by rw [deepL]; omega
  | t :: r => by rw [deepL, szL]; have := deep_szT t; have := deep_szL r; omega
end
mutual
theorem sz_tkT : ∀ (t : TTree), FormT t → szT t ≤ tkzs (toksT t)
  | .mk k w v l, h => by
    rw [FormT] at h
    rcases h with ⟨rfl, rfl, rfl, hl⟩ | ⟨hk, ha⟩
    · have := sz_tkL l hl
      rw [toksT, if_pos rfl, szT, tkzs, tkzs_app]
      have e : nilB3.size = 0 := rfl
      simp only [tkz, tkzs]; omega
    · have hkid := ha.kids
      simp only [TTree.f_Kids] at hkid
      subst hkid
      rw [toksT, if_neg hk, szT, szL, tkzs, tkzs, tkz]
      show 0 + 1 + w.size ≤ (if k = 2 then 23 else w.size + 3) + 0
      by_cases h2 : k = 2
      · rw [if_pos h2]
        rcases ha with ⟨h, _⟩ | ⟨_, h, _⟩ | ⟨h, _⟩
        · simp only [TTree.f_Kind] at h; omega
        · simp only [TTree.f_Word] at h; subst h
          have e : nilB3.size = 0 := rfl
          omega
        · simp only [TTree.f_Kind] at h; omega
      · rw [if_neg h2]; omega
theorem sz_tkL : ∀ (l : List TTree), FormL l → szL l ≤ tkzs (toksL l)
  | [], _ => by rw [szL]; omega
  | t :: r, h => by
    rw [FormL] at h
    have := sz_tkT t h.1
    have := sz_tkL r h.2
    rw [szL, toksL, tkzs_app]; omega
end

/-! Same -/
theorem same3 (N : Nat) : ∀ (k : Nat) (l : List TTree), szL l < k → szL l < N → szL l ≤ 8000000 → gdovetailref03_Same_rec N k l l = some true := by
  intro k
  induction k with
  | zero => intro l h _ _; omega
  | succ k ihk =>
    intro l hk hN h8
    have hll := len_szL l
    have loop : ∀ (j y m : Nat), l.length - y ≤ j → j < m → y ≤ l.length → gdovetailref03_Same_L1 N (gdovetailref03_Same_rec N k) l l m (y : Int) = some (.out ()) := by
      intro j
      induction j with
      | zero =>
        intro y m hj hm hy
        obtain ⟨m, rfl⟩ : ∃ m', m = m' + 1 := ⟨m - 1, by omega⟩
        rw [gdovetailref03_Same_L1]
        have h1 : decide (((y : Nat) : Int) < ((l.length : Nat) : Int)) = false := by simp; omega
        rw [h1]; rfl
      | succ j ih =>
        intro y m hj hm hy
        obtain ⟨m, rfl⟩ : ∃ m', m = m' + 1 := ⟨m - 1, by omega⟩
        rw [gdovetailref03_Same_L1]
        by_cases hlt : y < l.length
        · have h1 : decide (((y : Nat) : Int) < ((l.length : Nat) : Int)) = true := by simp; omega
          have hm1 := szL_mem (List.getElem_mem hlt)
          rw [szT_eq] at hm1
          rw [h1, atL_nat, List.getElem?_eq_getElem hlt]
          simp only [Option.bind_some, cond_true, bne_self_eq_false, cond_false, decide_true, Bool.not_true]
          rw [ihk l[y].f_Kids (by omega) (by omega) (by omega)]
          simp only [Option.bind_some, Bool.not_true, cond_false]
          rw [w64_succ (by omega)]
          exact ih (y + 1) m (by omega) (by omega) (by omega)
        · have h1 : decide (((y : Nat) : Int) < ((l.length : Nat) : Int)) = false := by simp; omega
          rw [h1]; rfl
    rw [gdovetailref03_Same_rec]
    have := loop l.length 0 N (by omega) (by omega) (by omega)
    rw [show (((0 : Nat) : Nat) : Int) = 0 from rfl] at this
    rw [this]
    simp
theorem Same_refl3 (n : Nat) (l : List TTree) (h : szL l < n) (h8 : szL l ≤ 8000000) : gdovetailref03_Same n l l = some true := same3 n n l h h h8

/-! Count, Deep -/
def kidsN : List TTree → Nat
  | [] => 0
  | t :: r => cntL t.f_Kids + kidsN r
theorem cntL_kids : ∀ (l : List TTree), cntL l = l.length + kidsN l
  | [] => by rw [cntL, kidsN]; rfl
  | t :: r => by rw [cntL, kidsN, cntT_eq, cntL_kids r, List.length_cons]; omega
theorem kidsN_drop {l : List TTree} {y : Nat} (h : y < l.length) : kidsN (l.drop y) = cntL l[y].f_Kids + kidsN (l.drop (y + 1)) := by
  rw [List.drop_eq_getElem_cons h, kidsN]
theorem count3 (N : Nat) : ∀ (k : Nat) (l : List TTree), szL l < k → szL l < N → szL l ≤ 8000000 → gdovetailref03_Count_rec N k l = some ((cntL l : Nat) : Int) := by
  intro k
  induction k with
  | zero => intro l h _ _; omega
  | succ k ihk =>
    intro l hk hN h8
    have hll := len_szL l
    have loop : ∀ (j y m v : Nat), l.length - y ≤ j → j < m → y ≤ l.length → v + kidsN (l.drop y) ≤ 8000000 → gdovetailref03_Count_L1 N (gdovetailref03_Count_rec N k) l m (v : Int) (y : Int) = some ((v + kidsN (l.drop y) : Nat) : Int) := by
      intro j
      induction j with
      | zero =>
        intro y m v hj hm hy hv
        obtain ⟨m, rfl⟩ : ∃ m', m = m' + 1 := ⟨m - 1, by omega⟩
        rw [gdovetailref03_Count_L1]
        have h1 : decide (((y : Nat) : Int) < ((l.length : Nat) : Int)) = false := by simp; omega
        rw [h1, List.drop_eq_nil_of_le (by omega), kidsN]; rfl
      | succ j ih =>
        intro y m v hj hm hy hv
        obtain ⟨m, rfl⟩ : ∃ m', m = m' + 1 := ⟨m - 1, by omega⟩
        rw [gdovetailref03_Count_L1]
        by_cases hlt : y < l.length
        · have h1 : decide (((y : Nat) : Int) < ((l.length : Nat) : Int)) = true := by simp; omega
          have hm1 := szL_mem (List.getElem_mem hlt)
          rw [szT_eq] at hm1
          rw [kidsN_drop hlt] at hv ⊢
          rw [h1, atL_nat, List.getElem?_eq_getElem hlt]
          simp only [Option.bind_some, cond_true]
          rw [ihk l[y].f_Kids (by omega) (by omega) (by omega)]
          simp only [Option.bind_some]
          rw [w64_succ (n := y) (by omega), show ((v : Int) + ((cntL l[y].f_Kids : Nat) : Int)) = ((v + cntL l[y].f_Kids : Nat) : Int) by omega, w64 (n := ((v + cntL l[y].f_Kids : Nat) : Int)) (by omega) (by omega),
            ih (y + 1) m (v + cntL l[y].f_Kids) (by omega) (by omega) (by omega) (by omega), Nat.add_assoc]
        · have h1 : decide (((y : Nat) : Int) < ((l.length : Nat) : Int)) = false := by simp; omega
          rw [h1, List.drop_eq_nil_of_le (by omega), kidsN]; rfl
    rw [gdovetailref03_Count_rec]
    have h2 := cnt_szL l
    rw [cntL_kids] at h2
    have := loop l.length 0 N l.length (by omega) (by omega) (by omega) (by rw [List.drop_zero]; omega)
    rw [show (((0 : Nat) : Nat) : Int) = 0 from rfl, List.drop_zero] at this
    rw [this, cntL_kids]; rfl
theorem Count_eq3 (n : Nat) (l : List TTree) (h : szL l < n) (h8 : szL l ≤ 8000000) : gdovetailref03_Count n l = some ((cntL l : Nat) : Int) := count3 n n l h h h8
theorem deepL_drop {l : List TTree} {y : Nat} (h : y < l.length) : deepL (l.drop y) = max (deepT l[y]) (deepL (l.drop (y + 1))) := by
  rw [List.drop_eq_getElem_cons h, deepL]
theorem deep3 (N : Nat) : ∀ (k : Nat) (l : List TTree), szL l < k → szL l < N → szL l ≤ 8000000 → gdovetailref03_Deep_rec N k l = some ((deepL l : Nat) : Int) := by
  intro k
  induction k with
  | zero => intro l h _ _; omega
  | succ k ihk =>
    intro l hk hN h8
    have hll := len_szL l
    have loop : ∀ (j y m v : Nat), l.length - y ≤ j → j < m → y ≤ l.length → gdovetailref03_Deep_L1 N (gdovetailref03_Deep_rec N k) l m (v : Int) (y : Int) = some ((max v (deepL (l.drop y)) : Nat) : Int) := by
      intro j
      induction j with
      | zero =>
        intro y m v hj hm hy
        obtain ⟨m, rfl⟩ : ∃ m', m = m' + 1 := ⟨m - 1, by omega⟩
        rw [gdovetailref03_Deep_L1]
        have h1 : decide (((y : Nat) : Int) < ((l.length : Nat) : Int)) = false := by simp; omega
        rw [h1, List.drop_eq_nil_of_le (by omega), deepL, Nat.max_eq_left (by omega)]; rfl
      | succ j ih =>
        intro y m v hj hm hy
        obtain ⟨m, rfl⟩ : ∃ m', m = m' + 1 := ⟨m - 1, by omega⟩
        rw [gdovetailref03_Deep_L1]
        by_cases hlt : y < l.length
        · have h1 : decide (((y : Nat) : Int) < ((l.length : Nat) : Int)) = true := by simp; omega
          have hm1 := szL_mem (List.getElem_mem hlt)
          rw [szT_eq] at hm1
          rw [deepL_drop hlt, h1, atL_nat, List.getElem?_eq_getElem hlt, deepT_eq]
          simp only [Option.bind_some, cond_true]
          by_cases h4 : l[y].f_Kind = 4
          · have h5 : (l[y].f_Kind == 4) = true := by simpa using h4
            rw [h5, if_pos h4, ihk l[y].f_Kids (by omega) (by omega) (by omega)]
            simp only [Option.bind_some, cond_true]
            have hd := deep_szL l[y].f_Kids
            rw [w64_succ (n := y) (by omega), w64_succ (n := deepL l[y].f_Kids) (by omega)]
            by_cases hg : v < deepL l[y].f_Kids + 1
            · have : decide (((deepL l[y].f_Kids + 1 : Nat) : Int) > ((v : Nat) : Int)) = true := decide_eq_true (by omega)
              rw [this]
              simp only [cond_true, Option.bind_some]
              rw [ih (y + 1) m (deepL l[y].f_Kids + 1) (by omega) (by omega) (by omega)]
              congr 2 <;> omega
            · have : decide (((deepL l[y].f_Kids + 1 : Nat) : Int) > ((v : Nat) : Int)) = false := decide_eq_false (by omega)
              rw [this]
              simp only [cond_false, Option.bind_some]
              rw [ih (y + 1) m v (by omega) (by omega) (by omega)]
              congr 2 <;> omega
          · have h5 : (l[y].f_Kind == 4) = false := by simpa using h4
            rw [h5, if_neg h4]
            simp only [Option.bind_some, cond_false]
            rw [w64_succ (n := y) (by omega), ih (y + 1) m v (by omega) (by omega) (by omega)]
            congr 2 <;> omega
        · have h1 : decide (((y : Nat) : Int) < ((l.length : Nat) : Int)) = false := by simp; omega
          rw [h1, List.drop_eq_nil_of_le (by omega), deepL, Nat.max_eq_left (by omega)]; rfl
    rw [gdovetailref03_Deep_rec]
    have := loop l.length 0 N 0 (by omega) (by omega) (by omega)
    rw [show (((0 : Nat) : Nat) : Int) = 0 from rfl, List.drop_zero] at this
    rw [this, Nat.max_eq_right (by omega), Option.bind_some]
theorem Deep_eq3 (n : Nat) (l : List TTree) (h : szL l < n) (h8 : szL l ≤ 8000000) : gdovetailref03_Deep n l = some ((deepL l : Nat) : Int) := deep3 n n l h h h8

/-! a text's runes -/
theorem decode_lt3 {s : ByteArray} {i : Nat} {c : Int} (h : (bs s)[i]? = some c) (hc : c < 128) : Utf8.decode s i = (c.toNat, 1) := by
  have hlt := (List.getElem?_eq_some_iff.1 h).1
  rw [bs_length] at hlt
  have hg : ((s.get! (i + 0)).toNat : Int) = c := by
    obtain ⟨⟨l⟩⟩ := s
    simp only [bs, List.getElem?_map, Option.map_eq_some_iff] at h
    obtain ⟨b, hb, rfl⟩ := h
    have : (ByteArray.mk ⟨l⟩).get! (i + 0) = b := by
      show (⟨l⟩ : Array UInt8)[i + 0]! = b
      simp at hb ⊢
      rw [hb]; rfl
    rw [this]
  unfold Utf8.decode
  simp only
  rw [if_pos (by omega)]
  congr 1; omega
theorem decode_ge3 {s : ByteArray} {i : Nat} {c : Int} (h : (bs s)[i]? = some c) (hc : 128 ≤ c) : 128 ≤ (Utf8.decode s i).1 := by
  have hlt := (List.getElem?_eq_some_iff.1 h).1
  rw [bs_length] at hlt
  have hg : ((s.get! (i + 0)).toNat : Int) = c := by
    obtain ⟨⟨l⟩⟩ := s
    simp only [bs, List.getElem?_map, Option.map_eq_some_iff] at h
    obtain ⟨b, hb, rfl⟩ := h
    have : (ByteArray.mk ⟨l⟩).get! (i + 0) = b := by
      show (⟨l⟩ : Array UInt8)[i + 0]! = b
      simp at hb ⊢
      rw [hb]; rfl
    rw [this]
  unfold Utf8.decode
  simp only
  rw [if_neg (by omega)]
  have hre : 128 ≤ Utf8.runeError := by decide
  split
  · split
    · simp only; omega
    · exact hre
  split
  · split
    · rename_i hh; rw [Bool.and_eq_true, decide_eq_true_eq] at hh; simp only; omega
    · exact hre
  split
  · split
    · rename_i hh; rw [Bool.and_eq_true, decide_eq_true_eq] at hh; simp only; omega
    · exact hre
  · exact hre
theorem sound1_3 (n : Nat) (c : Int) (h0 : 0 ≤ c) (h1 : c < 128) : gsexp_sound_1 n c = some (!inR c) := by
  unfold gsexp_sound_1
  by_cases h : c > 126
  · rw [decide_eq_true h]
    have : inR c = false := by
      cases hi : inR c
      · rfl
      · have := (inR_iff c).1 hi; omega
    rw [this]; rfl
  · rw [decide_eq_false h, wrap_u8 (by omega) (by omega)]
    simp only [cond_false]
    rw [within_eq n h0 (by omega)]; rfl
theorem sound1_3' (n : Nat) (c : Int) (h1 : 128 ≤ c) : gsexp_sound_1 n c = some true := by
  unfold gsexp_sound_1
  rw [decide_eq_true (by omega : c > 126)]; rfl
theorem idx41_loop (N : Nat) (s : ByteArray) : ∀ (k y m : Nat), s.size - y ≤ k → k < m → y ≤ s.size →
    ∃ v, gstrings_indexFunc_41_L1 N s true m y = some v ∧ (((bs s).drop y).all inR = true → v = .out ()) ∧ (((bs s).drop y).all inR = false → ∃ j : Nat, v = .ret (j : Int)) := by
  intro k
  induction k with
  | zero =>
    intro y m hk hm hy
    obtain ⟨m, rfl⟩ : ∃ m', m = m' + 1 := ⟨m - 1, by omega⟩
    have hlen := bs_length s
    rw [gstrings_indexFunc_41_L1]
    have h1 : decide (y < s.size) = false := by simp; omega
    rw [h1, List.drop_eq_nil_of_le (by omega)]
    exact ⟨_, rfl, fun _ => rfl, fun h => by simp at h⟩
  | succ k ih =>
    intro y m hk hm hy
    obtain ⟨m, rfl⟩ : ∃ m', m = m' + 1 := ⟨m - 1, by omega⟩
    have hlen := bs_length s
    rw [gstrings_indexFunc_41_L1]
    rcases hl : (bs s).drop y with _ | ⟨c, r⟩
    · have := drop_nil_le hl
      have h1 : decide (y < s.size) = false := by simp; omega
      rw [h1]
      exact ⟨_, rfl, fun _ => rfl, fun h => by simp at h⟩
    obtain ⟨hc, hr, hlt⟩ := drop_cons_at hl
    have hbyte : 0 ≤ c ∧ c < 256 := bs_byte (List.mem_of_getElem? hc)
    have h1 : decide (y < s.size) = true := by simp; omega
    rw [h1]
    simp only [cond_true]
    by_cases h8 : c < 128
    · rw [decode_lt3 hc h8]
      simp only
      have hcc : ((c.toNat : Nat) : Int) = c := by omega
      rw [hcc, sound1_3 N c hbyte.1 h8]
      simp only [Option.bind_some]
      cases hw : inR c
      · refine ⟨_, rfl, fun h => ?_, fun _ => ⟨y, rfl⟩⟩
        rw [List.all_cons, hw] at h; cases h
      · have : ((!true) == true) = false := rfl
        rw [this]
        simp only [cond_false]
        obtain ⟨v, g1, g2, g3⟩ := ih (y + 1) m (by omega) (by omega) (by omega)
        rw [hr] at g2 g3
        refine ⟨v, g1, fun h => g2 ?_, fun h => g3 ?_⟩
        · rw [List.all_cons, hw, Bool.true_and] at h; exact h
        · rw [List.all_cons, hw, Bool.true_and] at h; exact h
    · have hd := decode_ge3 hc (by omega)
      rw [sound1_3' N _ (by omega)]
      simp only [Option.bind_some, beq_self_eq_true, cond_true]
      have hw : inR c = false := by
        cases h : inR c
        · rfl
        · have := (inR_iff c).1 h; omega
      refine ⟨_, rfl, fun h => ?_, fun _ => ⟨y, rfl⟩⟩
      rw [List.all_cons, hw] at h; cases h
theorem idx41_eq (n : Nat) (s : ByteArray) (hn : s.size < n) : ∃ r, gstrings_IndexFunc_41 n s = some r ∧ decide (r ≥ 0) = !(bs s).all inR := by
  obtain ⟨v, g1, g2, g3⟩ := idx41_loop n s s.size 0 n (by omega) hn (by omega)
  rw [List.drop_zero] at g2 g3
  unfold gstrings_IndexFunc_41 gstrings_indexFunc_41
  rw [g1]
  cases h : (bs s).all inR
  · obtain ⟨j, rfl⟩ := g3 h
    exact ⟨_, rfl, decide_eq_true (by omega)⟩
  · rw [g2 h]
    exact ⟨_, rfl, by decide⟩
def inQ (c : Int) : Bool := (decide (32 ≤ c) && decide (c ≤ 126)) && !(c == 34)
theorem inQ_iff (c : Int) : inQ c = true ↔ (32 ≤ c ∧ c ≤ 126 ∧ c ≠ 34) := by
  unfold inQ
  simp only [Bool.and_eq_true, Bool.not_eq_true', decide_eq_true_eq, beq_eq_false_iff_ne, ne_eq]
  constructor
  · rintro ⟨⟨a, b⟩, c⟩; exact ⟨a, b, c⟩
  · rintro ⟨a, b, c⟩; exact ⟨⟨a, b⟩, c⟩
theorem sound2_3 (n : Nat) (c : Int) : gsexp_sound_2 n c = some (!inQ c) := by
  unfold gsexp_sound_2
  have : ((decide (c < 32) || decide (c > 126)) || (c == 34)) = !inQ c := by
    cases hi : inQ c
    · have : ¬ (32 ≤ c ∧ c ≤ 126 ∧ c ≠ 34) := fun h => by rw [(inQ_iff c).2 h] at hi; cases hi
      simp only [Bool.not_false, Bool.or_eq_true, decide_eq_true_eq, beq_iff_eq]; omega
    · have := (inQ_iff c).1 hi
      simp only [Bool.not_true, Bool.or_eq_false_iff, decide_eq_false_iff_not, beq_eq_false_iff_ne, ne_eq]; omega
  rw [this]
theorem idx44_loop (N : Nat) (s : ByteArray) : ∀ (k y m : Nat), s.size - y ≤ k → k < m → y ≤ s.size →
    ∃ v, gstrings_indexFunc_44_L1 N s true m y = some v ∧ (((bs s).drop y).all inQ = true → v = .out ()) ∧ (((bs s).drop y).all inQ = false → ∃ j : Nat, v = .ret (j : Int)) := by
  intro k
  induction k with
  | zero =>
    intro y m hk hm hy
    obtain ⟨m, rfl⟩ : ∃ m', m = m' + 1 := ⟨m - 1, by omega⟩
    have hlen := bs_length s
    rw [gstrings_indexFunc_44_L1]
    have h1 : decide (y < s.size) = false := by simp; omega
    rw [h1, List.drop_eq_nil_of_le (by omega)]
    exact ⟨_, rfl, fun _ => rfl, fun h => by simp at h⟩
  | succ k ih =>
    intro y m hk hm hy
    obtain ⟨m, rfl⟩ : ∃ m', m = m' + 1 := ⟨m - 1, by omega⟩
    have hlen := bs_length s
    rw [gstrings_indexFunc_44_L1]
    rcases hl : (bs s).drop y with _ | ⟨c, r⟩
    · have := drop_nil_le hl
      have h1 : decide (y < s.size) = false := by simp; omega
      rw [h1]
      exact ⟨_, rfl, fun _ => rfl, fun h => by simp at h⟩
    obtain ⟨hc, hr, hlt⟩ := drop_cons_at hl
    have hbyte : 0 ≤ c ∧ c < 256 := bs_byte (List.mem_of_getElem? hc)
    have h1 : decide (y < s.size) = true := by simp; omega
    rw [h1]
    simp only [cond_true]
    rw [sound2_3]
    simp only [Option.bind_some]
    by_cases h8 : c < 128
    · rw [decode_lt3 hc h8]
      simp only
      have hcc : ((c.toNat : Nat) : Int) = c := by omega
      rw [hcc]
      cases hw : inQ c
      · refine ⟨_, rfl, fun h => ?_, fun _ => ⟨y, rfl⟩⟩
        rw [List.all_cons, hw] at h; cases h
      · have : ((!true) == true) = false := rfl
        rw [this]
        simp only [cond_false]
        obtain ⟨v, g1, g2, g3⟩ := ih (y + 1) m (by omega) (by omega) (by omega)
        rw [hr] at g2 g3
        refine ⟨v, g1, fun h => g2 ?_, fun h => g3 ?_⟩
        · rw [List.all_cons, hw, Bool.true_and] at h; exact h
        · rw [List.all_cons, hw, Bool.true_and] at h; exact h
    · have hd := decode_ge3 hc (by omega)
      have hq : inQ (((Utf8.decode s y).1 : Nat) : Int) = false := by
        cases h : inQ (((Utf8.decode s y).1 : Nat) : Int)
        · rfl
        · have := (inQ_iff _).1 h; omega
      rw [hq]
      simp only [Bool.not_false, beq_self_eq_true, cond_true]
      have hw : inQ c = false := by
        cases h : inQ c
        · rfl
        · have := (inQ_iff c).1 h; omega
      refine ⟨_, rfl, fun h => ?_, fun _ => ⟨y, rfl⟩⟩
      rw [List.all_cons, hw] at h; cases h
theorem idx44_eq (n : Nat) (s : ByteArray) (hn : s.size < n) : ∃ r, gstrings_IndexFunc_44 n s = some r ∧ decide (r ≥ 0) = !(bs s).all inQ := by
  obtain ⟨v, g1, g2, g3⟩ := idx44_loop n s s.size 0 n (by omega) hn (by omega)
  rw [List.drop_zero] at g2 g3
  unfold gstrings_IndexFunc_44 gstrings_indexFunc_44
  rw [g1]
  cases h : (bs s).all inQ
  · obtain ⟨j, rfl⟩ := g3 h
    exact ⟨_, rfl, decide_eq_true (by omega)⟩
  · rw [g2 h]
    exact ⟨_, rfl, by decide⟩
end Go.DM
namespace Go.DM
open Go
set_option maxRecDepth 100000

/-! sound trees -/
theorem kids_len {l : List TTree} : ((((l.length : Nat) : Int) == 0) = true) ↔ l = [] := by
  rw [beq_iff_eq]
  constructor
  · intro h; exact List.length_eq_zero_iff.1 (by omega)
  · rintro rfl; rfl
theorem word_nil {w : ByteArray} : (!decide (w = ByteArray.mk #[])) = true ↔ bs w ≠ [] := by
  rw [Bool.not_eq_true', decide_eq_false_iff_not, ← bs_nil]
theorem form1 {w : ByteArray} {v : Int} {l : List TTree} : FormT (.mk 1 w v l) ↔ (v = 0 ∧ l = [] ∧ bs w ≠ [] ∧ (bs w).all inR = true ∧ numB (bs w) = false) := by
  rw [FormT]
  constructor
  · rintro (⟨h, _⟩ | ⟨_, h | h | h⟩)
    · cases h
    · exact ⟨h.2.1, h.2.2.1, h.2.2.2.1, List.all_eq_true.2 h.2.2.2.2.1, h.2.2.2.2.2⟩
    · cases h.1
    · cases h.1
  · rintro ⟨rfl, rfl, h3, h4, h5⟩
    exact .inr ⟨by decide, .inl ⟨rfl, rfl, rfl, h3, List.all_eq_true.1 h4, h5⟩⟩
theorem form2 {w : ByteArray} {v : Int} {l : List TTree} : FormT (.mk 2 w v l) ↔ (w = nilB3 ∧ l = [] ∧ -most18 ≤ v ∧ v ≤ most18) := by
  rw [FormT]
  constructor
  · rintro (⟨h, _⟩ | ⟨_, h | h | h⟩)
    · cases h
    · cases h.1
    · exact ⟨h.2.1, h.2.2.1, h.2.2.2⟩
    · cases h.1
  · rintro ⟨rfl, rfl, h3⟩
    exact .inr ⟨by decide, .inr (.inl ⟨rfl, rfl, rfl, h3⟩)⟩
theorem form3 {w : ByteArray} {v : Int} {l : List TTree} : FormT (.mk 3 w v l) ↔ (v = 0 ∧ l = [] ∧ (bs w).all inQ = true) := by
  rw [FormT]
  constructor
  · rintro (⟨h, _⟩ | ⟨_, h | h | h⟩)
    · cases h
    · cases h.1
    · cases h.1
    · exact ⟨h.2.1, h.2.2.1, List.all_eq_true.2 (fun c hc => (inQ_iff c).2 (h.2.2.2 c hc))⟩
  · rintro ⟨rfl, rfl, h3⟩
    exact .inr ⟨by decide, .inr (.inr ⟨rfl, rfl, rfl, fun c hc => (inQ_iff c).1 (List.all_eq_true.1 h3 c hc)⟩)⟩
theorem form4 {w : ByteArray} {v : Int} {l : List TTree} : FormT (.mk 4 w v l) ↔ (w = nilB3 ∧ v = 0 ∧ FormL l) := by
  rw [FormT]
  constructor
  · rintro (⟨_, h⟩ | ⟨h, _⟩)
    · exact h
    · exact absurd rfl h
  · intro h; exact .inl ⟨rfl, h⟩
theorem form_else {k : Int} {w : ByteArray} {v : Int} {l : List TTree} (h1 : k ≠ 1) (h2 : k ≠ 2) (h3 : k ≠ 3) (h4 : k ≠ 4) : ¬ FormT (.mk k w v l) := by
  rw [FormT]
  rintro (⟨h, _⟩ | ⟨_, h | h | h⟩)
  · exact h4 h
  · exact h1 h.1
  · exact h2 h.1
  · exact h3 h.1
def SoundR (t : TTree) (p1 p2 p3 : Nat) (res : Option (Bool × Int × Int)) : Prop :=
  ∃ (b : Bool) (n d : Int), res = some (b, n, d) ∧ (b = true ↔ FormT t) ∧ (b = true → n = ((p2 + cntT t : Nat) : Int) ∧ d = ((max p3 (p1 + deepT t) : Nat) : Int))
theorem sound_skip (N : Nat) (rec : TTree → Int → Int → Int → Option (Bool × Int × Int)) (t : TTree) (p1 : Int) (hl : t.f_Kids.length ≤ 8000000) : ∀ (j y m : Nat) (n d : Int), t.f_Kids.length - y ≤ j → j < m → y ≤ t.f_Kids.length →
    gsexp_sound_L1 N rec t p1 m false (y : Int) n d = some (false, n, d) := by
  intro j
  induction j with
  | zero =>
    intro y m n d hj hm hy
    obtain ⟨m, rfl⟩ : ∃ m', m = m' + 1 := ⟨m - 1, by omega⟩
    rw [gsexp_sound_L1]
    have h1 : decide (((y : Nat) : Int) < ((t.f_Kids.length : Nat) : Int)) = false := by simp; omega
    rw [h1]; rfl
  | succ j ih =>
    intro y m n d hj hm hy
    obtain ⟨m, rfl⟩ : ∃ m', m = m' + 1 := ⟨m - 1, by omega⟩
    rw [gsexp_sound_L1]
    by_cases hlt : y < t.f_Kids.length
    · have h1 : decide (((y : Nat) : Int) < ((t.f_Kids.length : Nat) : Int)) = true := by simp; omega
      rw [h1, atL_nat, List.getElem?_eq_getElem hlt]
      simp only [Option.bind_some, cond_true, cond_false]
      rw [w64_succ (n := y) (by omega)]
      exact ih (y + 1) m n d (by omega) (by omega) (by omega)
    · have h1 : decide (((y : Nat) : Int) < ((t.f_Kids.length : Nat) : Int)) = false := by simp; omega
      rw [h1]; rfl
theorem FormL_drop {l : List TTree} {y : Nat} (h : y < l.length) : FormL (l.drop y) ↔ FormT l[y] ∧ FormL (l.drop (y + 1)) := by
  rw [List.drop_eq_getElem_cons h, FormL]
theorem cntL_drop {l : List TTree} {y : Nat} (h : y < l.length) : cntL (l.drop y) = cntT l[y] + cntL (l.drop (y + 1)) := by
  rw [List.drop_eq_getElem_cons h, cntL]
theorem sound_mk (N k : Nat) (kd : Int) (w : ByteArray) (v : Int) (l : List TTree) (p1 p2_0 p3_0 : Int) : gsexp_sound_rec N (k + 1) (.mk kd w v l) p1 p2_0 p3_0 = (cond (kd == 2) (some (((((decide (w = (ByteArray.mk #[]))) && (((l.length : Nat) : Int) == 0)) && (decide (v ≥ (-999999999999999999)))) && (decide (v ≤ 999999999999999999))), (IntKind.wrap .i64 (p2_0 + 1)), p3_0)) ((cond (kd == 1) (((gstrings_IndexFunc_41 N w).bind fun r25 => (((cond ((((v == 0) && (((l.length : Nat) : Int) == 0)) && (!decide (w = (ByteArray.mk #[])))) && (!(decide (r25 ≥ 0)))) (((gsexp_numeric N w).bind fun r49 => some (!r49))) (some false)) : Option (Bool)).bind fun x47 => some (x47, (IntKind.wrap .i64 (p2_0 + 1)), p3_0)))) ((cond (kd == 3) (((gstrings_IndexFunc_44 N w).bind fun r59 => some ((((v == 0) && (((l.length : Nat) : Int) == 0)) && (!(decide (r59 ≥ 0)))), (IntKind.wrap .i64 (p2_0 + 1)), p3_0))) ((cond (kd == 4) (((gsexp_sound_L1 N (gsexp_sound_rec N k) (.mk kd w v l) p1 N ((decide (w = (ByteArray.mk #[]))) && (v == 0)) 0 (IntKind.wrap .i64 (p2_0 + 1)) (if (IntKind.wrap .i64 (p1 + 1)) > p3_0 then (IntKind.wrap .i64 (p1 + 1)) else p3_0)).bind fun v => match v with | (x158, x159, x160) => some (x158, x159, x160))) (some (false, (IntKind.wrap .i64 (p2_0 + 1)), p3_0))))))))) := by rw [gsexp_sound_rec]; rfl
theorem sound3 (N : Nat) : ∀ (k : Nat) (t : TTree) (p1 p2 p3 : Nat), szT t ≤ k → szT t < N → szT t ≤ 8000000 → p1 + szT t ≤ 16000000 → p2 + szT t ≤ 16000000 → p1 ≤ p3 → p3 ≤ 16000000 →
    SoundR t p1 p2 p3 (gsexp_sound_rec N k t (p1 : Int) (p2 : Int) (p3 : Int)) := by
  intro k
  induction k with
  | zero => intro t p1 p2 p3 h _ _; rw [szT_eq] at h; omega
  | succ k ihk =>
    intro t p1 p2 p3 hk hN h8 hp1 hp2 hp3 hp4
    obtain ⟨kd, w, v, l⟩ := t
    rw [szT] at hk hN h8 hp1 hp2
    rw [sound_mk]
    rw [w64_succ (n := p2) (by omega)]
    by_cases h2 : kd = 2
    · subst h2
      simp only [beq_self_eq_true, cond_true]
      refine ⟨_, _, _, rfl, ?_, fun hb => ?_⟩
      · rw [form2, Bool.and_eq_true, Bool.and_eq_true, Bool.and_eq_true, decide_eq_true_eq, decide_eq_true_eq, decide_eq_true_eq, kids_len]
        unfold most18 nilB3
        constructor
        · rintro ⟨⟨⟨a, b⟩, c⟩, d⟩; exact ⟨a, b, c, d⟩
        · rintro ⟨a, b, c, d⟩; exact ⟨⟨⟨a, b⟩, c⟩, d⟩
      · rw [Bool.and_eq_true, Bool.and_eq_true, Bool.and_eq_true, kids_len] at hb
        rw [hb.1.1.2, cntT, cntL, deepT, if_neg (by decide), Nat.max_eq_left (by omega)]
        exact ⟨rfl, rfl⟩
    have e2 : (kd == 2) = false := by simpa using h2
    rw [e2]
    simp only [cond_false]
    by_cases h1 : kd = 1
    · subst h1
      simp only [beq_self_eq_true, cond_true]
      obtain ⟨r, g1, g2⟩ := idx41_eq N w (by omega)
      rw [g1]
      simp only [Option.bind_some]
      rw [g2]
      by_cases hc : (v == 0 && ((l.length : Nat) : Int) == 0 && !decide (w = ByteArray.mk #[]) && !!(bs w).all inR) = true
      · rw [hc]
        simp only [Bool.and_eq_true, Bool.not_not, beq_iff_eq] at hc
        obtain ⟨⟨⟨a1, a2⟩, a3⟩, a4⟩ := hc
        have a2' : l = [] := List.length_eq_zero_iff.1 (by omega)
        have a3' := word_nil.1 a3
        rw [numeric_eq N w a3']
        simp only [cond_true, Option.bind_some]
        refine ⟨_, _, _, rfl, ?_, fun hb => ?_⟩
        · rw [form1, Bool.not_eq_true']
          constructor
          · intro h; exact ⟨a1, a2', a3', a4, h⟩
          · rintro ⟨_, _, _, _, h⟩; exact h
        · rw [a2', cntT, cntL, deepT, if_neg (by decide), Nat.max_eq_left (by omega)]
          exact ⟨rfl, rfl⟩
      · have hc' := Bool.eq_false_iff.2 hc
        rw [hc']
        refine ⟨_, _, _, rfl, ?_, fun hb => by cases hb⟩
        rw [form1]
        constructor
        · intro h; cases h
        · rintro ⟨b1, b2, b3, b4, _⟩
          exfalso
          apply hc
          rw [Bool.and_eq_true, Bool.and_eq_true, Bool.and_eq_true, kids_len, word_nil, beq_iff_eq, Bool.not_not]
          exact ⟨⟨⟨b1, b2⟩, b3⟩, b4⟩
    have e1 : (kd == 1) = false := by simpa using h1
    rw [e1]
    simp only [cond_false]
    by_cases h3 : kd = 3
    · subst h3
      simp only [beq_self_eq_true, cond_true]
      obtain ⟨r, g1, g2⟩ := idx44_eq N w (by omega)
      rw [g1]
      simp only [Option.bind_some]
      rw [g2]
      refine ⟨_, _, _, rfl, ?_, fun hb => ?_⟩
      · rw [form3, Bool.and_eq_true, Bool.and_eq_true, kids_len, beq_iff_eq, Bool.not_not]
        constructor
        · rintro ⟨⟨a, b⟩, c⟩; exact ⟨a, b, c⟩
        · rintro ⟨a, b, c⟩; exact ⟨⟨a, b⟩, c⟩
      · rw [Bool.and_eq_true, Bool.and_eq_true, kids_len] at hb
        rw [hb.1.2, cntT, cntL, deepT, if_neg (by decide), Nat.max_eq_left (by omega)]
        exact ⟨rfl, rfl⟩
    have e3 : (kd == 3) = false := by simpa using h3
    rw [e3]
    simp only [cond_false]
    by_cases h4 : kd = 4
    · subst h4
      simp only [beq_self_eq_true, cond_true]
      have hll := len_szL l
      have loop : ∀ (j y m n d : Nat), l.length - y ≤ j → j < m → y ≤ l.length → n + szL (l.drop y) ≤ 16000000 → p1 + 1 ≤ d → d ≤ 16000000 →
          ∃ (b : Bool) (n' d' : Int), gsexp_sound_L1 N (gsexp_sound_rec N k) (.mk 4 w v l) (p1 : Int) m true (y : Int) (n : Int) (d : Int) = some (b, n', d') ∧ (b = true ↔ FormL (l.drop y)) ∧ (b = true → n' = ((n + cntL (l.drop y) : Nat) : Int) ∧ d' = ((max d (p1 + 1 + deepL (l.drop y)) : Nat) : Int)) := by
        intro j
        induction j with
        | zero =>
          intro y m n d hj hm hy hn hd hd'
          obtain ⟨m, rfl⟩ : ∃ m', m = m' + 1 := ⟨m - 1, by omega⟩
          rw [gsexp_sound_L1]
          have h1 : decide (((y : Nat) : Int) < (((TTree.mk 4 w v l).f_Kids.length : Nat) : Int)) = false := by simp only [TTree.f_Kids]; simp; omega
          rw [h1, List.drop_eq_nil_of_le (by omega)]
          refine ⟨true, _, _, rfl, by rw [FormL]; simp, fun _ => ⟨by rw [cntL]; rfl, by rw [deepL, Nat.max_eq_left (by omega)]⟩⟩
        | succ j ih =>
          intro y m n d hj hm hy hn hd hd'
          obtain ⟨m, rfl⟩ : ∃ m', m = m' + 1 := ⟨m - 1, by omega⟩
          rw [gsexp_sound_L1]
          by_cases hlt : y < l.length
          · have h1 : decide (((y : Nat) : Int) < (((TTree.mk 4 w v l).f_Kids.length : Nat) : Int)) = true := by simp only [TTree.f_Kids]; simp; omega
            rw [h1, atL_nat]
            simp only [TTree.f_Kids]
            rw [List.getElem?_eq_getElem hlt]
            simp only [Option.bind_some, cond_true]
            have hmem := szL_mem (List.getElem_mem hlt)
            rw [szL_drop hlt] at hn
            rw [w64_succ (n := p1) (by omega), w64_succ (n := y) (by omega)]
            obtain ⟨b, n1, d1, g1, g2, g3⟩ := ihk l[y] (p1 + 1) n d (by omega) (by omega) (by omega) (by omega) (by omega) hd hd'
            rw [g1]
            simp only [Option.bind_some]
            have hdz := deep_szT l[y]
            have hcz := cnt_szT l[y]
            cases b with
            | true =>
              obtain ⟨g4, g5⟩ := g3 rfl
              rw [g4, g5]
              obtain ⟨b', n2, d2, k1, k2, k3⟩ := ih (y + 1) m (n + cntT l[y]) (max d (p1 + 1 + deepT l[y])) (by omega) (by omega) (by omega) (by omega) (by omega) (by omega)
              refine ⟨b', n2, d2, k1, ?_, fun hb => ?_⟩
              · rw [k2, FormL_drop hlt]
                exact ⟨fun h => ⟨g2.1 rfl, h⟩, fun h => h.2⟩
              · obtain ⟨k4, k5⟩ := k3 hb
                rw [k4, k5, cntL_drop hlt, deepL_drop hlt]
                exact ⟨by omega, by congr 1; omega⟩
            | false =>
              have := sound_skip N (gsexp_sound_rec N k) (.mk 4 w v l) (p1 : Int) (by simp only [TTree.f_Kids]; omega) j (y + 1) m n1 d1 (by simp only [TTree.f_Kids]; omega) (by omega) (by simp only [TTree.f_Kids]; omega)
              refine ⟨false, n1, d1, this, ?_, fun hb => by cases hb⟩
              rw [FormL_drop hlt]
              constructor
              · intro h; cases h
              · intro h; exact absurd (g2.2 h.1) (by simp)
          · have h1 : decide (((y : Nat) : Int) < (((TTree.mk 4 w v l).f_Kids.length : Nat) : Int)) = false := by simp only [TTree.f_Kids]; simp; omega
            rw [h1, List.drop_eq_nil_of_le (by omega)]
            refine ⟨true, _, _, rfl, by rw [FormL]; simp, fun _ => ⟨by rw [cntL]; rfl, by rw [deepL, Nat.max_eq_left (by omega)]⟩⟩
      have hd : (if IntKind.wrap .i64 ((p1 : Int) + 1) > (p3 : Int) then IntKind.wrap .i64 ((p1 : Int) + 1) else (p3 : Int)) = ((max p3 (p1 + 1) : Nat) : Int) := by
        rw [w64_succ (n := p1) (by omega)]
        split <;> omega
      rw [hd]
      by_cases hc : (decide (w = ByteArray.mk #[]) && v == 0) = true
      · rw [hc]
        rw [Bool.and_eq_true, decide_eq_true_eq, beq_iff_eq] at hc
        obtain ⟨b, n', d', k1, k2, k3⟩ := loop l.length 0 N (p2 + 1) (max p3 (p1 + 1)) (by omega) (by omega) (by omega) (by rw [List.drop_zero]; omega) (by omega) (by omega)
        rw [show (((0 : Nat) : Nat) : Int) = 0 from rfl] at k1
        rw [List.drop_zero] at k2 k3
        rw [k1]
        refine ⟨b, n', d', rfl, ?_, fun hb => ?_⟩
        · rw [k2, form4]
          exact ⟨fun h => ⟨hc.1, hc.2, h⟩, fun h => h.2.2⟩
        · obtain ⟨k4, k5⟩ := k3 hb
          rw [k4, k5, cntT, deepT, if_pos rfl]
          exact ⟨by omega, by congr 1; omega⟩
      · have hc' := Bool.eq_false_iff.2 hc
        rw [hc']
        have := sound_skip N (gsexp_sound_rec N k) (.mk 4 w v l) (p1 : Int) (by simp only [TTree.f_Kids]; omega) l.length 0 N ((p2 + 1 : Nat) : Int) ((max p3 (p1 + 1) : Nat) : Int) (by simp only [TTree.f_Kids]; omega) (by omega) (by omega)
        rw [show (((0 : Nat) : Nat) : Int) = 0 from rfl] at this
        rw [this]
        refine ⟨false, _, _, rfl, ?_, fun hb => by cases hb⟩
        rw [form4]
        constructor
        · intro h; cases h
        · rintro ⟨a, b, _⟩
          exfalso; apply hc
          rw [Bool.and_eq_true, decide_eq_true_eq, beq_iff_eq]
          exact ⟨a, b⟩
    · have e4 : (kd == 4) = false := by simpa using h4
      rw [e4]
      refine ⟨false, _, _, rfl, ?_, fun hb => by cases hb⟩
      exact ⟨fun h => by (cases h), fun h => absurd h (form_else h1 h2 h3 h4)⟩
theorem write_mk (N k : Nat) (kd : Int) (w : ByteArray) (v : Int) (l : List TTree) (p0_1 : List Int) : gsexp_write_rec N (k + 1) p0_1 (.mk kd w v l) = (((cond (kd == 1) (((appL 1 p0_1 (bs w)).bind fun l405 => some l405)) ((cond (kd == 2) (((itoaT v).bind fun r413 => ((appL 1 p0_1 (bs r413)).bind fun l416 => some l416))) ((cond (kd == 3) (((catS (ByteArray.mk #[34]) w).bind fun s424 => ((catS s424 (ByteArray.mk #[34])).bind fun s425 => ((appL 1 p0_1 (bs s425)).bind fun l426 => some l426)))) ((cond (kd == 4) (((appL 1 p0_1 ([40] : List Int)).bind fun l434 => ((gsexp_write_L1 N (gsexp_write_rec N k) (.mk kd w v l) N 0 l434).bind fun x665 => ((appL 1 x665 ([41] : List Int)).bind fun l781 => some l781)))) (some p0_1)))))))) : Option ((List Int))).bind fun x401 => some x401) := by rw [gsexp_write_rec]; rfl
end Go.DM
namespace Go.DM
open Go
set_option maxRecDepth 100000

def itoaL (v : Int) : List Int := (Lib.itoa v).map (fun b => (b.toNat : Int))
def itoaS (v : Int) : ByteArray := ⟨(Lib.itoa v).toArray⟩
theorem bs_itoaS (v : Int) : bs (itoaS v) = itoaL v := by simp [bs, itoaS, itoaL]
theorem itoaT_ok3 {v : Int} (h : -most18 ≤ v ∧ v ≤ most18) : itoaT v = some (itoaS v) := by
  unfold most18 at h
  unfold itoaT
  rw [if_pos (by omega)]; rfl
theorem bs_app (s t : ByteArray) : bs (s ++ t) = bs s ++ bs t := by
  simp [bs, ByteArray.data_append]
theorem catS_ok {s t : ByteArray} (h : s.size + t.size ≤ 16000000) : catS s t = some (s ++ t) := by
  unfold catS
  rw [if_neg]
  have : IntKind.i64.max = 9223372036854775807 := rfl
  rw [this]; omega
mutual
def wrT : TTree → List Int
  | .mk k w v l => if k = 1 then bs w else if k = 2 then itoaL v else if k = 3 then 34 :: (bs w ++ [34]) else if k = 4 then 40 :: (wrH l ++ [41]) else []
def wrH : List TTree → List Int
  | [] => []
  | t :: r => wrT t ++ wrS r
def wrS : List TTree → List Int
  | [] => []
  | t :: r => 32 :: (wrT t ++ wrS r)
end
def prP : List TTree → List Int
  | [] => []
  | t :: r => wrT t ++ 10 :: prP r
theorem itoaL_len {v : Int} (h : -most18 ≤ v ∧ v ≤ most18) : (itoaL v).length ≤ 21 := by
  unfold most18 at h
  unfold itoaL
  rw [List.length_map]
  exact Lib.itoa_length_le v (by omega) (by omega)
theorem wrT1 (w : ByteArray) (v : Int) (l : List TTree) : wrT (.mk 1 w v l) = bs w := by rw [wrT, if_pos rfl]
theorem wrT2 (w : ByteArray) (v : Int) (l : List TTree) : wrT (.mk 2 w v l) = itoaL v := by rw [wrT, if_neg (by decide), if_pos rfl]
theorem wrT3 (w : ByteArray) (v : Int) (l : List TTree) : wrT (.mk 3 w v l) = 34 :: (bs w ++ [34]) := by rw [wrT, if_neg (by decide), if_neg (by decide), if_pos rfl]
theorem wrT4 (w : ByteArray) (v : Int) (l : List TTree) : wrT (.mk 4 w v l) = 40 :: (wrH l ++ [41]) := by rw [wrT, if_neg (by decide), if_neg (by decide), if_neg (by decide), if_pos rfl]
theorem form_cases {k : Int} {w : ByteArray} {v : Int} {l : List TTree} (h : FormT (.mk k w v l)) : k = 1 ∨ k = 2 ∨ k = 3 ∨ k = 4 := by
  by_cases h1 : k = 1
  · exact .inl h1
  by_cases h2 : k = 2
  · exact .inr (.inl h2)
  by_cases h3 : k = 3
  · exact .inr (.inr (.inl h3))
  by_cases h4 : k = 4
  · exact .inr (.inr (.inr h4))
  · exact absurd h (form_else h1 h2 h3 h4)
mutual
theorem wrT_len : ∀ (t : TTree), FormT t → (wrT t).length + 1 ≤ tkzs (toksT t)
  | .mk k w v l, h => by
    rcases form_cases h with rfl | rfl | rfl | rfl
    · rw [toksT, if_neg (by decide), wrT1, bs_length]
      show w.size + 1 ≤ w.size + 3 + 0
      omega
    · rw [toksT, if_neg (by decide), wrT2]
      have := itoaL_len (form2.1 h).2.2
      show (itoaL v).length + 1 ≤ 23 + 0
      omega
    · rw [toksT, if_neg (by decide), wrT3, List.length_cons, List.length_append, bs_length]
      show w.size + 1 + 1 + 1 ≤ w.size + 3 + 0
      omega
    · have := wrH_len l (form4.1 h).2.2
      rw [toksT, if_pos rfl, wrT4, List.length_cons, List.length_append, tkzs, tkzs_app]
      show (wrH l).length + 1 + 1 + 1 ≤ 3 + (tkzs (toksL l) + (3 + 0))
      omega
theorem wrH_len : ∀ (l : List TTree), FormL l → (wrH l).length ≤ tkzs (toksL l)
  | [], _ => by rw [wrH]; simp
  | t :: r, h => by
    rw [FormL] at h
    have := wrT_len t h.1
    have := wrS_len r h.2
    rw [wrH, toksL, tkzs_app, List.length_append]; omega
theorem wrS_len : ∀ (l : List TTree), FormL l → (wrS l).length ≤ tkzs (toksL l)
  | [], _ => by rw [wrS]; simp
  | t :: r, h => by
    rw [FormL] at h
    have := wrT_len t h.1
    have := wrS_len r h.2
    rw [wrS, toksL, tkzs_app, List.length_cons, List.length_append]; omega
end
theorem prP_len : ∀ (l : List TTree), FormL l → (prP l).length ≤ tkzs (toksL l)
  | [], _ => by rw [prP]; simp
  | t :: r, h => by
    rw [FormL] at h
    have := wrT_len t h.1
    have := prP_len r h.2
    rw [prP, toksL, tkzs_app, List.length_append, List.length_cons]; omega

/-! numbers, written and read -/
theorem parseU_app : ∀ (a b : List UInt8) (acc u : Nat), Lib.parseUint10 acc a = .ok u → Lib.parseUint10 acc (a ++ b) = Lib.parseUint10 u b
  | [], b, acc, u, h => by rw [Lib.parseUint10] at h; injection h with h; rw [h]; rfl
  | c :: a, b, acc, u, h => by
    rw [Lib.parseUint10] at h
    rw [List.cons_append, Lib.parseUint10]
    by_cases h1 : 48 ≤ c.toNat ∧ c.toNat ≤ 57
    · rw [if_pos h1] at h ⊢
      by_cases h2 : 1844674407370955162 ≤ acc
      · rw [if_pos h2] at h; cases h
      · rw [if_neg h2] at h ⊢
        by_cases h3 : 18446744073709551616 ≤ acc * 10 + (c.toNat - 48)
        · rw [if_pos h3] at h; cases h
        · rw [if_neg h3] at h ⊢
          exact parseU_app a b _ u h
    · rw [if_neg h1] at h; cases h
theorem dec_facts : ∀ (n u : Nat), u ≤ n → u < 1000000000000000000 → Lib.parseUint10 0 (Lib.decDigits u) = .ok u ∧ (∀ c ∈ Lib.decDigits u, 48 ≤ c.toNat ∧ c.toNat ≤ 57) ∧ Lib.decDigits u ≠ []
  | n, u, hn, hu => by
    rw [Lib.decDigits]
    by_cases h : u < 10
    · rw [dif_pos h]
      have e : (UInt8.ofNat (48 + u)).toNat = 48 + u := by rw [UInt8.toNat_ofNat']; omega
      refine ⟨?_, ?_, by simp⟩
      · rw [Lib.parseUint10, e, if_pos (by omega), if_neg (by omega), if_neg (by omega), Lib.parseUint10]
        congr 1; omega
      · intro c hc
        rw [List.mem_singleton] at hc
        subst hc
        omega
    · rw [dif_neg h]
      cases n with
      | zero => omega
      | succ n =>
        obtain ⟨h1, h2, h3⟩ := dec_facts n (u / 10) (by omega) (by omega)
        have e : (UInt8.ofNat (48 + u % 10)).toNat = 48 + u % 10 := by rw [UInt8.toNat_ofNat']; omega
        refine ⟨?_, ?_, by simp⟩
        · rw [parseU_app _ _ _ _ h1, Lib.parseUint10, e, if_pos (by omega), if_neg (by omega), if_neg (by omega), Lib.parseUint10]
          congr 1; omega
        · intro c hc
          rcases List.mem_append.1 hc with hc | hc
          · exact h2 c hc
          · rw [List.mem_singleton] at hc
            subst hc
            omega
theorem atoi_itoa {v : Int} (h : -most18 ≤ v ∧ v ≤ most18) : Lib.atoiAll (Lib.itoa v) = .ok v := by
  unfold most18 at h
  unfold Lib.itoa
  split
  · obtain ⟨h1, h2, h3⟩ := dec_facts v.natAbs v.natAbs (by omega) (by omega)
    rw [Lib.atoiAll_minus, Lib.parseMag, if_neg h3, h1, Lib.signed, if_neg (by omega)]
    congr 1; omega
  · obtain ⟨h1, h2, h3⟩ := dec_facts v.toNat v.toNat (by omega) (by omega)
    cases hd : Lib.decDigits v.toNat with
    | nil => exact absurd hd h3
    | cons c r =>
      have hc := h2 c (by rw [hd]; exact List.mem_cons_self ..)
      rw [Lib.atoiAll_plain c r (by omega) (by omega), ← hd, Lib.parseMag, if_neg h3, h1, Lib.signless, if_neg (by omega)]
      congr 1; omega
theorem itoaL_facts {v : Int} (h : -most18 ≤ v ∧ v ≤ most18) : itoaL v ≠ [] ∧ (∀ c ∈ itoaL v, inR c = true) ∧ numB (itoaL v) = true := by
  unfold most18 at h
  have dig : ∀ c : UInt8, 48 ≤ c.toNat ∧ c.toNat ≤ 57 → inR (c.toNat : Int) = true := fun c hc => (inR_iff _).2 (by omega)
  unfold itoaL Lib.itoa
  split
  · obtain ⟨h1, h2, h3⟩ := dec_facts v.natAbs v.natAbs (by omega) (by omega)
    refine ⟨by simp, fun c hc => ?_, rfl⟩
    rw [List.map_cons] at hc
    rcases List.mem_cons.1 hc with rfl | hc
    · rfl
    · obtain ⟨b, hb, rfl⟩ := List.mem_map.1 hc
      exact dig b (h2 b hb)
  · obtain ⟨h1, h2, h3⟩ := dec_facts v.toNat v.toNat (by omega) (by omega)
    refine ⟨by simpa using h3, fun c hc => ?_, ?_⟩
    · obtain ⟨b, hb, rfl⟩ := List.mem_map.1 hc
      exact dig b (h2 b hb)
    · cases hd : Lib.decDigits v.toNat with
      | nil => exact absurd hd h3
      | cons c r =>
        have hc := h2 c (by rw [hd]; exact List.mem_cons_self ..)
        rw [List.map_cons, numB, Bool.or_eq_true, Bool.and_eq_true, decide_eq_true_eq, decide_eq_true_eq]
        right; omega
theorem numV_itoa {v : Int} (h : -most18 ≤ v ∧ v ≤ most18) : numV (itoaS v) = some v := by
  have hl := itoaL_len h
  have hz : (itoaS v).size ≤ 21 := by rw [← bs_length, bs_itoaS]; exact hl
  have e : gsexp_number 0 (itoaS v) = some (v, true) := by
    unfold gsexp_number
    have ha : atoiT (itoaS v) = some (v, false) := by
      unfold atoiT
      rw [if_pos (by omega)]
      have : (itoaS v).data.toList = Lib.itoa v := by simp [itoaS]
      rw [this, atoi_itoa h]
    rw [ha, Option.bind_some]
    simp only []
    have h' := h
    unfold most18 at h'
    rw [decide_eq_true (by omega : v ≥ -999999999999999999), decide_eq_true (by omega : v ≤ 999999999999999999), itoaT_ok3 h]
    simp
  unfold numV
  rw [e]
theorem atomR_itoa {v : Int} (h : -most18 ≤ v ∧ v ≤ most18) : atomR (itoaL v) = some (.atom (.mk 2 nilB3 v [])) := by
  unfold atomR
  rw [if_pos (itoaL_facts h).2.2, ← bs_itoaS, ofB_bs, numV_itoa h]; rfl

/-! printed trees, read again -/
theorem lex_runs {u : List Int} {t : Tk} (h0 : u ≠ []) (h1 : ∀ c ∈ u, inR c = true) (ht : atomR u = some t) {d : Int} (hd : inR d = false) (r : List Int) : lexF .blank (u ++ d :: r) = (lexF .blank (d :: r)).map (([t] : List Tk) ++ ·) := by
  cases u with
  | nil => exact absurd rfl h0
  | cons c u =>
    rw [List.cons_append, lex_word (h1 c (List.mem_cons_self ..)), lex_run u [c] _ (fun x hx => h1 x (List.mem_cons_of_mem _ hx)), List.singleton_append,
      lex_runEnd _ _ (fun c' r' e => by injection e with e _; rw [← e]; exact hd), ht]
    rfl
theorem wrS_head (l : List TTree) (r : List Int) : ∃ d q, wrS l ++ 41 :: r = d :: q ∧ inR d = false := by
  cases l with
  | nil => exact ⟨41, r, by rw [wrS]; rfl, rfl⟩
  | cons t l => exact ⟨32, wrT t ++ wrS l ++ 41 :: r, by rw [wrS]; rfl, rfl⟩
mutual
theorem lex_wrT : ∀ (t : TTree), FormT t → ∀ (d : Int) (r : List Int), inR d = false → lexF .blank (wrT t ++ d :: r) = (lexF .blank (d :: r)).map (toksT t ++ ·)
  | .mk k w v l, h, d, r, hd => by
    rcases form_cases h with rfl | rfl | rfl | rfl
    · obtain ⟨rfl, rfl, h3, h4, h5⟩ := form1.1 h
      rw [toksT, if_neg (by decide), wrT1]
      refine lex_runs h3 (List.all_eq_true.1 h4) ?_ hd r
      unfold atomR
      rw [h5, if_neg (by simp), ofB_bs]
    · obtain ⟨rfl, rfl, h3⟩ := form2.1 h
      rw [toksT, if_neg (by decide), wrT2]
      exact lex_runs (itoaL_facts h3).1 (itoaL_facts h3).2.1 (atomR_itoa h3) hd r
    · obtain ⟨rfl, rfl, h3⟩ := form3.1 h
      rw [toksT, if_neg (by decide), wrT3, List.cons_append, List.append_assoc, lex_quote, lex_text (bs w) [] _ (fun c hc => (inQ_iff c).1 (List.all_eq_true.1 h3 c hc)), List.nil_append, List.singleton_append, lex_textEnd, ofB_bs]
    · obtain ⟨rfl, rfl, h3⟩ := form4.1 h
      rw [toksT, if_pos rfl, wrT4, List.cons_append, List.append_assoc, lex_open, List.singleton_append, lex_wrH l h3, lex_close, omap_app, omap_app]
      rfl
theorem lex_wrH : ∀ (l : List TTree), FormL l → ∀ (r : List Int), lexF .blank (wrH l ++ 41 :: r) = (lexF .blank (41 :: r)).map (toksL l ++ ·)
  | [], _, r => by rw [wrH, toksL, List.nil_append]; exact (omap_nil _).symm
  | t :: l, h, r => by
    rw [FormL] at h
    have ih := lex_wrS l h.2 r
    obtain ⟨d, q, e1, e2⟩ := wrS_head l r
    rw [wrH, List.append_assoc, e1, lex_wrT t h.1 d q e2, ← e1, ih, omap_app, toksL]
theorem lex_wrS : ∀ (l : List TTree), FormL l → ∀ (r : List Int), lexF .blank (wrS l ++ 41 :: r) = (lexF .blank (41 :: r)).map (toksL l ++ ·)
  | [], _, r => by rw [wrS, toksL, List.nil_append]; exact (omap_nil _).symm
  | t :: l, h, r => by
    rw [FormL] at h
    have ih := lex_wrS l h.2 r
    obtain ⟨d, q, e1, e2⟩ := wrS_head l r
    rw [wrS, List.cons_append, lex_sp, List.append_assoc, e1, lex_wrT t h.1 d q e2, ← e1, ih, omap_app, toksL]
end
theorem lex_prP : ∀ (l : List TTree), FormL l → ∀ (r : List Int), lexF .blank (prP l ++ r) = (lexF .blank r).map (toksL l ++ ·)
  | [], _, r => by rw [prP, toksL, List.nil_append]; exact (omap_nil _).symm
  | t :: l, h, r => by
    rw [FormL] at h
    rw [prP, List.append_assoc, List.cons_append, lex_wrT t h.1 10 _ rfl, lex_nl, lex_prP l h.2 r, omap_app, toksL]
theorem parse_prP {l : List TTree} (h : FormL l) (hd : deepL l ≤ 32) (hc : cntL l ≤ 65536) : parseX (prP l) = some l := by
  rw [parseX_iff]
  have := lex_prP l h []
  rw [List.append_nil] at this
  refine ⟨?_, h, hd, hc⟩
  rw [this]
  show some (toksL l ++ []) = _
  rw [List.append_nil]

/-! write, Print -/
theorem write3 (N : Nat) : ∀ (k : Nat) (t : TTree) (acc : List Int), FormT t → szT t ≤ k → szT t < N → szT t ≤ 8000000 → acc.length + (wrT t).length ≤ 8000000 → gsexp_write_rec N k acc t = some (acc ++ wrT t) := by
  intro k
  induction k with
  | zero => intro t acc _ h _ _ _; rw [szT_eq] at h; omega
  | succ k ihk =>
    intro t acc hf hk hN hz h8
    obtain ⟨kd, w, v, l⟩ := t
    rw [szT] at hk hN hz
    rw [write_mk]
    rcases form_cases hf with rfl | rfl | rfl | rfl
    · rw [wrT1] at h8 ⊢
      simp only [beq_self_eq_true, cond_true]
      rw [appL_ok (by omega) (by omega)]; rfl
    · rw [wrT2] at h8 ⊢
      have e1 : ((2 : Int) == 1) = false := rfl
      simp only [e1, beq_self_eq_true, cond_true, cond_false]
      rw [itoaT_ok3 (form2.1 hf).2.2, Option.bind_some, bs_itoaS, appL_ok (by omega) (by omega)]; rfl
    · rw [wrT3] at h8 ⊢
      rw [List.length_cons, List.length_append, bs_length, List.length_singleton] at h8
      have e1 : ((3 : Int) == 1) = false := rfl
      have e2 : ((3 : Int) == 2) = false := rfl
      simp only [e1, e2, beq_self_eq_true, cond_true, cond_false]
      have z1 : (ByteArray.mk #[34]).size = 1 := rfl
      have hz : (ByteArray.mk #[34] ++ w).size = 1 + w.size := by rw [ByteArray.size_append, z1]
      rw [catS_ok (by omega), Option.bind_some, catS_ok (by omega), Option.bind_some]
      have hb : bs (ByteArray.mk #[34] ++ w ++ ByteArray.mk #[34]) = 34 :: (bs w ++ [34]) := by
        rw [bs_app, bs_app]; rfl
      rw [hb, appL_ok (by rw [List.length_cons, List.length_append, bs_length, List.length_singleton]; omega) (by omega)]; rfl
    · rw [wrT4] at h8 ⊢
      rw [List.length_cons, List.length_append, List.length_singleton] at h8
      have hfl := (form4.1 hf).2.2
      have e1 : ((4 : Int) == 1) = false := rfl
      have e2 : ((4 : Int) == 2) = false := rfl
      have e3 : ((4 : Int) == 3) = false := rfl
      simp only [e1, e2, e3, beq_self_eq_true, cond_true, cond_false]
      have hll := len_szL l
      have loop : ∀ (j y m : Nat) (acc : List Int), l.length - y ≤ j → j < m → y ≤ l.length → FormL (l.drop y) → acc.length + (if y = 0 then wrH (l.drop y) else wrS (l.drop y)).length ≤ 8000000 →
          gsexp_write_L1 N (gsexp_write_rec N k) (.mk 4 w v l) m (y : Int) acc = some (acc ++ if y = 0 then wrH (l.drop y) else wrS (l.drop y)) := by
        intro j
        induction j with
        | zero =>
          intro y m acc hj hm hy hfy h8
          obtain ⟨m, rfl⟩ : ∃ m', m = m' + 1 := ⟨m - 1, by omega⟩
          rw [gsexp_write_L1]
          have h1 : decide (((y : Nat) : Int) < (((TTree.mk 4 w v l).f_Kids.length : Nat) : Int)) = false := by simp only [TTree.f_Kids]; simp; omega
          rw [h1, List.drop_eq_nil_of_le (by omega), wrH, wrS]
          simp
        | succ j ih =>
          intro y m acc hj hm hy hfy h8
          obtain ⟨m, rfl⟩ : ∃ m', m = m' + 1 := ⟨m - 1, by omega⟩
          rw [gsexp_write_L1]
          by_cases hlt : y < l.length
          · have h1 : decide (((y : Nat) : Int) < (((TTree.mk 4 w v l).f_Kids.length : Nat) : Int)) = true := by simp only [TTree.f_Kids]; simp; omega
            rw [h1, atL_nat]
            simp only [TTree.f_Kids]
            rw [List.getElem?_eq_getElem hlt]
            simp only [Option.bind_some, cond_true]
            have hmem := szL_mem (List.getElem_mem hlt)
            rw [FormL_drop hlt] at hfy
            rw [List.drop_eq_getElem_cons hlt, wrH, wrS] at h8 ⊢
            rw [w64_succ (n := y) (by omega)]
            by_cases hy0 : y = 0
            · subst hy0
              rw [if_pos rfl] at h8 ⊢
              rw [List.length_append] at h8
              have h2 : decide (((0 : Nat) : Int) > 0) = false := decide_eq_false (by omega)
              rw [h2]
              simp only [cond_false, Option.bind_some]
              rw [ihk l[0] acc hfy.1 (by omega) (by omega) (by omega) (by omega)]
              simp only [Option.bind_some]
              have := ih (0 + 1) m (acc ++ wrT l[0]) (by omega) (by omega) (by omega) hfy.2 (by rw [if_neg (by omega), List.length_append]; omega)
              rw [if_neg (by omega)] at this
              rw [this, List.append_assoc]
            · rw [if_neg hy0] at h8 ⊢
              rw [List.length_cons, List.length_append] at h8
              have h2 : decide (((y : Nat) : Int) > 0) = true := decide_eq_true (by omega)
              rw [h2]
              simp only [cond_true]
              rw [appL_ok (by rw [List.length_singleton]; omega) (by omega)]
              simp only [Option.bind_some]
              rw [ihk l[y] (acc ++ [32]) hfy.1 (by omega) (by omega) (by omega) (by rw [List.length_append, List.length_singleton]; omega)]
              simp only [Option.bind_some]
              have := ih (y + 1) m (acc ++ [32] ++ wrT l[y]) (by omega) (by omega) (by omega) hfy.2 (by rw [if_neg (by omega), List.length_append, List.length_append, List.length_singleton]; omega)
              rw [if_neg (by omega)] at this
              rw [this]
              simp
          · have h1 : decide (((y : Nat) : Int) < (((TTree.mk 4 w v l).f_Kids.length : Nat) : Int)) = false := by simp only [TTree.f_Kids]; simp; omega
            rw [h1, List.drop_eq_nil_of_le (by omega), wrH, wrS]
            simp
      rw [appL_ok (by rw [List.length_singleton]; omega) (by omega)]
      simp only [Option.bind_some]
      have := loop l.length 0 N (acc ++ [40]) (by omega) (by omega) (by omega) (by rw [List.drop_zero]; exact hfl) (by rw [if_pos rfl, List.drop_zero, List.length_append, List.length_singleton]; omega)
      rw [if_pos rfl, List.drop_zero, show (((0 : Nat) : Nat) : Int) = 0 from rfl] at this
      rw [this]
      simp only [Option.bind_some]
      rw [appL_ok (by rw [List.length_append, List.length_append, List.length_singleton, List.length_singleton]; omega) (by omega)]
      simp
theorem print_L1_3 (n : Nat) (l : List TTree) (h8 : szL l ≤ 8000000) (hn : szL l < n) : ∀ (j y m a d : Nat), l.length - y ≤ j → j < m → y ≤ l.length → a + szL (l.drop y) ≤ 16000000 → d ≤ 16000000 →
    (FormL (l.drop y) → gsexp_Print_L1 n l m (y : Int) (a : Int) (d : Int) = some (.out (((a + cntL (l.drop y) : Nat) : Int), ((max d (deepL (l.drop y)) : Nat) : Int)))) ∧
    (¬ FormL (l.drop y) → gsexp_Print_L1 n l m (y : Int) (a : Int) (d : Int) = some (.ret (ByteArray.mk #[], 31))) := by
  have hll := len_szL l
  intro j
  induction j with
  | zero =>
    intro y m a d hj hm hy ha hd
    obtain ⟨m, rfl⟩ : ∃ m', m = m' + 1 := ⟨m - 1, by omega⟩
    rw [gsexp_Print_L1]
    have h1 : decide (((y : Nat) : Int) < ((l.length : Nat) : Int)) = false := by simp; omega
    rw [h1, List.drop_eq_nil_of_le (by omega)]
    refine ⟨fun _ => ?_, fun h => absurd (by rw [FormL]; trivial) h⟩
    rw [cntL, deepL, Nat.max_eq_left (by omega)]; rfl
  | succ j ih =>
    intro y m a d hj hm hy ha hd
    obtain ⟨m, rfl⟩ : ∃ m', m = m' + 1 := ⟨m - 1, by omega⟩
    rw [gsexp_Print_L1]
    by_cases hlt : y < l.length
    · have h1 : decide (((y : Nat) : Int) < ((l.length : Nat) : Int)) = true := by simp; omega
      have hmem := szL_mem (List.getElem_mem hlt)
      rw [szL_drop hlt] at ha
      rw [h1, atL_nat, List.getElem?_eq_getElem hlt]
      simp only [Option.bind_some, cond_true]
      have hdz := deep_szT l[y]
      have hcz := cnt_szT l[y]
      obtain ⟨b, n1, d1, g1, g2, g3⟩ := sound3 n n l[y] 0 a d (by omega) (by omega) (by omega) (by omega) (by omega) (by omega) hd
      have g1' : gsexp_sound n l[y] 0 (a : Int) (d : Int) = some (b, n1, d1) := g1
      rw [g1', FormL_drop hlt]
      simp only [Option.bind_some]
      cases b with
      | true =>
        obtain ⟨rfl, rfl⟩ := g3 rfl
        have hft := g2.1 rfl
        simp only [Bool.not_true, cond_false]
        rw [w64_succ (n := y) (by omega)]
        obtain ⟨k1, k2⟩ := ih (y + 1) m (a + cntT l[y]) (max d (0 + deepT l[y])) (by omega) (by omega) (by omega) (by omega) (by omega)
        refine ⟨fun h => ?_, fun h => k2 (fun h' => h ⟨hft, h'⟩)⟩
        rw [k1 h.2, cntL_drop hlt, deepL_drop hlt]
        congr 3 <;> omega
      | false =>
        simp only [Bool.not_false, cond_true]
        refine ⟨fun h => absurd (g2.2 h.1) (by simp), fun _ => trivial⟩
    · have h1 : decide (((y : Nat) : Int) < ((l.length : Nat) : Int)) = false := by simp; omega
      rw [h1, List.drop_eq_nil_of_le (by omega)]
      refine ⟨fun _ => ?_, fun h => absurd (by rw [FormL]; trivial) h⟩
      rw [cntL, deepL, Nat.max_eq_left (by omega)]; rfl
theorem print_L2_3 (n : Nat) (l : List TTree) (h8 : szL l ≤ 8000000) (hn : szL l < n) : ∀ (j y m : Nat) (acc : List Int), l.length - y ≤ j → j < m → y ≤ l.length → FormL (l.drop y) → acc.length + (prP (l.drop y)).length ≤ 8000000 →
    gsexp_Print_L2 n l m (y : Int) acc = some (acc ++ prP (l.drop y)) := by
  have hll := len_szL l
  intro j
  induction j with
  | zero =>
    intro y m acc hj hm hy hf ha
    obtain ⟨m, rfl⟩ : ∃ m', m = m' + 1 := ⟨m - 1, by omega⟩
    rw [gsexp_Print_L2]
    have h1 : decide (((y : Nat) : Int) < ((l.length : Nat) : Int)) = false := by simp; omega
    rw [h1, List.drop_eq_nil_of_le (by omega), prP, List.append_nil]; rfl
  | succ j ih =>
    intro y m acc hj hm hy hf ha
    obtain ⟨m, rfl⟩ : ∃ m', m = m' + 1 := ⟨m - 1, by omega⟩
    rw [gsexp_Print_L2]
    by_cases hlt : y < l.length
    · have h1 : decide (((y : Nat) : Int) < ((l.length : Nat) : Int)) = true := by simp; omega
      have hmem := szL_mem (List.getElem_mem hlt)
      rw [h1, atL_nat, List.getElem?_eq_getElem hlt]
      rw [FormL_drop hlt] at hf
      rw [List.drop_eq_getElem_cons hlt, prP] at ha ⊢
      rw [List.length_append, List.length_cons] at ha
      simp only [Option.bind_some, cond_true]
      have hw : gsexp_write n acc l[y] = some (acc ++ wrT l[y]) := write3 n n l[y] acc hf.1 (by omega) (by omega) (by omega) (by omega)
      rw [hw]
      simp only [Option.bind_some]
      rw [appL_ok (by rw [List.length_append, List.length_singleton]; omega) (by omega)]
      simp only [Option.bind_some]
      rw [w64_succ (n := y) (by omega), ih (y + 1) m _ (by omega) (by omega) (by omega) hf.2 (by rw [List.length_append, List.length_append, List.length_singleton]; omega)]
      simp
    · have h1 : decide (((y : Nat) : Int) < ((l.length : Nat) : Int)) = false := by simp; omega
      rw [h1, List.drop_eq_nil_of_le (by omega), prP, List.append_nil]; rfl
theorem Print_bad (n : Nat) (l : List TTree) (h8 : szL l ≤ 8000000) (hn : szL l < n) (h : ¬ FormL l) : gsexp_Print n l = some (ByteArray.mk #[], 31) := by
  have hll := len_szL l
  have := (print_L1_3 n l h8 hn l.length 0 n 0 0 (by omega) (by omega) (by omega) (by rw [List.drop_zero]; omega) (by omega)).2 (by rw [List.drop_zero]; exact h)
  rw [show (((0 : Nat) : Nat) : Int) = 0 from rfl] at this
  unfold gsexp_Print
  rw [this]; rfl
theorem Print_many (n : Nat) (l : List TTree) (h8 : szL l ≤ 8000000) (hn : szL l < n) (h : FormL l) (hm : 65536 < cntL l ∨ 32 < deepL l) : gsexp_Print n l = some (ByteArray.mk #[], 33) := by
  have hll := len_szL l
  have := (print_L1_3 n l h8 hn l.length 0 n 0 0 (by omega) (by omega) (by omega) (by rw [List.drop_zero]; omega) (by omega)).1 (by rw [List.drop_zero]; exact h)
  rw [show (((0 : Nat) : Nat) : Int) = 0 from rfl, List.drop_zero] at this
  unfold gsexp_Print
  rw [this]
  simp only [Option.bind_some]
  have : (decide (((0 + cntL l : Nat) : Int) > 65536) || decide (((max 0 (deepL l) : Nat) : Int) > 32)) = true := by
    rw [Bool.or_eq_true, decide_eq_true_eq, decide_eq_true_eq]; omega
  rw [this]; rfl
theorem Print_ok (n : Nat) (l : List TTree) (h8 : szL l ≤ 8000000) (hn : szL l < n) (h : FormL l) (hc : cntL l ≤ 65536) (hd : deepL l ≤ 32) (hp : (prP l).length ≤ 8000000) :
    gsexp_Print n l = some (if 262144 < (prP l).length then (ByteArray.mk #[], 33) else (ofB (prP l), 0)) := by
  have hll := len_szL l
  have := (print_L1_3 n l h8 hn l.length 0 n 0 0 (by omega) (by omega) (by omega) (by rw [List.drop_zero]; omega) (by omega)).1 (by rw [List.drop_zero]; exact h)
  rw [show (((0 : Nat) : Nat) : Int) = 0 from rfl, List.drop_zero] at this
  unfold gsexp_Print
  rw [this]
  simp only [Option.bind_some]
  have : (decide (((0 + cntL l : Nat) : Int) > 65536) || decide (((max 0 (deepL l) : Nat) : Int) > 32)) = false := by
    rw [Bool.or_eq_false_iff, decide_eq_false_iff_not, decide_eq_false_iff_not]; omega
  rw [this]
  have h2 := print_L2_3 n l h8 hn l.length 0 n [] (by omega) (by omega) (by omega) (by rw [List.drop_zero]; exact h) (by rw [List.drop_zero]; simpa using hp)
  rw [show (((0 : Nat) : Nat) : Int) = 0 from rfl, List.drop_zero, List.nil_append] at h2
  rw [h2]
  simp only [cond_false, Option.bind_some]
  by_cases hg : 262144 < (prP l).length
  · rw [if_pos hg, decide_eq_true (by omega)]; rfl
  · rw [if_neg hg, decide_eq_false (by omega)]
    simp only [cond_false, strT]
    rw [if_pos (by omega)]; rfl
/-- what was read is small -/
theorem parse_small {s : ByteArray} {x : List TTree} (hs : s.size ≤ 262144) (h : parseX (bs s) = some x) : FormL x ∧ deepL x ≤ 32 ∧ cntL x ≤ 65536 ∧ szL x ≤ 6100000 ∧ (prP x).length ≤ 6100000 ∧ lexF .blank (bs s) = some (toksL x) := by
  obtain ⟨h1, h2, h3, h4⟩ := (parseX_iff _ _).1 h
  have hz := (lexF_ok _ .blank _ trivial h1).2
  rw [bs_length] at hz
  have e : lsz .blank = 0 := rfl
  have := sz_tkL x h2
  have := prP_len x h2
  exact ⟨h2, h3, h4, by omega, by omega, h1⟩
end Go.DM
namespace Go.DM
open Go
set_option maxRecDepth 100000

theorem alive3 : gdovetaillaw03_sexpAlive 8000000 = some true := alive3_eq 7999700
theorem bs_ofB_pr {l : List TTree} (h : FormL l) : bs (ofB (prP l)) = prP l := by
  have tall : ∀ t, FormT t → ∀ c ∈ wrT t, 0 ≤ c ∧ c < 256 := by
    have key : ∀ n, (∀ t, szT t ≤ n → FormT t → ∀ c ∈ wrT t, 0 ≤ c ∧ c < 256) := by
      intro n
      induction n with
      | zero => intro t h; rw [szT_eq] at h; omega
      | succ n ih =>
        intro t hz hf c hc
        obtain ⟨k, w, v, l⟩ := t
        rw [szT] at hz
        rcases form_cases hf with rfl | rfl | rfl | rfl
        · rw [wrT1] at hc; exact bs_byte hc
        · rw [wrT2] at hc
          have := (inR_iff c).1 ((itoaL_facts (form2.1 hf).2.2).2.1 c hc)
          omega
        · rw [wrT3] at hc
          rcases List.mem_cons.1 hc with rfl | hc
          · omega
          · rcases List.mem_append.1 hc with hc | hc
            · exact bs_byte hc
            · rw [List.mem_singleton] at hc; omega
        · have hl := (form4.1 hf).2.2
          have hS : ∀ q : List TTree, szL q ≤ n → FormL q → ∀ c ∈ wrS q, 0 ≤ c ∧ c < 256 := by
            intro q
            induction q with
            | nil => intro _ _ c hc; rw [wrS] at hc; cases hc
            | cons t q ihq =>
              intro hq hfq c hc
              rw [szL] at hq
              rw [FormL] at hfq
              rw [wrS] at hc
              rcases List.mem_cons.1 hc with rfl | hc
              · omega
              · rcases List.mem_append.1 hc with hc | hc
                · exact ih t (by omega) hfq.1 c hc
                · exact ihq (by omega) hfq.2 c hc
          rw [wrT4] at hc
          rcases List.mem_cons.1 hc with rfl | hc
          · omega
          · rcases List.mem_append.1 hc with hc | hc
            · cases l with
              | nil => rw [wrH] at hc; cases hc
              | cons t q =>
                rw [szL] at hz
                rw [FormL] at hl
                rw [wrH] at hc
                rcases List.mem_append.1 hc with hc | hc
                · exact ih t (by omega) hl.1 c hc
                · exact hS q (by omega) hl.2 c hc
            · rw [List.mem_singleton] at hc; omega
    intro t; exact key _ t (Nat.le_refl _)
  refine bs_ofB ?_
  induction l with
  | nil => intro c hc; rw [prP] at hc; cases hc
  | cons t l ih =>
    intro c hc
    rw [FormL] at h
    rw [prP] at hc
    rcases List.mem_append.1 hc with hc | hc
    · exact tall t h.1 c hc
    · rcases List.mem_cons.1 hc with rfl | hc
      · omega
      · exact ih h.2 c hc
theorem size_ofB_pr (l : List TTree) : (ofB (prP l)).size = (prP l).length := size_ofB _

/-- SexpTwice's function gives true. -/
theorem sexp_twice (s : ByteArray) : gdovetaillaw03_SexpTwice 8000000 s = some true := by
  unfold gdovetaillaw03_SexpTwice
  rw [alive3]
  obtain ⟨x, a, e, h1, h2⟩ := Parse_eq 8000000 s (by omega)
  simp only [Option.bind_some, Bool.not_true, cond_false]
  rw [h1]
  simp only [Option.bind_some]
  rcases h2 with ⟨rfl, rfl, hs, hx⟩ | ⟨he, rfl, _⟩
  · obtain ⟨f1, f2, f3, f4, f5, f6⟩ := parse_small hs hx
    rw [Print_ok 8000000 x (by omega) (by omega) f1 f3 f2 (by omega)]
    simp only [Option.bind_some, bne_self_eq_false, cond_false]
    by_cases hp : 262144 < (prP x).length
    · rw [if_pos hp]; rfl
    · rw [if_neg hp]
      have hb := bs_ofB_pr f1
      have hz := size_ofB_pr x
      have hpx := parse_prP f1 f2 f3
      rw [← hb] at hpx
      simp only [bne_self_eq_false, cond_false]
      rw [Parse_ok 8000000 _ (by omega) (by omega) hpx]
      simp only [Option.bind_some, bne_self_eq_false, cond_false]
      rw [Same_refl3 8000000 x (by omega) (by omega)]
      simp only [Option.bind_some, Bool.not_true, cond_false]
      by_cases hq : (prP x).length > 262000
      · rw [decide_eq_true (by omega)]; rfl
      · rw [decide_eq_false (by omega)]
        simp only [cond_false]
        have z1 : (ByteArray.mk #[59, 32, 114, 101, 109, 97, 114, 107, 32, 40, 10, 32, 10]).size = 13 := rfl
        have z2 : (ByteArray.mk #[32, 59, 32, 34]).size = 4 := rfl
        rw [catS_ok (by omega), Option.bind_some, catS_ok (by rw [ByteArray.size_append]; omega), Option.bind_some]
        have hbs : bs (ByteArray.mk #[59, 32, 114, 101, 109, 97, 114, 107, 32, 40, 10, 32, 10] ++ ofB (prP x) ++ ByteArray.mk #[32, 59, 32, 34]) = 59 :: ([32, 114, 101, 109, 97, 114, 107, 32, 40] ++ 10 :: 32 :: 10 :: (prP x ++ [32, 59, 32, 34])) := by
          rw [bs_app, bs_app, hb]; rfl
        have hl : lexF .blank (59 :: ([32, 114, 101, 109, 97, 114, 107, 32, 40] ++ 10 :: 32 :: 10 :: (prP x ++ [32, 59, 32, 34]))) = some (toksL x) := by
          rw [lex_rem, lex_remark _ _ (by decide), lex_remnl, lex_sp, lex_nl, lex_prP x f1]
          have : lexF .blank [32, 59, 32, 34] = some [] := rfl
          rw [this]
          show some (toksL x ++ []) = _
          rw [List.append_nil]
        have hx3 := (parseX_iff _ x).2 ⟨hl, f1, f2, f3⟩
        rw [← hbs] at hx3
        rw [Parse_ok 8000000 _ (by omega) (by rw [ByteArray.size_append, ByteArray.size_append]; omega) hx3]
        simp only [Option.bind_some, beq_self_eq_true, cond_true]
        rw [Same_refl3 8000000 x (by omega) (by omega)]
        rfl
  · have : (e != 0) = true := by simpa using he
    rw [this]; rfl
theorem szL_app : ∀ (a b : List TTree), szL (a ++ b) = szL a + szL b
  | [], _ => by rw [szL]; simp
  | t :: r, b => by rw [List.cons_append, szL, szL, szL_app r b]; omega
/-- SexpJoins' function gives true. -/
theorem sexp_joins (s t : ByteArray) : gdovetaillaw03_SexpJoins 8000000 s t = some true := by
  unfold gdovetaillaw03_SexpJoins
  rw [alive3]
  obtain ⟨x, a, e, h1, h2⟩ := Parse_eq 8000000 s (by omega)
  obtain ⟨y, b, f, h3, h4⟩ := Parse_eq 8000000 t (by omega)
  simp only [Option.bind_some, Bool.not_true, cond_false]
  rw [h1, h3]
  simp only [Option.bind_some]
  by_cases hc : ((((e != 0) || (f != 0)) || (decide (((s.size : Nat) : Int) ≥ 262144))) || (decide (((t.size : Nat) : Int) ≥ (IntKind.wrap .i64 (262144 - ((s.size : Nat) : Int)))))) = true
  · rw [hc]; rfl
  · rw [Bool.eq_false_iff.2 hc]
    simp only [Bool.or_eq_true, bne_iff_ne, ne_eq, decide_eq_true_eq, not_or, Classical.not_not] at hc
    obtain ⟨⟨⟨rfl, rfl⟩, hs⟩, ht⟩ := hc
    rw [w64 (by omega) (by omega)] at ht
    rcases h2 with ⟨_, _, hs', hx⟩ | ⟨he, _⟩
    · rcases h4 with ⟨_, _, ht', hy⟩ | ⟨he, _⟩
      · obtain ⟨f1, f2, f3, f4, f5, f6⟩ := parse_small hs' hx
        obtain ⟨g1, g2, g3, g4, g5, g6⟩ := parse_small ht' hy
        simp only [cond_false]
        rw [Count_eq3 8000000 x (by omega) (by omega), Count_eq3 8000000 y (by omega) (by omega)]
        simp only [Option.bind_some]
        rw [show (((cntL x : Nat) : Int) + ((cntL y : Nat) : Int)) = ((cntL x + cntL y : Nat) : Int) by omega, w64 (n := ((cntL x + cntL y : Nat) : Int)) (by omega) (by omega)]
        by_cases hm : 65536 < cntL x + cntL y
        · rw [decide_eq_true (by omega)]; rfl
        · rw [decide_eq_false (by omega)]
          simp only [cond_false]
          have z1 : (ByteArray.mk #[10]).size = 1 := rfl
          rw [catS_ok (by omega), Option.bind_some, catS_ok (by rw [ByteArray.size_append]; omega), Option.bind_some]
          have hbs : bs (s ++ ByteArray.mk #[10] ++ t) = bs s ++ 10 :: bs t := by
            rw [bs_app, bs_app, List.append_assoc]; rfl
          have hl : lexF .blank (bs s ++ 10 :: bs t) = some (toksL (x ++ y)) := by
            rw [lex_join _ _ _ _ f6, g6, toksL_app]; rfl
          have hz : szL (x ++ y) ≤ 6100000 := by
            have hzz := (lexF_ok _ .blank _ trivial hl).2
            have e0 : lsz .blank = 0 := rfl
            have e1 := bs_length s
            have e2 := bs_length t
            rw [List.length_append, List.length_cons] at hzz
            have := sz_tkL (x ++ y) (FormL_app f1 g1)
            omega
          have hx3 := (parseX_iff _ (x ++ y)).2 ⟨hl, FormL_app f1 g1, by rw [deepL_app]; omega, by rw [cntL_app]; omega⟩
          rw [← hbs] at hx3
          rw [Parse_ok 8000000 _ (by omega) (by rw [ByteArray.size_append, ByteArray.size_append]; omega) hx3]
          have l1 := len_szL x
          have l2 := len_szL y
          rw [szL_app] at hz
          simp only [Option.bind_some, beq_self_eq_true, cond_true]
          rw [appL_ok (by rw [List.length_nil]; omega) (by omega), Option.bind_some, List.nil_append, appL_ok (by omega) (by omega), Option.bind_some, Same_refl3 8000000 (x ++ y) (by rw [szL_app]; omega) (by rw [szL_app]; omega)]
          rfl
      · exact absurd rfl he
    · exact absurd rfl he
/-- SexpWrapped's function gives true. -/
theorem sexp_wrapped (s : ByteArray) : gdovetaillaw03_SexpWrapped 8000000 s = some true := by
  unfold gdovetaillaw03_SexpWrapped
  rw [alive3]
  obtain ⟨x, a, e, h1, h2⟩ := Parse_eq 8000000 s (by omega)
  simp only [Option.bind_some, Bool.not_true, cond_false]
  rw [h1]
  simp only [Option.bind_some]
  by_cases hc : ((e != 0) || (decide (((s.size : Nat) : Int) > 262000))) = true
  · rw [hc]; rfl
  · rw [Bool.eq_false_iff.2 hc]
    simp only [Bool.or_eq_true, bne_iff_ne, ne_eq, decide_eq_true_eq, not_or, Classical.not_not] at hc
    obtain ⟨rfl, hs⟩ := hc
    rcases h2 with ⟨_, _, hs', hx⟩ | ⟨he, _⟩
    · obtain ⟨f1, f2, f3, f4, f5, f6⟩ := parse_small hs' hx
      simp only [cond_false]
      rw [Count_eq3 8000000 x (by omega) (by omega)]
      simp only [Option.bind_some]
      by_cases hm : 65536 ≤ cntL x
      · rw [decide_eq_true (by omega)]; rfl
      · rw [decide_eq_false (by omega)]
        simp only [cond_false]
        rw [Deep_eq3 8000000 x (by omega) (by omega)]
        simp only [Option.bind_some]
        by_cases hd : 32 ≤ deepL x
        · rw [decide_eq_true (by omega)]; rfl
        · rw [decide_eq_false (by omega)]
          simp only [cond_false]
          have z1 : (ByteArray.mk #[40]).size = 1 := rfl
          have z2 : (ByteArray.mk #[10, 41]).size = 2 := rfl
          rw [catS_ok (by omega), Option.bind_some, catS_ok (by rw [ByteArray.size_append]; omega), Option.bind_some]
          have hbs : bs (ByteArray.mk #[40] ++ s ++ ByteArray.mk #[10, 41]) = 40 :: (bs s ++ 10 :: [41]) := by
            rw [bs_app, bs_app, List.append_assoc]; rfl
          have hl : lexF .blank (40 :: (bs s ++ 10 :: [41])) = some (toksL [.mk 4 nilB3 0 x]) := by
            rw [lex_open, lex_join _ _ _ _ f6, toksL, toksL, toksT, if_pos rfl, List.append_nil]; rfl
          have hx3 := (parseX_iff _ [.mk 4 nilB3 0 x]).2 ⟨hl, by rw [FormL, FormL]; exact ⟨form4.2 ⟨rfl, rfl, f1⟩, trivial⟩, by rw [deepL, deepL, deepT, if_pos rfl]; omega, by rw [cntL, cntL, cntT]; omega⟩
          rw [← hbs] at hx3
          rw [Parse_ok 8000000 _ (by omega) (by rw [ByteArray.size_append, ByteArray.size_append]; omega) hx3]
          have e1 : atL [TTree.mk 4 nilB3 0 x] 0 = some (.mk 4 nilB3 0 x) := rfl
          simp only [Option.bind_some, beq_self_eq_true, List.length_singleton]
          have e2 : (((1 : Nat) : Int) == 1) = true := rfl
          rw [e2, e1]
          simp only [Option.bind_some, Bool.and_self, cond_true]
          have e3 : ((TTree.mk 4 nilB3 0 x).f_Kind == 4) = true := rfl
          rw [e3]
          simp only [cond_true]
          have e4 : (TTree.mk 4 nilB3 0 x).f_Kids = x := rfl
          rw [e4, Same_refl3 8000000 x (by omega) (by omega)]
          rfl
    · exact absurd rfl he
end Go.DM
