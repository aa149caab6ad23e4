/- Plain laws of sexp, first part: a text's tokens by a state machine, trees out of tokens, and both ways between them. No condition. -/
import Derived.Test.YtnkingoidodnlaaGreatDoorWalkA
import Derived.Test.YtnkingoidodnlaaGreatDoorDmF
import Derived.Lib.AtoiAllCases
namespace Go.DM
open Go

def nilB3 : ByteArray := ByteArray.mk #[]
def inR (c : Int) : Bool := (((decide (c > 32) && decide (c < 127)) && !(c == 40)) && !(c == 41)) && (!(c == 34) && !(c == 59))
theorem inR_iff (c : Int) : inR c = true ↔ (32 < c ∧ c < 127 ∧ c ≠ 40 ∧ c ≠ 41 ∧ c ≠ 34 ∧ c ≠ 59) := by
 unfold inR
 simp only [Bool.and_eq_true, Bool.not_eq_true', decide_eq_true_eq, beq_eq_false_iff_ne, ne_eq]
 constructor
 ·rintro ⟨⟨⟨⟨a, b⟩, c⟩, d⟩, e, f⟩; exact ⟨a, b, c, d, e, f⟩
 ·rintro ⟨a, b, c, d, e, f⟩; exact ⟨⟨⟨⟨a, b⟩, c⟩, d⟩, e, f⟩
inductive Tk where
 | opn
 | cls
 | atom (t : Ae)
inductive LS where
 | blank
 | remark
 | text (a : List Int)
 | run (a : List Int)
def numB : List Int → Bool
 | [] => false
 | c :: _ => (c == 45) || (decide (c ≥ 48) && decide (c ≤ 57))
def numV (s : ByteArray) : Option Int := match Gs 0 s with
 | some (v, true) => some v
 | _ => none
def atomR (a : List Int) : Option Tk := if numB a = true then (numV (ofB a)).map (fun v => .atom (.mk 2 nilB3 v [])) else some (.atom (.mk 1 (ofB a) 0 []))
def stepB (c : Int) : Option (List Tk × LS) :=
 if c = 32 ∨ c = 10 then some ([], .blank) else if c = 59 then some ([], .remark) else if c = 40 then some ([.opn], .blank) else if c = 41 then some ([.cls], .blank) else if c = 34 then some ([], .text []) else if inR c = true then some ([], .run [c]) else none
def stepL : LS → Int → Option (List Tk × LS)
 | .blank, c => stepB c
 | .remark, c => some ([], if c = 10 then .blank else .remark)
 | .text a, c => if c = 34 then some ([.atom (.mk 3 (ofB a) 0 [])], .blank) else if c < 32 ∨ c > 126 then none else some ([], .text (a ++ [c]))
 | .run a, c => if inR c = true then some ([], .run (a ++ [c])) else (atomR a).bind fun t => (stepB c).map fun p => (t :: p.1, p.2)
def finL : LS → Option (List Tk)
 | .blank => some []
 | .remark => some []
 | .text _ => none
 | .run a => (atomR a).map fun t => [t]
def Cp : LS → List Int → Option (List Tk)
 | st, [] => finL st
 | st, c :: r => (stepL st c).bind fun p => (Cp p.2 r).map (p.1 ++ ·)

theorem omap_nil (x : Option (List Tk)) : x.map (([] : List Tk) ++ ·) = x := by cases x <;> rfl
theorem omap_app (x : Option (List Tk)) (a b : List Tk) : (x.map (b ++ ·)).map (a ++ ·) = x.map ((a ++ b) ++ ·) := by cases x <;> simp
theorem fin_nl {st : LS} {o : List Tk} (h : finL st = some o) : stepL st 10 = some (o, .blank) := by
 cases st with
 | blank => cases h; rfl
 | remark => cases h; rfl
 | text a => cases h
 | run a =>
  simp only [finL] at h
  simp only [stepL]
  cases ha : atomR a with
  | none => rw [ha] at h; cases h
  | some t => rw [ha] at h; cases h; rfl
theorem lex_join : ∀ (a : List Int) (st : LS) (ta : List Tk) (b : List Int), Cp st a = some ta → Cp st (a ++ 10 :: b) = (Cp .blank b).map (ta ++ ·)
 | [], st, ta, b, h => by
  rw [List.nil_append, Cp, fin_nl h]; rfl
 | c :: r, st, ta, b, h => by
  rw [List.cons_append, Cp]
  rw [Cp] at h
  cases hs : stepL st c with
  | none => rw [hs] at h; cases h
  | some p =>
   rw [hs] at h
   simp only [Option.bind_some] at h ⊢
   cases hr : Cp p.2 r with
   | none => rw [hr] at h; cases h
   | some t =>
    rw [hr] at h; cases h
    rw [lex_join r p.2 t b hr, omap_app]
theorem lex_open (l : List Int) : Cp .blank (40 :: l) = (Cp .blank l).map (([.opn] : List Tk) ++ ·) := rfl
theorem lex_close (l : List Int) : Cp .blank (41 :: l) = (Cp .blank l).map (([.cls] : List Tk) ++ ·) := rfl
theorem lex_sp (l : List Int) : Cp .blank (32 :: l) = Cp .blank l := omap_nil _
theorem lex_nl (l : List Int) : Cp .blank (10 :: l) = Cp .blank l := omap_nil _
theorem lex_rem (l : List Int) : Cp .blank (59 :: l) = Cp .remark l := omap_nil _
theorem lex_remnl (l : List Int) : Cp .remark (10 :: l) = Cp .blank l := omap_nil _
theorem lex_rem1 {c : Int} (h : c ≠ 10) (l : List Int) : Cp .remark (c :: l) = Cp .remark l := by
 rw [Cp, stepL, if_neg h]; exact omap_nil _
theorem lex_remark : ∀ (u v : List Int), (∀ c ∈ u, c ≠ 10) → Cp .remark (u ++ v) = Cp .remark v
 | [], _, _ => rfl
 | c :: u, v, h => by
  rw [List.cons_append, lex_rem1 (h c (List.mem_cons_self ..)), lex_remark u v (fun x hx => h x (List.mem_cons_of_mem _ hx))]
theorem lex_run : ∀ (u a : List Int) (v : List Int), (∀ c ∈ u, inR c = true) → Cp (.run a) (u ++ v) = Cp (.run (a ++ u)) v
 | [], a, v, _ => by rw [List.nil_append, List.append_nil]
 | c :: u, a, v, h => by
  rw [List.cons_append, Cp, stepL, if_pos (h c (List.mem_cons_self ..))]
  show (Cp (.run (a ++ [c])) (u ++ v)).map _ = _
  rw [omap_nil, lex_run u _ v (fun x hx => h x (List.mem_cons_of_mem _ hx)), List.append_assoc]; rfl
theorem lex_runEnd (a v : List Int) (h : ∀ c r, v = c :: r → inR c = false) : Cp (.run a) v = (atomR a).bind fun t => (Cp .blank v).map (([t] : List Tk) ++ ·) := by
 cases v with
 | nil => rw [Cp, Cp, finL, finL]; cases atomR a <;> rfl
 | cons c r =>
  have hc := h c r rfl
  have hc' : ¬ inR c = true := by rw [hc]; simp
  rw [Cp, Cp]
  simp only [stepL]
  rw [if_neg hc']
  cases atomR a with
  | none => rfl
  | some t =>
   simp only [Option.bind_some]
   cases stepB c with
   | none => rfl
   | some p =>
    simp only [Option.map_some, Option.bind_some]
    rw [omap_app]; rfl
theorem lex_text : ∀ (u a : List Int) (v : List Int), (∀ c ∈ u, 32 ≤ c ∧ c ≤ 126 ∧ c ≠ 34) → Cp (.text a) (u ++ v) = Cp (.text (a ++ u)) v
 | [], a, v, _ => by rw [List.nil_append, List.append_nil]
 | c :: u, a, v, h => by
  have hc := h c (List.mem_cons_self ..)
  rw [List.cons_append, Cp, stepL, if_neg hc.2.2, if_neg (by omega)]
  show (Cp (.text (a ++ [c])) (u ++ v)).map _ = _
  rw [omap_nil, lex_text u _ v (fun x hx => h x (List.mem_cons_of_mem _ hx)), List.append_assoc]; rfl
theorem lex_textEnd (a v : List Int) : Cp (.text a) (34 :: v) = (Cp .blank v).map (([.atom (.mk 3 (ofB a) 0 [])] : List Tk) ++ ·) := rfl
theorem lex_textBad (a : List Int) {c : Int} (v : List Int) (h : c ≠ 34) (h' : c < 32 ∨ c > 126) : Cp (.text a) (c :: v) = none := by
 rw [Cp, stepL, if_neg h, if_pos h']; rfl
theorem lex_quote (l : List Int) : Cp .blank (34 :: l) = Cp (.text []) l := omap_nil _
theorem lex_word {c : Int} (hc : inR c = true) (l : List Int) : Cp .blank (c :: l) = Cp (.run [c]) l := by
 have h := (inR_iff c).1 hc
 rw [Cp, stepL, stepB, if_neg (by omega), if_neg (by omega), if_neg (by omega), if_neg (by omega), if_neg (by omega), if_pos hc]
 exact omap_nil _
theorem lex_bad {c : Int} (hc : inR c = false) (h : c ≠ 32 ∧ c ≠ 10 ∧ c ≠ 59 ∧ c ≠ 40 ∧ c ≠ 41 ∧ c ≠ 34) (l : List Int) : Cp .blank (c :: l) = none := by
 rw [Cp, stepL, stepB, if_neg (by omega), if_neg (by omega), if_neg (by omega), if_neg (by omega), if_neg (by omega), if_neg (by rw [hc]; simp)]
 rfl

mutual
def toksT : Ae → List Tk
 | .mk k w v l => if k = 4 then .opn :: (toksL l ++ [.cls]) else [.atom (.mk k w v l)]
def toksL : List Ae → List Tk
 | [] => []
 | t :: r => toksT t ++ toksL r
end
mutual
def cntT : Ae → Nat
 | .mk _ _ _ l => cntL l + 1
def cntL : List Ae → Nat
 | [] => 0
 | t :: r => cntT t + cntL r
end
mutual
def deepT : Ae → Nat
 | .mk k _ _ l => if k = 4 then deepL l + 1 else 0
def deepL : List Ae → Nat
 | [] => 0
 | t :: r => max (deepT t) (deepL r)
end
def most18 : Int := 999999999999999999
def AtomOk (t : Ae) : Prop :=
 (t.f_Kind = 1 ∧ t.f_Num = 0 ∧ t.f_Kids = [] ∧ bs t.f_Word ≠ [] ∧ (∀ c ∈ bs t.f_Word, inR c = true) ∧ numB (bs t.f_Word) = false) ∨
 (t.f_Kind = 2 ∧ t.f_Word = nilB3 ∧ t.f_Kids = [] ∧ -most18 ≤ t.f_Num ∧ t.f_Num ≤ most18) ∨
 (t.f_Kind = 3 ∧ t.f_Num = 0 ∧ t.f_Kids = [] ∧ ∀ c ∈ bs t.f_Word, 32 ≤ c ∧ c ≤ 126 ∧ c ≠ 34)
mutual
def FormT : Ae → Prop
 | .mk k w v l => (k = 4 ∧ w = nilB3 ∧ v = 0 ∧ FormL l) ∨ (k ≠ 4 ∧ AtomOk (.mk k w v l))
def FormL : List Ae → Prop
 | [] => True
 | t :: r => FormT t ∧ FormL r
end
theorem AtomOk.ne4 {t : Ae} (h : AtomOk t) : t.f_Kind ≠ 4 := by
 rcases h with h | h | h <;> omega
theorem AtomOk.kids {t : Ae} (h : AtomOk t) : t.f_Kids = [] := by
 rcases h with h | h | h
 ·exact h.2.2.1
 ·exact h.2.2.1
 ·exact h.2.2.1
theorem AtomOk.tree {t : Ae} (h : AtomOk t) : FormT t ∧ toksT t = [.atom t] ∧ cntT t = 1 ∧ deepT t = 0 := by
 have h4 := h.ne4
 have hk := h.kids
 obtain ⟨k, w, v, l⟩ := t
 simp only [Ae.f_Kind, Ae.f_Kids] at h4 hk
 subst hk
 refine ⟨?_, ?_, ?_, ?_⟩
 ·rw [FormT]; exact .inr ⟨h4, h⟩
 ·rw [toksT, if_neg h4]
 ·rw [cntT, cntL]
 ·rw [deepT, if_neg h4]
theorem toksL_app : ∀ (a b : List Ae), toksL (a ++ b) = toksL a ++ toksL b
 | [], _ => by rw [toksL]; rfl
 | t :: r, b => by rw [List.cons_append, toksL, toksL, toksL_app r b, List.append_assoc]
theorem cntL_app : ∀ (a b : List Ae), cntL (a ++ b) = cntL a + cntL b
 | [], _ => by rw [cntL]; simp
 | t :: r, b => by rw [List.cons_append, cntL, cntL, cntL_app r b]; omega
theorem deepL_app : ∀ (a b : List Ae), deepL (a ++ b) = max (deepL a) (deepL b)
 | [], _ => by rw [deepL]; simp
 | t :: r, b => by rw [List.cons_append, deepL, deepL, deepL_app r b]; omega
theorem FormL_app : ∀ {a b : List Ae}, FormL a → FormL b → FormL (a ++ b)
 | [], _, _, h => h
 | t :: r, b, ha, hb => by
  rw [FormL] at ha
  rw [List.cons_append, FormL]; exact ⟨ha.1, FormL_app ha.2 hb⟩
def gram : List (List Ae) → List Ae → Nat → List Tk → Option (List Ae × Nat)
 | [], acc, n, [] => some (acc, n)
 | _ :: _, _, _, [] => none
 | stk, acc, n, .atom t :: r => if 65536 < n + 1 then none else gram stk (acc ++ [t]) (n + 1) r
 | stk, acc, n, .opn :: r => if 65536 < n + 1 ∨ 32 < stk.length + 1 then none else gram (acc :: stk) [] (n + 1) r
 | [], _, _, .cls :: _ => none
 | p :: stk, acc, n, .cls :: r => gram stk (p ++ [.mk 4 nilB3 0 acc]) n r
theorem gram_atom (stk : List (List Ae)) (acc : List Ae) (n : Nat) (t : Ae) (r : List Tk) : gram stk acc n (.atom t :: r) = if 65536 < n + 1 then none else gram stk (acc ++ [t]) (n + 1) r := by
 cases stk <;> rw [gram]
theorem gram_opn (stk : List (List Ae)) (acc : List Ae) (n : Nat) (r : List Tk) : gram stk acc n (.opn :: r) = if 65536 < n + 1 ∨ 32 < stk.length + 1 then none else gram (acc :: stk) [] (n + 1) r := by
 cases stk <;> rw [gram]

mutual
theorem gramT : ∀ (t : Ae) (stk : List (List Ae)) (acc : List Ae) (n : Nat) (r : List Tk), FormT t → n + cntT t ≤ 65536 → stk.length + deepT t ≤ 32 → gram stk acc n (toksT t ++ r) = gram stk (acc ++ [t]) (n + cntT t) r
 | .mk k w v l, stk, acc, n, r, hf, hn, hd => by
  rw [FormT] at hf
  rcases hf with ⟨rfl, rfl, rfl, hl⟩ | ⟨hk, ha⟩
  ·rw [cntT] at hn
   rw [deepT, if_pos rfl] at hd
   rw [toksT, if_pos rfl, List.cons_append, gram_opn, if_neg (by omega), List.append_assoc, gramL l _ _ _ _ hl (by omega) (by rw [List.length_cons]; omega), List.nil_append]
   show gram (acc :: stk) l _ (.cls :: r) = _
   rw [gram, cntT]
   congr 1; omega
  ·obtain ⟨_, h2, h3, _⟩ := ha.tree
   rw [h2, h3, List.singleton_append, gram_atom, if_neg (by omega)]
theorem gramL : ∀ (l : List Ae) (stk : List (List Ae)) (acc : List Ae) (n : Nat) (r : List Tk), FormL l → n + cntL l ≤ 65536 → stk.length + deepL l ≤ 32 → gram stk acc n (toksL l ++ r) = gram stk (acc ++ l) (n + cntL l) r
 | [], stk, acc, n, r, _, _, _ => by rw [toksL, cntL, List.nil_append, List.append_nil, Nat.add_zero]
 | t :: l, stk, acc, n, r, hf, hn, hd => by
  rw [FormL] at hf
  rw [cntL] at hn
  rw [deepL] at hd
  rw [toksL, List.append_assoc, gramT t _ _ _ _ hf.1 (by omega) (by omega), gramL l _ _ _ _ hf.2 (by omega) (by omega), cntL, List.append_assoc, List.singleton_append, Nat.add_assoc]
end
def pend : List (List Ae) → List Ae → List Tk
 | [], acc => toksL acc
 | p :: stk, acc => pend stk p ++ .opn :: toksL acc
def GInv : List (List Ae) → List Ae → Nat → Prop
 | [], acc, n => FormL acc ∧ deepL acc ≤ 32 ∧ cntL acc = n
 | p :: stk, acc, n => FormL acc ∧ deepL acc + (stk.length + 1) ≤ 32 ∧ ∃ m, GInv stk p m ∧ m + 1 + cntL acc = n
theorem GInv.push {stk : List (List Ae)} {acc : List Ae} {n : Nat} (h : GInv stk acc n) (t : Ae) (ht : FormT t) (hd : deepT t + stk.length ≤ 32) : GInv stk (acc ++ [t]) (n + cntT t) := by
 have e1 : deepL (acc ++ [t]) = max (deepL acc) (deepT t) := by rw [deepL_app, deepL, deepL]; omega
 have e2 : cntL (acc ++ [t]) = cntL acc + cntT t := by rw [cntL_app, cntL, cntL]; omega
 have e3 : FormL [t] := by rw [FormL, FormL]; exact ⟨ht, trivial⟩
 cases stk with
 | nil =>
  obtain ⟨a, b, c⟩ := h
  simp only [List.length_nil] at hd
  exact ⟨FormL_app a e3, by omega, by omega⟩
 | cons p stk =>
  obtain ⟨a, b, m, c, d⟩ := h
  simp only [List.length_cons] at hd
  exact ⟨FormL_app a e3, by omega, m, c, by omega⟩
theorem pend_push : ∀ (stk : List (List Ae)) (acc : List Ae) (t : Ae), pend stk (acc ++ [t]) = pend stk acc ++ toksT t
 | [], acc, t => by rw [pend, pend, toksL_app, toksL, toksL, List.append_nil]
 | p :: stk, acc, t => by rw [pend, pend, toksL_app, toksL, toksL, List.append_nil, List.append_assoc]; rfl
theorem gram_sound : ∀ (ts : List Tk) (stk : List (List Ae)) (acc : List Ae) (n : Nat) (x : List Ae) (m : Nat), (∀ t, Tk.atom t ∈ ts → AtomOk t) → GInv stk acc n → n ≤ 65536 → gram stk acc n ts = some (x, m) →
  toksL x = pend stk acc ++ ts ∧ FormL x ∧ deepL x ≤ 32 ∧ cntL x = m ∧ m ≤ 65536
 | [], stk, acc, n, x, m, _, hi, hn, h => by
  cases stk with
  | nil =>
   rw [gram] at h
   cases h
   exact ⟨by rw [pend, List.append_nil], hi.1, hi.2.1, hi.2.2, hn⟩
  | cons p stk => rw [gram] at h; cases h
 | .atom t :: r, stk, acc, n, x, m, ha, hi, hn, h => by
  rw [gram_atom] at h
  split at h
  ·cases h
  have ht := ha t (List.mem_cons_self ..)
  obtain ⟨h1, h2, h3, h4⟩ := ht.tree
  have hs : stk.length ≤ 32 := by
   cases stk with
   | nil => simp
   | cons p s => have := hi.2.1; rw [List.length_cons]; omega
  have hi' := hi.push t h1 (by omega)
  rw [h3] at hi'
  obtain ⟨g1, g2⟩ := gram_sound r stk _ _ x m (fun u hu => ha u (List.mem_cons_of_mem _ hu)) hi' (by omega) h
  exact ⟨by rw [g1, pend_push, h2, List.append_assoc]; rfl, g2⟩
 | .opn :: r, stk, acc, n, x, m, ha, hi, hn, h => by
  rw [gram_opn] at h
  split at h
  ·cases h
  have hi' : GInv (acc :: stk) [] (n + 1) := ⟨by rw [FormL]; trivial, by rw [deepL]; omega, n, hi, by rw [cntL]⟩
  obtain ⟨g1, g2⟩ := gram_sound r (acc :: stk) [] (n + 1) x m (fun u hu => ha u (List.mem_cons_of_mem _ hu)) hi' (by omega) h
  exact ⟨by rw [g1, pend, toksL, List.append_assoc]; rfl, g2⟩
 | .cls :: r, [], acc, n, x, m, ha, hi, hn, h => by rw [gram] at h; cases h
 | .cls :: r, p :: stk, acc, n, x, m, ha, hi, hn, h => by
  rw [gram] at h
  obtain ⟨a, b, k, c, d⟩ := hi
  have e : cntT (.mk 4 nilB3 0 acc) = cntL acc + 1 := by rw [cntT]
  have hi' : GInv stk (p ++ [.mk 4 nilB3 0 acc]) n := by
   have := c.push (.mk 4 nilB3 0 acc) (by rw [FormT]; exact .inl ⟨rfl, rfl, rfl, a⟩) (by rw [deepT, if_pos rfl]; omega)
   rw [e] at this
   rwa [show k + (cntL acc + 1) = n by omega] at this
  obtain ⟨g1, g2⟩ := gram_sound r stk _ n x m (fun u hu => ha u (List.mem_cons_of_mem _ hu)) hi' hn h
  refine ⟨?_, g2⟩
  rw [g1, pend_push, toksT, if_pos rfl, pend, List.append_assoc, List.append_assoc]
  simp

theorem numV_bounds {s : ByteArray} {v : Int} (h : numV s = some v) : -most18 ≤ v ∧ v ≤ most18 ∧ itoaT v = some s := by
 unfold numV at h
 split at h
 ·rename_i v' hv
  cases h
  unfold Gs at hv
  cases ha : atoiT s with
  | none => rw [ha] at hv; cases hv
  | some p =>
   obtain ⟨u, b⟩ := p
   rw [ha] at hv
   simp only [Option.bind_some] at hv
   cases hc : ((!b) && (decide (u ≥ (-999999999999999999)))) && (decide (u ≤ 999999999999999999))
   ·rw [hc] at hv
    simp at hv
   ·rw [hc] at hv
    simp only [Bool.and_eq_true, Bool.not_eq_true', decide_eq_true_eq] at hc
    simp only [cond_true] at hv
    cases hi : itoaT u with
    | none => rw [hi] at hv; cases hv
    | some q =>
     rw [hi] at hv
     simp only [Option.bind_some, Option.some.injEq, Prod.mk.injEq, decide_eq_true_eq] at hv
     obtain ⟨rfl, rfl⟩ := hv
     exact ⟨by unfold most18; omega, by unfold most18; omega, hi⟩
 ·cases h
def tkz : Tk → Nat
 | .opn => 3
 | .cls => 3
 | .atom t => if t.f_Kind = 2 then 23 else t.f_Word.size + 3
def tkzs : List Tk → Nat
 | [] => 0
 | t :: r => tkz t + tkzs r
theorem tkzs_app : ∀ (a b : List Tk), tkzs (a ++ b) = tkzs a + tkzs b
 | [], _ => by rw [tkzs]; simp
 | t :: r, b => by rw [List.cons_append, tkzs, tkzs, tkzs_app r b]; omega
def LSOk : LS → Prop
 | .blank => True
 | .remark => True
 | .text a => ∀ c ∈ a, 32 ≤ c ∧ c ≤ 126 ∧ c ≠ 34
 | .run a => a ≠ [] ∧ ∀ c ∈ a, inR c = true
def lsz : LS → Nat
 | .blank => 0
 | .remark => 0
 | .text a => a.length + 1
 | .run a => a.length
theorem size_ofB (a : List Int) : (ofB a).size = a.length := by
 show (a.map _).toArray.size = _
 simp
theorem atomR_ok {a : List Int} {t : Tk} (h0 : a ≠ []) (h1 : ∀ c ∈ a, inR c = true) (h : atomR a = some t) : ∃ u, t = .atom u ∧ AtomOk u ∧ tkz t ≤ 23 * a.length := by
 have hl : 1 ≤ a.length := by cases a with | nil => exact absurd rfl h0 | cons _ _ => simp
 have hb : bs (ofB a) = a := bs_ofB (fun c hc => by have := (inR_iff c).1 (h1 c hc); omega)
 unfold atomR at h
 split at h
 ·cases hv : numV (ofB a) with
  | none => rw [hv] at h; cases h
  | some v =>
   rw [hv] at h; cases h
   have := numV_bounds hv
   exact ⟨_, rfl, .inr (.inl ⟨rfl, rfl, rfl, this.1, this.2.1⟩), by simp only [tkz, Ae.f_Kind, if_true]; omega⟩
 ·rename_i hn
  cases h
  refine ⟨_, rfl, .inl ⟨rfl, rfl, rfl, ?_, ?_, ?_⟩, ?_⟩
  ·show bs (ofB a) ≠ []; rw [hb]; exact h0
  ·show ∀ c ∈ bs (ofB a), _; rw [hb]; exact h1
  ·show numB (bs (ofB a)) = false; rw [hb]; simpa using hn
  ·simp only [tkz, Ae.f_Kind, Ae.f_Word, size_ofB]
   rw [if_neg (by decide)]; omega
theorem stepB_ok {c : Int} {o : List Tk} {st : LS} (h : stepB c = some (o, st)) : LSOk st ∧ (∀ t, Tk.atom t ∈ o → AtomOk t) ∧ tkzs o + 23 * lsz st ≤ 23 := by
 unfold stepB at h
 split at h
 ·cases h; exact ⟨trivial, by simp, by simp [tkzs, lsz]⟩
 split at h
 ·cases h; exact ⟨trivial, by simp, by simp [tkzs, lsz]⟩
 split at h
 ·cases h; exact ⟨trivial, by simp, by simp [tkzs, tkz, lsz]⟩
 split at h
 ·cases h; exact ⟨trivial, by simp, by simp [tkzs, tkz, lsz]⟩
 split at h
 ·cases h; exact ⟨by simp [LSOk], by simp, by simp [tkzs, lsz]⟩
 split at h
 ·rename_i hc
  cases h; exact ⟨⟨by simp, by simpa using hc⟩, by simp, by simp [tkzs, lsz]⟩
 ·cases h
theorem stepL_ok {s0 st : LS} {c : Int} {o : List Tk} (h0 : LSOk s0) (h : stepL s0 c = some (o, st)) : LSOk st ∧ (∀ t, Tk.atom t ∈ o → AtomOk t) ∧ tkzs o + 23 * lsz st ≤ 23 * lsz s0 + 23 := by
 cases s0 with
 | blank =>
  have := stepB_ok h
  exact ⟨this.1, this.2.1, by simp only [lsz] at *; omega⟩
 | remark =>
  cases h
  split
  ·exact ⟨trivial, by simp, by simp [tkzs, lsz]⟩
  ·exact ⟨trivial, by simp, by simp [tkzs, lsz]⟩
 | text a =>
  simp only [stepL] at h
  split at h
  ·cases h
   have h0' : ∀ c ∈ a, 32 ≤ c ∧ c ≤ 126 ∧ c ≠ 34 := h0
   have hb : bs (ofB a) = a := bs_ofB (fun c hc => by have := h0' c hc; omega)
   refine ⟨trivial, fun t ht => ?_, ?_⟩
   ·rw [List.mem_singleton] at ht
    cases ht
    refine .inr (.inr ⟨rfl, rfl, rfl, ?_⟩)
    show ∀ c ∈ bs (ofB a), _
    rw [hb]; exact h0'
   ·simp only [tkzs, tkz, Ae.f_Kind, Ae.f_Word, size_ofB, lsz]
    rw [if_neg (by decide)]; omega
  ·split at h
   ·cases h
   ·rename_i h1 h2
    cases h
    refine ⟨fun x hx => ?_, by simp, by simp only [tkzs, lsz, List.length_append, List.length_singleton]; omega⟩
    rcases List.mem_append.1 hx with hx | hx
    ·exact h0 x hx
    ·rw [List.mem_singleton] at hx
     subst hx
     exact ⟨by omega, by omega, h1⟩
 | run a =>
  simp only [stepL] at h
  split at h
  ·rename_i hc
   cases h
   refine ⟨⟨by simp, fun x hx => ?_⟩, by simp, by simp only [tkzs, lsz, List.length_append, List.length_singleton]; omega⟩
   rcases List.mem_append.1 hx with hx | hx
   ·exact h0.2 x hx
   ·rw [List.mem_singleton] at hx
    subst hx
    exact hc
  ·cases ha : atomR a with
   | none => rw [ha] at h; cases h
   | some t =>
    rw [ha] at h
    cases hb : stepB c with
    | none => rw [hb] at h; cases h
    | some p =>
     obtain ⟨o', st'⟩ := p
     rw [hb] at h
     cases h
     obtain ⟨u, rfl, hu, hz⟩ := atomR_ok h0.1 h0.2 ha
     obtain ⟨k1, k2, k3⟩ := stepB_ok hb
     refine ⟨k1, fun t ht => ?_, ?_⟩
     ·rcases List.mem_cons.1 ht with ht | ht
      ·cases ht; exact hu
      ·exact k2 t ht
     ·simp only [tkzs, lsz] at *; omega
theorem lexF_ok : ∀ (l : List Int) (st : LS) (ts : List Tk), LSOk st → Cp st l = some ts → (∀ t, Tk.atom t ∈ ts → AtomOk t) ∧ tkzs ts ≤ 23 * (l.length + lsz st)
 | [], st, ts, h0, h => by
  rw [Cp] at h
  cases st with
  | blank => cases h; exact ⟨by simp, by simp [tkzs]⟩
  | remark => cases h; exact ⟨by simp, by simp [tkzs]⟩
  | text a => cases h
  | run a =>
   simp only [finL] at h
   cases ha : atomR a with
   | none => rw [ha] at h; cases h
   | some t =>
    rw [ha] at h
    cases h
    obtain ⟨u, rfl, hu, hz⟩ := atomR_ok h0.1 h0.2 ha
    refine ⟨fun t ht => ?_, ?_⟩
    ·rw [List.mem_singleton] at ht; cases ht; exact hu
    ·simp only [tkzs, lsz, List.length_nil] at *; omega
 | c :: r, st, ts, h0, h => by
  rw [Cp] at h
  cases hs : stepL st c with
  | none => rw [hs] at h; cases h
  | some p =>
   obtain ⟨o, st'⟩ := p
   rw [hs] at h
   simp only [Option.bind_some] at h
   cases hr : Cp st' r with
   | none => rw [hr] at h; cases h
   | some t =>
    rw [hr] at h; cases h
    obtain ⟨k1, k2, k3⟩ := stepL_ok h0 hs
    obtain ⟨g1, g2⟩ := lexF_ok r st' t k1 hr
    refine ⟨fun u hu => ?_, ?_⟩
    ·rcases List.mem_append.1 hu with hu | hu
     ·exact k2 u hu
     ·exact g1 u hu
    ·rw [tkzs_app, List.length_cons]; omega

def parseX (l : List Int) : Option (List Ae) := ((Cp .blank l).bind (gram [] [] 0)).map (·.1)
theorem parseX_iff (l : List Int) (x : List Ae) : parseX l = some x ↔ (Cp .blank l = some (toksL x) ∧ FormL x ∧ deepL x ≤ 32 ∧ cntL x ≤ 65536) := by
 unfold parseX
 constructor
 ·intro h
  cases hl : Cp .blank l with
  | none => rw [hl] at h; cases h
  | some ts =>
   rw [hl] at h
   simp only [Option.bind_some] at h
   cases hg : gram [] [] 0 ts with
   | none => rw [hg] at h; cases h
   | some p =>
    obtain ⟨y, m⟩ := p
    rw [hg] at h
    cases h
    obtain ⟨h1, h2, h3, h4, h5⟩ := gram_sound ts [] [] 0 _ _ (lexF_ok l .blank ts trivial hl).1 ⟨by rw [FormL]; trivial, by rw [deepL]; omega, by rw [cntL]⟩ (by omega) hg
    rw [pend, toksL, List.nil_append] at h1
    exact ⟨by rw [h1], h2, h3, by show cntL y ≤ 65536; omega⟩
 ·rintro ⟨h1, h2, h3, h4⟩
  rw [h1]
  have := gramL x [] [] 0 [] h2 (by omega) (by simp; omega)
  rw [List.append_nil, List.nil_append, Nat.zero_add, gram] at this
  rw [Option.bind_some, this]; rfl
end Go.DM
namespace Go.DM
open Go

theorem byte_fin3 {P : Int → Prop} (h : ∀ n : _root_.Fin 256, P ((n.val : Nat) : Int)) {c : Int} (h0 : 0 ≤ c) (h1 : c < 256) : P c := by
 have := h ⟨c.toNat, by omega⟩
 simpa [Int.toNat_of_nonneg h0] using this
theorem within_eq (n : Nat) {c : Int} (h0 : 0 ≤ c) (h1 : c < 256) : Jt n c = some (inR c) := by
 show Jt 0 c = some (inR c)
 exact byte_fin3 (P := fun c => Jt 0 c = some (inR c)) (by decide +kernel) h0 h1
theorem idx10L : ∀ (l : List UInt8), (Lib.indexByte l 10 = -1 ∧ ∀ c ∈ l.map (fun b => (b.toNat : Int)), c ≠ 10) ∨ ∃ u v, l.map (fun b => (b.toNat : Int)) = u ++ 10 :: v ∧ (∀ c ∈ u, c ≠ 10) ∧ Lib.indexByte l 10 = (u.length : Int)
 | [] => .inl ⟨rfl, by simp⟩
 | b :: l => by
  by_cases hb : b = 10
  ·subst hb
   exact .inr ⟨[], _, rfl, by simp, rfl⟩
  ·have hb' : (b == 10) = false := by simpa using hb
   have hn : (b.toNat : Int) ≠ 10 := fun e => hb (UInt8.toNat.inj (by show b.toNat = 10; omega))
   unfold Lib.indexByte
   rw [hb']
   rcases idx10L l with ⟨h1, h2⟩ | ⟨u, v, h1, h2, h3⟩
   ·left
    rw [h1]
    refine ⟨rfl, fun c hc => ?_⟩
    rw [List.map_cons] at hc
    rcases List.mem_cons.1 hc with rfl | hc
    ·exact hn
    ·exact h2 c hc
   ·right
    refine ⟨(b.toNat : Int) :: u, v, by rw [List.map_cons, h1]; rfl, fun c hc => ?_, ?_⟩
    ·rcases List.mem_cons.1 hc with rfl | hc
     ·exact hn
     ·exact h2 c hc
    ·rw [h3]
     have : ((u.length : Int) == -1) = false := by rw [beq_eq_false_iff_ne]; omega
     rw [this]
     rfl
theorem idx10 (t : ByteArray) : (indexByteT t 10 = some (-1) ∧ ∀ c ∈ bs t, c ≠ 10) ∨ ∃ u v, bs t = u ++ 10 :: v ∧ (∀ c ∈ u, c ≠ 10) ∧ indexByteT t 10 = some (u.length : Int) := by
 rcases idx10L t.data.toList with ⟨h1, h2⟩ | ⟨u, v, h1, h2, h3⟩
 ·left
  exact ⟨congrArg some h1, h2⟩
 ·right
  exact ⟨u, v, h1, h2, congrArg some h3⟩
theorem bs_tail {s : ByteArray} {y : Nat} (h : y ≤ s.size) : bs (s.extract y s.size) = (bs s).drop y := by
 rw [bs_extract, List.take_of_length_le (by rw [List.length_drop, Gh]; omega)]
theorem ext_snoc {s : ByteArray} {a y : Nat} {c : Int} (h : a ≤ y) (hc : (bs s)[y]? = some c) : bs (s.extract a (y + 1)) = bs (s.extract a y) ++ [c] := by
 rw [bs_extract, bs_extract, show y + 1 - a = (y - a) + 1 by omega, List.take_add_one, List.getElem?_drop, show a + (y - a) = y by omega, hc]
 rfl

def SkipR (s : ByteArray) (y y' : Nat) : Prop := y ≤ y' ∧ y' ≤ s.size ∧ Cp .blank ((bs s).drop y) = Cp .blank ((bs s).drop y') ∧ ∀ c r, (bs s).drop y' = c :: r → c ≠ 32 ∧ c ≠ 10 ∧ c ≠ 59
theorem skip_loop (N : Nat) (s : ByteArray) (hs : s.size ≤ 6000000) : ∀ (k y m : Nat), s.size - y ≤ k → k < m → y ≤ s.size →
  ∃ y' : Nat, (Ck N s m (y : Int) = some (.out (y' : Int)) ∨ Ck N s m (y : Int) = some (.ret (y' : Int))) ∧ SkipR s y y' := by
 intro k
 induction k with
 | zero =>
  intro y m hk hm hy
  obtain ⟨m, rfl⟩ : ∃ m', m = m' + 1 := ⟨m - 1, by omega⟩
  have hlen := Gh s
  rw [Ck]
  have h1 : decide (((y : Nat) : Int) < ((s.size : Nat) : Int)) = false := by simp; omega
  rw [h1]
  refine ⟨y, .inl rfl, by omega, hy, rfl, fun c r h => ?_⟩
  rw [List.drop_eq_nil_of_le (by omega)] at h; cases h
 | succ k ih =>
  intro y m hk hm hy
  obtain ⟨m, rfl⟩ : ∃ m', m = m' + 1 := ⟨m - 1, by omega⟩
  have hlen := Gh s
  rw [Ck]
  rcases hl : (bs s).drop y with _ | ⟨c, r⟩
  ·have := drop_nil_le hl
   have h1 : decide (((y : Nat) : Int) < ((s.size : Nat) : Int)) = false := by simp; omega
   rw [h1]
   refine ⟨y, .inl rfl, by omega, hy, rfl, fun c r h => ?_⟩
   rw [hl] at h; cases h
  obtain ⟨hc, hr, hlt⟩ := Jr hl
  have h1 : decide (((y : Nat) : Int) < ((s.size : Nat) : Int)) = true := by simp; omega
  rw [h1, atS_bs, hc]
  simp only [Option.bind_some, cond_true]
  by_cases hw : c = 32 ∨ c = 10
  ·have h2 : (c == 32 || c == 10) = true := by simpa using hw
   rw [h2, Cz (by omega)]
   obtain ⟨y', g1, g2, g3, g4, g5⟩ := ih (y + 1) m (by omega) (by omega) (by omega)
   refine ⟨y', g1, by omega, g3, ?_, g5⟩
   rw [← g4, hr, hl]
   rcases hw with rfl | rfl
   ·exact lex_sp r
   ·exact lex_nl r
  ·have h2 : (c == 32 || c == 10) = false := by simpa using hw
   rw [h2]
   simp only [cond_false]
   by_cases hq : c = 59
   ·subst hq
    simp only [beq_self_eq_true, cond_true]
    rw [subS_nat s y s.size (by omega) (by omega)]
    simp only [Option.bind_some]
    rcases idx10 (s.extract y s.size) with ⟨e1, e2⟩ | ⟨u, v, e1, e2, e3⟩
    ·rw [e1]
     rw [bs_tail hy, hl] at e2
     have h3 : decide ((-1 : Int) < 0) = true := rfl
     simp only [Option.bind_some, h3, cond_true]
     rw [show (((s.size : Nat) : Int) - (y : Int)) = ((s.size - y : Nat) : Int) by omega, w64 (n := ((s.size - y : Nat) : Int)) (by omega) (by omega), show ((y : Int) + ((s.size - y : Nat) : Int)) = ((s.size : Nat) : Int) by omega, w64 (n := ((s.size : Nat) : Int)) (by omega) (by omega)]
     obtain ⟨y', g1, g2, g3, g4, g5⟩ := ih s.size m (by omega) (by omega) (by omega)
     refine ⟨y', g1, by omega, g3, ?_, g5⟩
     rw [← g4, hl, List.drop_eq_nil_of_le (by omega), lex_rem]
     have := lex_remark r [] (fun x hx => e2 x (List.mem_cons_of_mem _ hx))
     rw [List.append_nil] at this
     rw [this]; rfl
    ·rw [e3]
     rw [bs_tail hy, hl] at e1
     have hu : u ≠ [] := fun h => by
      rw [h] at e1; simp at e1
     obtain ⟨w, u, rfl⟩ : ∃ w u', u = w :: u' := by
      cases u with
      | nil => exact absurd rfl hu
      | cons a b => exact ⟨a, b, rfl⟩
     rw [List.cons_append] at e1
     injection e1 with e1 e1'
     subst e1
     have h3 : decide (((((59 : Int) :: u).length : Nat) : Int) < 0) = false := by simp; omega
     simp only [Option.bind_some, h3, cond_false]
     have hlr : r.length + 1 + y = s.size := by
      have := congrArg List.length hl
      rw [List.length_drop, List.length_cons] at this; omega
     have hlu : u.length + 1 ≤ r.length := by rw [e1']; simp
     have hc1 : ((59 : Int) :: u).length = u.length + 1 := rfl
     rw [hc1, show ((y : Int) + ((u.length + 1 : Nat) : Int)) = ((y + (u.length + 1) : Nat) : Int) by omega, w64 (by omega) (by omega)]
     obtain ⟨y', g1, g2, g3, g4, g5⟩ := ih (y + (u.length + 1)) m (by omega) (by omega) (by omega)
     refine ⟨y', g1, by omega, g3, ?_, g5⟩
     rw [← g4]
     have hd : (bs s).drop (y + (u.length + 1)) = 10 :: v := by
      rw [← List.drop_drop, hl, List.drop_succ_cons, e1', List.drop_left]
     rw [hd, hl, lex_rem, e1', lex_remark u _ (fun x hx => e2 x (List.mem_cons_of_mem _ hx)), lex_remnl, lex_nl]
   ·have h3 : (c == 59) = false := by simpa using hq
    rw [h3]
    refine ⟨y, .inr rfl, by omega, hy, by rw [hl], fun c' r' h => ?_⟩
    rw [hl] at h
    injection h with h _
    subst h
    exact ⟨fun h => hw (.inl h), fun h => hw (.inr h), hq⟩
theorem skip_eq (n : Nat) (s : ByteArray) (hs : s.size ≤ 6000000) (hn : s.size < n) (y : Nat) (hy : y ≤ s.size) (z : Int) : ∃ y' : Nat, G7 n s (y : Int) z = some (y' : Int) ∧ SkipR s y y' := by
 obtain ⟨y', g1, g2⟩ := skip_loop n s hs s.size y n (by omega) hn hy
 refine ⟨y', ?_, g2⟩
 unfold G7
 rcases g1 with g1 | g1 <;> rw [g1] <;> rfl

theorem quoted_loop (N : Nat) (s : ByteArray) (hs : s.size ≤ 6000000) (p : Nat) : ∀ (k y m : Nat), s.size - y ≤ k → k < m → p + 1 ≤ y → y ≤ s.size →
  (Cp (.text (bs (s.extract (p + 1) y))) ((bs s).drop y) = none ∧ (Cc N s (p : Int) m (y : Int) = some (.out ()) ∨ ∃ e : A3, e.f_e ≠ 0 ∧ Cc N s (p : Int) m (y : Int) = some (.ret (.pan e)))) ∨
  ∃ (w : ByteArray) (y' : Nat), Cc N s (p : Int) m (y : Int) = some (.ret (.val (.mk 3 w 0 [], (y' : Int)))) ∧ p < y' ∧ y' ≤ s.size ∧ Cp (.text (bs (s.extract (p + 1) y))) ((bs s).drop y) = (Cp .blank ((bs s).drop y')).map (([.atom (.mk 3 w 0 [])] : List Tk) ++ ·) := by
 intro k
 induction k with
 | zero =>
  intro y m hk hm hp hy
  obtain ⟨m, rfl⟩ : ∃ m', m = m' + 1 := ⟨m - 1, by omega⟩
  have hlen := Gh s
  rw [Cc]
  have h1 : decide (((y : Nat) : Int) < ((s.size : Nat) : Int)) = false := by simp; omega
  rw [h1]
  left
  rw [List.drop_eq_nil_of_le (by omega)]
  exact ⟨rfl, .inl rfl⟩
 | succ k ih =>
  intro y m hk hm hp hy
  obtain ⟨m, rfl⟩ : ∃ m', m = m' + 1 := ⟨m - 1, by omega⟩
  have hlen := Gh s
  rw [Cc]
  rcases hl : (bs s).drop y with _ | ⟨c, r⟩
  ·have := drop_nil_le hl
   have h1 : decide (((y : Nat) : Int) < ((s.size : Nat) : Int)) = false := by simp; omega
   rw [h1]
   left
   exact ⟨rfl, .inl rfl⟩
  obtain ⟨hc, hr, hlt⟩ := Jr hl
  have h1 : decide (((y : Nat) : Int) < ((s.size : Nat) : Int)) = true := by simp; omega
  rw [h1, atS_bs, hc]
  simp only [Option.bind_some, cond_true]
  by_cases h34 : c = 34
  ·subst h34
   simp only [beq_self_eq_true, cond_true]
   rw [Cz (n := p) (by omega), subS_nat s (p + 1) y hp (by omega), Cz (n := y) (by omega)]
   right
   refine ⟨s.extract (p + 1) y, y + 1, rfl, by omega, by omega, ?_⟩
   rw [lex_textEnd, ofB_bs, hr]
  ·have h2 : (c == 34) = false := by simpa using h34
   rw [h2]
   simp only [cond_false]
   by_cases h10 : c = 10
   ·subst h10
    left
    exact ⟨lex_textBad _ _ (by omega) (by omega), .inl rfl⟩
   ·have h3 : (c == 10) = false := by simpa using h10
    rw [h3]
    simp only [cond_false]
    by_cases hb : c < 32 ∨ c > 126
    ·have h4 : (decide (c < 32) || decide (c > 126)) = true := by simpa using hb
     rw [h4]
     left
     exact ⟨lex_textBad _ _ h34 hb, .inr ⟨⟨y, 31⟩, (by show (31 : Int) ≠ 0; decide), rfl⟩⟩
    ·have h4 : (decide (c < 32) || decide (c > 126)) = false := by simpa using hb
     rw [h4]
     simp only [cond_false, Option.bind_some]
     rw [Cz (n := y) (by omega)]
     have := ih (y + 1) m (by omega) (by omega) (by omega) (by omega)
     rw [ext_snoc hp hc, hr] at this
     have e : Cp (.text (bs (s.extract (p + 1) y))) (c :: r) = Cp (.text (bs (s.extract (p + 1) y) ++ [c])) r := by
      have := lex_text [c] (bs (s.extract (p + 1) y)) r (fun x hx => by rw [List.mem_singleton] at hx; subst hx; omega)
      exact this
     rw [e]
     exact this
theorem quoted_eq (n : Nat) (s : ByteArray) (hs : s.size ≤ 6000000) (hn : s.size < n) (p : Nat) (r : List Int) (hp : (bs s).drop p = 34 :: r) (z : Int) :
  (Cp .blank ((bs s).drop p) = none ∧ ∃ e : A3, e.f_e ≠ 0 ∧ E9 n s (p : Int) z = some (.pan e)) ∨
  ∃ (t : Ae) (y' : Nat), E9 n s (p : Int) z = some (.val (t, (y' : Int))) ∧ p < y' ∧ y' ≤ s.size ∧ Cp .blank ((bs s).drop p) = (Cp .blank ((bs s).drop y')).map (([.atom t] : List Tk) ++ ·) := by
 obtain ⟨hc, hr, hlt⟩ := Jr hp
 rw [Gh] at hlt
 have e0 : bs (s.extract (p + 1) (p + 1)) = [] := by rw [bs_extract, Nat.sub_self]; rfl
 have := quoted_loop n s hs p s.size (p + 1) n (by omega) hn (by omega) (by omega)
 rw [e0, hr, ← lex_quote, ← hp] at this
 unfold E9
 rw [Cz (n := p) (by omega)]
 rcases this with ⟨h1, h2 | ⟨e, he, h2⟩⟩ | ⟨w, y', h1, h2, h3, h4⟩
 ·left
  rw [h2]
  exact ⟨h1, ⟨p, 31⟩, (by show (31 : Int) ≠ 0; decide), rfl⟩
 ·left
  rw [h2]
  exact ⟨h1, e, he, rfl⟩
 ·right
  rw [h1]
  exact ⟨_, y', rfl, h2, h3, h4⟩

theorem run_loop3 (N : Nat) (s : ByteArray) (hs : s.size ≤ 6000000) : ∀ (k y m : Nat), s.size - y ≤ k → k < m → y ≤ s.size → Di N s m (y : Int) = some (((y + (((bs s).drop y).takeWhile inR).length : Nat) : Int)) := by
 intro k
 induction k with
 | zero =>
  intro y m hk hm hy
  obtain ⟨m, rfl⟩ : ∃ m', m = m' + 1 := ⟨m - 1, by omega⟩
  have hlen := Gh s
  rw [Di]
  have h1 : decide (((y : Nat) : Int) < ((s.size : Nat) : Int)) = false := by simp; omega
  rw [h1, List.drop_eq_nil_of_le (by omega)]
  rfl
 | succ k ih =>
  intro y m hk hm hy
  obtain ⟨m, rfl⟩ : ∃ m', m = m' + 1 := ⟨m - 1, by omega⟩
  have hlen := Gh s
  rw [Di]
  rcases hl : (bs s).drop y with _ | ⟨c, r⟩
  ·have := drop_nil_le hl
   have h1 : decide (((y : Nat) : Int) < ((s.size : Nat) : Int)) = false := by simp; omega
   rw [h1]
   rfl
  obtain ⟨hc, hr, hlt⟩ := Jr hl
  have hb : 0 ≤ c ∧ c < 256 := bs_byte (List.mem_of_getElem? hc)
  have h1 : decide (((y : Nat) : Int) < ((s.size : Nat) : Int)) = true := by simp; omega
  rw [h1, atS_bs, hc]
  simp only [Option.bind_some, cond_true]
  rw [within_eq N hb.1 hb.2]
  simp only [Option.bind_some]
  cases hi : inR c
  ·rw [List.takeWhile_cons, hi]; rfl
  ·rw [List.takeWhile_cons, hi, cond_true, Cz (by omega), ih (y + 1) m (by omega) (by omega) (by omega), hr]
   simp only [if_true, List.length_cons]
   congr 2; omega
theorem tw_take (p : Int → Bool) : ∀ (l : List Int), l.take (l.takeWhile p).length = l.takeWhile p
 | [] => rfl
 | c :: l => by
  rw [List.takeWhile_cons]
  cases h : p c
  ·rfl
  ·simp only [if_true, List.length_cons, List.take_succ_cons]; rw [tw_take p l]
theorem tw_drop (p : Int → Bool) : ∀ (l : List Int), l.drop (l.takeWhile p).length = l.dropWhile p
 | [] => rfl
 | c :: l => by
  rw [List.takeWhile_cons, List.dropWhile_cons]
  cases h : p c
  ·rfl
  ·simp only [if_true, List.length_cons, List.drop_succ_cons]; rw [tw_drop p l]
theorem tw_all (p : Int → Bool) : ∀ (l : List Int), ∀ c ∈ l.takeWhile p, p c = true
 | [], c, h => by cases h
 | d :: l, c, h => by
  rw [List.takeWhile_cons] at h
  cases hd : p d
  ·rw [hd] at h; cases h
  ·rw [hd, if_pos rfl] at h
   rcases List.mem_cons.1 h with rfl | h
   ·exact hd
   ·exact tw_all p l c h
theorem dw_head (p : Int → Bool) : ∀ (l : List Int) (c : Int) (r : List Int), l.dropWhile p = c :: r → p c = false
 | [], c, r, h => by cases h
 | d :: l, c, r, h => by
  rw [List.dropWhile_cons] at h
  cases hd : p d
  ·rw [hd] at h; injection h with h _; rw [← h]; exact hd
  ·rw [hd, if_pos rfl] at h; exact dw_head p l c r h
theorem numeric_eq (n : Nat) (s : ByteArray) (h : bs s ≠ []) : J5 n s = some (numB (bs s)) := by
 unfold J5
 have e : atS s 0 = (bs s)[0]? := atS_bs s 0
 rw [e]
 rcases hl : bs s with _ | ⟨c, r⟩
 ·exact absurd hl h
 ·simp only [List.getElem?_cons_zero, Option.bind_some, numB]
  cases c == 45 <;> cases decide (c ≥ 48) <;> rfl
theorem number_eq (n : Nat) (s : ByteArray) (h : s.size ≤ 6000000) : ∃ v b, Gs n s = some (v, b) ∧ numV s = if b = true then some v else none := by
 have key : ∃ v b, Gs n s = some (v, b) := by
  unfold Gs
  obtain ⟨v, e, ha⟩ : ∃ v e, atoiT s = some (v, e) := by
   unfold atoiT
   rw [if_pos (by omega)]
   cases Lib.atoiAll s.data.toList <;> exact ⟨_, _, rfl⟩
  rw [ha]
  simp only [Option.bind_some]
  cases hc : ((!e) && (decide (v ≥ (-999999999999999999)))) && (decide (v ≤ 999999999999999999))
  ·exact ⟨_, _, rfl⟩
  ·simp only [Bool.and_eq_true, decide_eq_true_eq] at hc
   have : itoaT v = some ⟨(Lib.itoa v).toArray⟩ := by unfold itoaT; rw [if_pos (by omega)]
   simp only [cond_true]
   rw [this]
   exact ⟨_, _, rfl⟩
 obtain ⟨v, b, hk⟩ := key
 refine ⟨v, b, hk, ?_⟩
 have hk' : Gs 0 s = some (v, b) := hk
 unfold numV
 rw [hk']
 cases b <;> rfl
theorem run_eq (n : Nat) (s : ByteArray) (hs : s.size ≤ 6000000) (hn : s.size < n) (p : Nat) (c : Int) (r : List Int) (hp : (bs s).drop p = c :: r) (hc : c ≠ 32 ∧ c ≠ 10 ∧ c ≠ 59) (hc' : c ≠ 41 ∧ c ≠ 40 ∧ c ≠ 34) (z : Int) :
  (Cp .blank ((bs s).drop p) = none ∧ ∃ e : A3, e.f_e ≠ 0 ∧ Gi n s (p : Int) z = some (.pan e)) ∨
  ∃ (t : Ae) (y' : Nat), Gi n s (p : Int) z = some (.val (t, (y' : Int))) ∧ p < y' ∧ y' ≤ s.size ∧ Cp .blank ((bs s).drop p) = (Cp .blank ((bs s).drop y')).map (([.atom t] : List Tk) ++ ·) := by
 obtain ⟨hcc, hr, hlt⟩ := Jr hp
 rw [Gh] at hlt
 have hlen : (bs s).length = s.size := Gh s
 unfold Gi
 rw [run_loop3 n s hs s.size p n (by omega) hn (by omega)]
 simp only [Option.bind_some]
 have htw : (((bs s).drop p).takeWhile inR).length ≤ s.size - p := by
  have := (List.takeWhile_sublist inR (l := (bs s).drop p)).length_le
  rw [List.length_drop] at this; omega
 rw [subS_nat s p _ (by omega) (by omega)]
 simp only [Option.bind_some]
 have hw : bs (s.extract p (p + (((bs s).drop p).takeWhile inR).length)) = ((bs s).drop p).takeWhile inR := by
  rw [bs_extract, show p + (((bs s).drop p).takeWhile inR).length - p = (((bs s).drop p).takeWhile inR).length by omega, tw_take]
 cases hi : inR c
 ·left
  have e0 : ((bs s).drop p).takeWhile inR = [] := by rw [hp, List.takeWhile_cons, hi]; rfl
  have e1 : s.extract p (p + (((bs s).drop p).takeWhile inR).length) = ByteArray.mk #[] := by rw [← bs_nil, hw, e0]
  rw [decide_eq_true e1]
  refine ⟨?_, ⟨p, 31⟩, (by show (31 : Int) ≠ 0; decide), rfl⟩
  rw [hp]
  exact lex_bad hi ⟨hc.1, hc.2.1, hc.2.2, hc'.2.1, hc'.1, hc'.2.2⟩ r
 ·have e0 : ((bs s).drop p).takeWhile inR = c :: r.takeWhile inR := by rw [hp, List.takeWhile_cons, hi]; rfl
  have e1 : ¬ s.extract p (p + (((bs s).drop p).takeWhile inR).length) = ByteArray.mk #[] := by
   rw [← bs_nil, hw, e0]; simp
  have hnn : bs (s.extract p (p + (((bs s).drop p).takeWhile inR).length)) ≠ [] := by rw [hw, e0]; simp
  have hlx : Cp .blank ((bs s).drop p) = (atomR (((bs s).drop p).takeWhile inR)).bind fun t => (Cp .blank ((bs s).drop (p + (((bs s).drop p).takeWhile inR).length))).map (([t] : List Tk) ++ ·) := by
   rw [← List.drop_drop, tw_drop, ← lex_runEnd _ _ (dw_head inR _)]
   have h2 : (bs s).drop p = ((bs s).drop p).takeWhile inR ++ ((bs s).drop p).dropWhile inR := (List.takeWhile_append_dropWhile).symm
   conv => lhs; rw [h2, e0]
   rw [e0, List.cons_append, lex_word hi, lex_run _ _ _ (tw_all inR r)]
   rfl
  rw [hlx]
  rw [decide_eq_false e1]
  simp only [cond_false, Option.bind_some]
  rw [numeric_eq n _ hnn, hw]
  simp only [Option.bind_some]
  have hpos : 0 < (((bs s).drop p).takeWhile inR).length := by rw [e0]; simp
  have hof : ofB (((bs s).drop p).takeWhile inR) = s.extract p (p + (((bs s).drop p).takeWhile inR).length) := by rw [← hw, ofB_bs]; rw [hw]
  unfold atomR
  cases hnb : numB (((bs s).drop p).takeWhile inR)
  ·right
   rw [if_neg (by simp)]
   refine ⟨_, p + (((bs s).drop p).takeWhile inR).length, rfl, by omega, by omega, ?_⟩
   rw [hof]; rfl
  ·rw [if_pos rfl, hof]
   simp only [Bool.not_true, cond_false]
   have hsz : (s.extract p (p + (((bs s).drop p).takeWhile inR).length)).size ≤ 6000000 := by
    rw [← Gh, hw]; omega
   obtain ⟨v, b, k1, k2⟩ := number_eq n _ hsz
   rw [k1, k2]
   cases b
   ·left
    exact ⟨rfl, ⟨p, 31⟩, (by show (31 : Int) ≠ 0; decide), rfl⟩
   ·right
    exact ⟨_, p + (((bs s).drop p).takeWhile inR).length, rfl, by omega, by omega, rfl⟩
end Go.DM
namespace Go.DM
open Go
set_option maxRecDepth 100000

def Gl (stk : List (List Ae)) (acc : List Ae) (n : Nat) (l : List Int) : Option (List Ae × Nat) := (Cp .blank l).bind (gram stk acc n)
section
variable {stk : List (List Ae)} {acc : List Ae} {n : Nat} {l l' : List Int}
theorem full_none (h : Cp .blank l = none) : Gl stk acc n l = none := by unfold Gl; rw [h]; rfl
theorem full_same (h : Cp .blank l = Cp .blank l') : Gl stk acc n l = Gl stk acc n l' := by unfold Gl; rw [h]
theorem full_atom {t : Ae} (h : Cp .blank l = (Cp .blank l').map (([.atom t] : List Tk) ++ ·)) : Gl stk acc n l = if 65536 < n + 1 then none else Gl stk (acc ++ [t]) (n + 1) l' := by
 unfold Gl
 rw [h]
 cases Cp .blank l' with
 | none => simp
 | some ts => simp only [Option.map_some, Option.bind_some, List.singleton_append]; rw [gram_atom]
theorem full_open : Gl stk acc n (40 :: l) = if 65536 < n + 1 ∨ 32 < stk.length + 1 then none else Gl (acc :: stk) [] (n + 1) l := by
 unfold Gl
 rw [lex_open]
 cases Cp .blank l with
 | none => simp
 | some ts => simp only [Option.map_some, Option.bind_some, List.singleton_append]; rw [gram_opn]
theorem full_close0 : Gl [] acc n (41 :: l) = none := by
 unfold Gl
 rw [lex_close]
 cases Cp .blank l with
 | none => rfl
 | some ts => simp only [Option.map_some, Option.bind_some, List.singleton_append]; rw [gram]
theorem full_close {p : List Ae} : Gl (p :: stk) acc n (41 :: l) = Gl stk (p ++ [.mk 4 nilB3 0 acc]) n l := by
 unfold Gl
 rw [lex_close]
 cases Cp .blank l with
 | none => rfl
 | some ts => simp only [Option.map_some, Option.bind_some, List.singleton_append]; rw [gram]
theorem full_nil0 : Gl [] acc n [] = some (acc, n) := by
 show gram [] acc n [] = _; rw [gram]
theorem full_nil {p : List Ae} : Gl (p :: stk) acc n [] = none := by
 show gram (p :: stk) acc n [] = _; rw [gram]
end
def balB : Nat → List Tk → Bool
 | d, [] => d == 0
 | d, .opn :: r => balB (d + 1) r
 | 0, .cls :: _ => false
 | d + 1, .cls :: r => balB d r
 | d, .atom _ :: r => balB d r
def H5 (d : Nat) (l : List Int) : Option Bool := (Cp .blank l).map (balB d)
section
variable {d : Nat} {l l' : List Int}
theorem fb_none (h : Cp .blank l = none) : H5 d l ≠ some true := by unfold H5; rw [h]; simp
theorem fb_same (h : Cp .blank l = Cp .blank l') : H5 d l = H5 d l' := by unfold H5; rw [h]
theorem fb_atom {t : Ae} (h : Cp .blank l = (Cp .blank l').map (([.atom t] : List Tk) ++ ·)) : H5 d l = H5 d l' := by
 unfold H5
 rw [h]
 cases Cp .blank l' with
 | none => rfl
 | some ts => simp only [Option.map_some, List.singleton_append]; cases d <;> rfl
theorem fb_open : H5 d (40 :: l) = H5 (d + 1) l := by
 unfold H5
 rw [lex_open]
 cases Cp .blank l with
 | none => rfl
 | some ts => simp only [Option.map_some, List.singleton_append]; cases d <;> rfl
theorem fb_close0 : H5 0 (41 :: l) ≠ some true := by
 unfold H5
 rw [lex_close]
 cases Cp .blank l with
 | none => simp
 | some ts => simp only [Option.map_some, List.singleton_append]; simp [balB]
theorem fb_close : H5 (d + 1) (41 :: l) = H5 d l := by
 unfold H5
 rw [lex_close]
 cases Cp .blank l with
 | none => rfl
 | some ts => simp only [Option.map_some, List.singleton_append]; rfl
theorem fb_nil : H5 (d + 1) [] ≠ some true := by
 show some (balB (d + 1) []) ≠ some true
 simp [balB]
end
def LVal (s : ByteArray) : List (List Ae) → List Ae → Nat → Nat → List Ae → Nat → Nat → Prop
 | [], acc, n, y, out, _, n' => Gl [] acc n ((bs s).drop y) = some (out, n')
 | p :: q, acc, n, y, out, y', n' => Gl (p :: q) acc n ((bs s).drop y) = Gl q (p ++ [.mk 4 nilB3 0 out]) n' ((bs s).drop y') ∧ H5 (q.length + 1) ((bs s).drop y) = H5 q.length ((bs s).drop y')
def LSpec (s : ByteArray) (stk : List (List Ae)) (acc : List Ae) (n y : Nat) (res : Option (LR Unit (PR (List Ae × Int × Int) A3))) : Prop :=
 (∃ e : A3, e.f_e ≠ 0 ∧ res = some (.ret (.pan e)) ∧ Gl stk acc n ((bs s).drop y) = none ∧ (e.f_e = 33 ∨ H5 stk.length ((bs s).drop y) ≠ some true)) ∨
 (∃ (out : List Ae) (y' n' : Nat), res = some (.ret (.val (out, (y' : Int), (n' : Int)))) ∧ y ≤ y' ∧ y' ≤ s.size ∧ n' ≤ 65536 ∧ LVal s stk acc n y out y' n')
theorem LVal.of {s : ByteArray} {stk : List (List Ae)} {acc acc1 out : List Ae} {n n1 y y1 y' n' : Nat} (h : Gl stk acc n ((bs s).drop y) = Gl stk acc1 n1 ((bs s).drop y1)) (hb : H5 stk.length ((bs s).drop y) = H5 stk.length ((bs s).drop y1)) (g : LVal s stk acc1 n1 y1 out y' n') : LVal s stk acc n y out y' n' := by
 cases stk with
 | nil => exact h.trans g
 | cons p q => exact ⟨h.trans g.1, hb.trans g.2⟩
theorem LSpec.of {s : ByteArray} {stk : List (List Ae)} {acc acc1 : List Ae} {n n1 y y1 : Nat} {res : Option (LR Unit (PR (List Ae × Int × Int) A3))} (hy : y ≤ y1) (h : Gl stk acc n ((bs s).drop y) = Gl stk acc1 n1 ((bs s).drop y1)) (hb : H5 stk.length ((bs s).drop y) = H5 stk.length ((bs s).drop y1)) (g : LSpec s stk acc1 n1 y1 res) : LSpec s stk acc n y res := by
 rcases g with ⟨e, g1, g2, g3, g4⟩ | ⟨out, y', n', g1, g2, g3, g4, g5⟩
 ·exact .inl ⟨e, g1, g2, h.trans g3, by rw [hb]; exact g4⟩
 ·exact .inr ⟨out, y', n', g1, by omega, g3, g4, g5.of h hb⟩

theorem list_loop3 (N : Nat) (s : ByteArray) (hs : s.size ≤ 262144) (hN : s.size < N) : ∀ (k y m rf : Nat) (stk : List (List Ae)) (acc : List Ae) (n : Nat), s.size - y ≤ k → k ≤ s.size → k < m → k ≤ rf → y ≤ s.size → stk.length ≤ 32 → n ≤ 65536 → acc.length ≤ y →
  LSpec s stk acc n y (Ce N (B8 N rf) s ((stk.length : Nat) : Int) m acc (y : Int) (n : Int)) := by
 intro k
 induction k with
 | zero =>
  intro y m rf stk acc n hk hks hm hrf hy hst hn hac
  obtain ⟨m, rfl⟩ : ∃ m', m = m' + 1 := ⟨m - 1, by omega⟩
  have hlen := Gh s
  rw [Ce]
  obtain ⟨y1, h1, h2, h3, h4, h5⟩ := skip_eq N s (by omega) hN y hy (n : Int)
  have hy1 : y1 = s.size := by omega
  subst hy1
  rw [h1]
  simp only [Option.bind_some, beq_self_eq_true, cond_true]
  have hd : (bs s).drop s.size = [] := List.drop_eq_nil_of_le (by omega)
  rw [hd] at h4
  cases stk with
  | nil =>
   right
   refine ⟨acc, s.size, n, rfl, h2, h3, hn, ?_⟩
   show Gl [] acc n _ = _
   rw [full_same h4, full_nil0]
  | cons p q =>
   left
   have : decide (((((p :: q).length : Nat) : Int)) > 0) = true := decide_eq_true (by rw [List.length_cons]; omega)
   rw [this]
   exact ⟨⟨s.size, 31⟩, (by show (31 : Int) ≠ 0; decide), rfl, by rw [full_same h4, full_nil], .inr (by rw [fb_same h4]; exact fb_nil)⟩
 | succ k ih =>
  intro y m rf stk acc n hk hks hm hrf hy hst hn hac
  obtain ⟨m, rfl⟩ : ∃ m', m = m' + 1 := ⟨m - 1, by omega⟩
  obtain ⟨rf, rfl⟩ : ∃ m', rf = m' + 1 := ⟨rf - 1, by omega⟩
  have hlen := Gh s
  rw [Ce]
  obtain ⟨y1, h1, h2, h3, h4, h5⟩ := skip_eq N s (by omega) hN y hy (n : Int)
  rw [h1]
  simp only [Option.bind_some]
  rcases hl : (bs s).drop y1 with _ | ⟨c, r⟩
  ·have := drop_nil_le hl
   have hy1 : y1 = s.size := by omega
   subst hy1
   simp only [beq_self_eq_true, cond_true]
   rw [hl] at h4
   cases stk with
   | nil =>
    right
    refine ⟨acc, s.size, n, rfl, h2, h3, hn, ?_⟩
    show Gl [] acc n _ = _
    rw [full_same h4, full_nil0]
   | cons p q =>
    left
    have : decide (((((p :: q).length : Nat) : Int)) > 0) = true := decide_eq_true (by rw [List.length_cons]; omega)
    rw [this]
    exact ⟨⟨s.size, 31⟩, (by show (31 : Int) ≠ 0; decide), rfl, by rw [full_same h4, full_nil], .inr (by rw [fb_same h4]; exact fb_nil)⟩
  obtain ⟨hc, hr, hlt⟩ := Jr hl
  obtain ⟨c1, c2, c3⟩ := h5 c r hl
  have hne : (((y1 : Nat) : Int) == ((s.size : Nat) : Int)) = false := by simp; omega
  rw [hne]
  simp only [cond_false]
  rw [atS_bs, hc]
  simp only [Option.bind_some]
  have hfs : ∀ (stk : List (List Ae)) (acc : List Ae) (n : Nat), Gl stk acc n ((bs s).drop y) = Gl stk acc n ((bs s).drop y1) := fun _ _ _ => full_same h4
  refine LSpec.of h2 (hfs stk acc n) (fb_same h4) ?_
  by_cases h41 : c = 41
  ·subst h41
   simp only [beq_self_eq_true, cond_true]
   cases stk with
   | nil =>
    left
    exact ⟨⟨y1, 31⟩, (by show (31 : Int) ≠ 0; decide), rfl, by rw [hl, full_close0], .inr (by rw [hl]; exact fb_close0)⟩
   | cons p q =>
    right
    have : (((((p :: q).length : Nat) : Int)) == 0) = false := by rw [beq_eq_false_iff_ne, List.length_cons]; omega
    rw [this]
    simp only [cond_false, Option.bind_some]
    rw [Cz (n := y1) (by omega)]
    refine ⟨acc, y1 + 1, n, rfl, by omega, by omega, hn, ?_⟩
    refine ⟨?_, ?_⟩
    ·rw [hl, full_close, hr]
    ·rw [hl, fb_close, hr]
  have e41 : (c == 41) = false := by simpa using h41
  rw [e41]
  simp only [cond_false]
  by_cases h40 : c = 40
  ·subst h40
   simp only [beq_self_eq_true, cond_true]
   rw [Cz (n := stk.length) (by omega)]
   unfold H7
   rw [Cz (n := n) (by omega)]
   by_cases hov : 65536 < n + 1 ∨ 32 < stk.length + 1
   ·have : (decide (((n + 1 : Nat) : Int) > 65536) || decide (((stk.length + 1 : Nat) : Int) > 32)) = true := by simp; omega
    rw [this]
    left
    exact ⟨⟨y1, 33⟩, (by show (33 : Int) ≠ 0; decide), rfl, by rw [hl, full_open, if_pos hov], .inl rfl⟩
   ·have : (decide (((n + 1 : Nat) : Int) > 65536) || decide (((stk.length + 1 : Nat) : Int) > 32)) = false := by simp; omega
    rw [this]
    simp only [cond_false, Option.bind_some]
    rw [Cz (n := y1) (by omega), B8]
    have hin := ih (y1 + 1) N rf (acc :: stk) [] (n + 1) (by omega) (by omega) (by omega) (by omega) (by omega) (by rw [List.length_cons]; omega) (by omega) (by simp)
    rw [List.length_cons] at hin
    have hop : Gl stk acc n ((bs s).drop y1) = Gl (acc :: stk) [] (n + 1) ((bs s).drop (y1 + 1)) := by rw [hl, full_open, if_neg hov, hr]
    have hbp : H5 stk.length ((bs s).drop y1) = H5 (stk.length + 1) ((bs s).drop (y1 + 1)) := by rw [hl, fb_open, hr]
    rcases hin with ⟨e, g1, g2, g3, g4⟩ | ⟨out, y2, n2, g1, g2, g3, g4, g5⟩
    ·rw [g2]
     left
     exact ⟨e, g1, rfl, by rw [hop, g3], by rw [hbp]; exact g4⟩
    ·rw [g1]
     simp only [Option.bind_some]
     rw [appL_ok (by rw [List.length_singleton]; omega) (by omega)]
     simp only [Option.bind_some]
     have h6 := ih y2 m (rf + 1) stk (acc ++ [.mk 4 nilB3 0 out]) n2 (by omega) (by omega) (by omega) (by omega) g3 hst g4 (by rw [List.length_append, List.length_singleton]; omega)
     exact LSpec.of (by omega) (hop.trans g5.1) (hbp.trans g5.2) h6
  have e40 : (c == 40) = false := by simpa using h40
  rw [e40]
  simp only [cond_false]
  have tail : ∀ (t : Ae) (y2 : Nat), y1 < y2 → y2 ≤ s.size → Cp .blank ((bs s).drop y1) = (Cp .blank ((bs s).drop y2)).map (([.atom t] : List Tk) ++ ·) →
    LSpec s stk acc n y1 ((Ew N s (y2 : Int) (n : Int) (y1 : Int)).bind fun v => match v with | .val r484 => ((appL 56 acc ([t] : List Ae)).bind fun l491 => Ce N (B8 N (rf + 1)) s ((stk.length : Nat) : Int) m l491 (y2 : Int) r484) | .pan p498 => some (.ret (.pan p498))) := by
   intro t y2 k1 k2 k3
   have hat := full_atom (stk := stk) (acc := acc) (n := n) k3
   unfold Ew
   rw [Cz (n := n) (by omega)]
   by_cases hov : 65536 < n + 1
   ·have : decide (((n + 1 : Nat) : Int) > 65536) = true := by simp; omega
    rw [this]
    left
    exact ⟨⟨y1, 33⟩, (by show (33 : Int) ≠ 0; decide), rfl, by rw [hat, if_pos hov], .inl rfl⟩
   ·have : decide (((n + 1 : Nat) : Int) > 65536) = false := by simp; omega
    rw [this]
    simp only [cond_false, Option.bind_some]
    rw [appL_ok (by rw [List.length_singleton]; omega) (by omega)]
    simp only [Option.bind_some]
    rw [if_neg hov] at hat
    have h6 := ih y2 m (rf + 1) stk (acc ++ [t]) (n + 1) (by omega) (by omega) (by omega) (by omega) k2 hst (by omega) (by rw [List.length_append, List.length_singleton]; omega)
    exact LSpec.of (by omega) hat (fb_atom k3) h6
  by_cases h34 : c = 34
  ·subst h34
   simp only [beq_self_eq_true, cond_true]
   rcases quoted_eq N s (by omega) hN y1 r hl (n : Int) with ⟨k1, e, k2, k3⟩ | ⟨t, y2, k1, k2, k3, k4⟩
   ·rw [k3]
    left
    exact ⟨e, k2, rfl, full_none k1, .inr (fb_none k1)⟩
   ·rw [k1]
    simp only [Option.bind_some]
    exact tail t y2 k2 k3 k4
  have e34 : (c == 34) = false := by simpa using h34
  rw [e34]
  simp only [cond_false]
  rcases run_eq N s (by omega) hN y1 c r hl ⟨c1, c2, c3⟩ ⟨h41, h40, h34⟩ (n : Int) with ⟨k1, e, k2, k3⟩ | ⟨t, y2, k1, k2, k3, k4⟩
  ·rw [k3]
   left
   exact ⟨e, k2, rfl, full_none k1, .inr (fb_none k1)⟩
  ·rw [k1]
   simp only [Option.bind_some]
   exact tail t y2 k2 k3 k4

theorem Parse_eq (n : Nat) (s : ByteArray) (hn : 262200 ≤ n) : ∃ x a e, Gz n s = some (x, a, e) ∧
  ((e = 0 ∧ a = 0 ∧ s.size ≤ 262144 ∧ parseX (bs s) = some x) ∨ (e ≠ 0 ∧ x = [] ∧ (s.size ≤ 262144 → parseX (bs s) = none) ∧ (e = 33 ∨ H5 0 (bs s) ≠ some true))) := by
 unfold Gz
 by_cases hs : s.size > 262144
 ·have : decide (((s.size : Nat) : Int) > 262144) = true := by simp; omega
  rw [this]
  exact ⟨_, _, _, rfl, .inr ⟨(by show (33 : Int) ≠ 0; decide), rfl, fun h => absurd h (by omega), .inl rfl⟩⟩
 ·have : decide (((s.size : Nat) : Int) > 262144) = false := by simp; omega
  rw [this]
  simp only [cond_false]
  obtain ⟨rf, rfl⟩ : ∃ m', n = m' + 1 := ⟨n - 1, by omega⟩
  have h := list_loop3 (rf + 1) s (by omega) (by omega) s.size 0 (rf + 1) rf [] [] 0 (by omega) (by omega) (by omega) (by omega) (by omega) (by simp) (by omega) (by simp)
  unfold Ke
  rw [B8]
  have e0 : ((([] : List (List Ae)).length : Nat) : Int) = 0 := rfl
  have e1 : (((0 : Nat) : Nat) : Int) = 0 := rfl
  rw [e0, e1] at h
  have hf : parseX (bs s) = (Gl [] [] 0 ((bs s).drop 0)).map (·.1) := rfl
  rcases h with ⟨e, g1, g2, g3, g4⟩ | ⟨out, y2, n2, g1, g2, g3, g4, g5⟩
  ·rw [g2]
   refine ⟨[], e.f_at, e.f_e, rfl, .inr ⟨g1, rfl, fun _ => ?_, g4⟩⟩
   rw [hf, g3]; rfl
  ·rw [g1]
   refine ⟨out, 0, 0, rfl, .inl ⟨rfl, rfl, by omega, ?_⟩⟩
   have g6 : Gl [] [] 0 ((bs s).drop 0) = some (out, n2) := g5
   rw [hf, g6]; rfl
mutual
theorem balT : ∀ (t : Ae) (d : Nat) (r : List Tk), balB d (toksT t ++ r) = balB d r
 | .mk k w v l, d, r => by
  rw [toksT]
  by_cases h : k = 4
  ·rw [if_pos h]
   have := balL l (d + 1) (.cls :: r)
   simp only [List.cons_append, List.append_assoc, List.nil_append, List.singleton_append] at this ⊢
   cases d <;> · rw [balB, this]; rfl
  ·rw [if_neg h]
   cases d <;> rfl
theorem balL : ∀ (l : List Ae) (d : Nat) (r : List Tk), balB d (toksL l ++ r) = balB d r
 | [], d, r => by rw [toksL]; rfl
 | t :: q, d, r => by rw [toksL, List.append_assoc, balT t d, balL q d]
end
theorem fullB_toks {l : List Int} {x : List Ae} (h : Cp .blank l = some (toksL x)) : H5 0 l = some true := by
 unfold H5
 rw [h]
 have := balL x 0 []
 rw [List.append_nil] at this
 rw [Option.map_some, this]; rfl
end Go.DM
namespace Go.DM
open Go
set_option maxRecDepth 100000

mutual
def szT : Ae → Nat
 | .mk _ w _ l => szL l + 1 + w.size
def szL : List Ae → Nat
 | [] => 0
 | t :: r => szT t + szL r
end
theorem szT_eq (t : Ae) : szT t = szL t.f_Kids + 1 + t.f_Word.size := by obtain ⟨k, w, v, l⟩ := t; rw [szT]; rfl
theorem szL_mem {x : Ae} : ∀ {l : List Ae}, x ∈ l → szT x ≤ szL l
 | t :: r, h => by
  rw [szL]
  rcases List.mem_cons.1 h with rfl | h
  ·omega
  ·have := szL_mem h; omega
theorem len_szL : ∀ (l : List Ae), l.length ≤ szL l
 | [] => by rw [szL]; simp
 | t :: r => by
  have := len_szL r
  rw [szL, szT_eq, List.length_cons]; omega
mutual
theorem cnt_szT : ∀ (t : Ae), cntT t ≤ szT t
 | .mk k w v l => by rw [cntT, szT]; have := cnt_szL l; omega
theorem cnt_szL : ∀ (l : List Ae), cntL l ≤ szL l
 | [] => by rw [cntL]; omega
 | t :: r => by rw [cntL, szL]; have := cnt_szT t; have := cnt_szL r; omega
end
mutual
theorem deep_szT : ∀ (t : Ae), deepT t ≤ szT t
 | .mk k w v l => by rw [deepT, szT]; have := deep_szL l; split <;> omega
theorem deep_szL : ∀ (l : List Ae), deepL l ≤ szL l
 | [] => by rw [deepL]; omega
 | t :: r => by rw [deepL, szL]; have := deep_szT t; have := deep_szL r; omega
end
mutual
theorem sz_tkT : ∀ (t : Ae), FormT t → szT t ≤ tkzs (toksT t)
 | .mk k w v l, h => by
  rw [FormT] at h
  rcases h with ⟨rfl, rfl, rfl, hl⟩ | ⟨hk, ha⟩
  ·have := sz_tkL l hl
   rw [toksT, if_pos rfl, szT, tkzs, tkzs_app]
   have e : nilB3.size = 0 := rfl
   simp only [tkz, tkzs]; omega
  ·have hkid := ha.kids
   simp only [Ae.f_Kids] at hkid
   subst hkid
   rw [toksT, if_neg hk, szT, szL, tkzs, tkzs, tkz]
   show 0 + 1 + w.size ≤ (if k = 2 then 23 else w.size + 3) + 0
   by_cases h2 : k = 2
   ·rw [if_pos h2]
    rcases ha with ⟨h, _⟩ | ⟨_, h, _⟩ | ⟨h, _⟩
    ·simp only [Ae.f_Kind] at h; omega
    ·simp only [Ae.f_Word] at h; subst h
     have e : nilB3.size = 0 := rfl
     omega
    ·simp only [Ae.f_Kind] at h; omega
   ·rw [if_neg h2]; omega
theorem sz_tkL : ∀ (l : List Ae), FormL l → szL l ≤ tkzs (toksL l)
 | [], _ => by rw [szL]; omega
 | t :: r, h => by
  rw [FormL] at h
  have := sz_tkT t h.1
  have := sz_tkL r h.2
  rw [szL, toksL, tkzs_app]; omega
end

theorem bs_app (s t : ByteArray) : bs (s ++ t) = bs s ++ bs t := by
 simp [bs, ByteArray.data_append]
theorem parse_small4 {s : ByteArray} {x : List Ae} (hs : s.size ≤ 262144) (h : parseX (bs s) = some x) : FormL x ∧ deepL x ≤ 32 ∧ cntL x ≤ 65536 ∧ szL x ≤ 6100000 ∧ Cp .blank (bs s) = some (toksL x) := by
 obtain ⟨h1, h2, h3, h4⟩ := (parseX_iff _ _).1 h
 have hz := (lexF_ok _ .blank _ trivial h1).2
 rw [Gh] at hz
 have e : lsz .blank = 0 := rfl
 have := sz_tkL x h2
 exact ⟨h2, h3, h4, by omega, h1⟩
def cntK : List Tk → Nat
 | [] => 0
 | .cls :: r => cntK r
 | .opn :: r => cntK r + 1
 | .atom _ :: r => cntK r + 1
theorem cntK_app : ∀ (a b : List Tk), cntK (a ++ b) = cntK a + cntK b
 | [], b => by rw [List.nil_append, cntK]; omega
 | .cls :: r, b => by rw [List.cons_append, cntK, cntK, cntK_app r b]
 | .opn :: r, b => by rw [List.cons_append, cntK, cntK, cntK_app r b]; omega
 | .atom _ :: r, b => by rw [List.cons_append, cntK, cntK, cntK_app r b]; omega
mutual
theorem cntK_T : ∀ (t : Ae), FormT t → cntK (toksT t) = cntT t
 | .mk k w v l, h => by
  rw [FormT] at h
  rcases h with ⟨rfl, rfl, rfl, hl⟩ | ⟨hk, ha⟩
  ·have := cntK_L l hl
   rw [toksT, if_pos rfl, cntK, cntK_app, this, cntT]
   rfl
  ·have hkid := ha.kids
   simp only [Ae.f_Kids] at hkid
   subst hkid
   rw [toksT, if_neg hk, cntT, cntL]
   rfl
theorem cntK_L : ∀ (l : List Ae), FormL l → cntK (toksL l) = cntL l
 | [], _ => by rw [toksL, cntL]; rfl
 | t :: r, h => by
  rw [FormL] at h
  rw [toksL, cntK_app, cntK_T t h.1, cntK_L r h.2, cntL]
end
theorem parse_both (n : Nat) (hn : 262200 ≤ n) {s t : ByteArray} {x y : List Ae} (hz : s.size + t.size + 1 ≤ 262144) (hx : parseX (bs s) = some x) (hy : parseX (bs t) = some y) :
  ∃ z a e, Gz n (s ++ ByteArray.mk #[10] ++ t) = some (z, a, e) ∧ ((e = 0 ∧ z = x ++ y ∧ szL z ≤ 6100000) ∨ e = 33) := by
 obtain ⟨f1, f2, f3, f4, f5⟩ := parse_small4 (by omega) hx
 obtain ⟨g1, g2, g3, g4, g5⟩ := parse_small4 (by omega) hy
 have hbs : bs (s ++ ByteArray.mk #[10] ++ t) = bs s ++ 10 :: bs t := by
  rw [bs_app, bs_app, List.append_assoc]; rfl
 have hsz : (s ++ ByteArray.mk #[10] ++ t).size ≤ 262144 := by
  rw [ByteArray.size_append, ByteArray.size_append]
  show s.size + 1 + t.size ≤ 262144
  omega
 have hl : Cp .blank (bs s ++ 10 :: bs t) = some (toksL (x ++ y)) := by
  rw [lex_join _ _ _ _ f5, g5, toksL_app]; rfl
 obtain ⟨z, a, e, h1, h2⟩ := Parse_eq n (s ++ ByteArray.mk #[10] ++ t) hn
 refine ⟨z, a, e, h1, ?_⟩
 rw [hbs] at h2
 rcases h2 with ⟨rfl, _, _, hp⟩ | ⟨_, _, _, h33 | hb⟩
 ·left
  refine ⟨rfl, ?_, (parse_small4 hsz (by rw [hbs]; exact hp)).2.2.2.1⟩
  obtain ⟨q1, q2, q3, q4⟩ := (parseX_iff _ _).1 hp
  rw [hl] at q1
  injection q1 with q1
  have hc : cntL (x ++ y) ≤ 65536 := by
   rw [← cntK_L _ (FormL_app f1 g1), q1, cntK_L _ q2]; exact q4
  have := (parseX_iff _ (x ++ y)).2 ⟨hl, FormL_app f1 g1, by rw [deepL_app]; omega, hc⟩
  rw [hp] at this
  injection this
 ·exact .inr h33
 ·exact absurd (fullB_toks hl) hb
end Go.DM
