/- Plain laws of isadl's reader, first part: what it calls comes to an end, with an error that is not 0 or with a value within bounds. No condition. -/
import Derived.Test.YtnkingoidodnlaaGreatDoorLawT
import Derived.Lib.CutLaws
import Derived.Lib.AtoiAllCases
namespace Go.DM
open Go
set_option maxRecDepth 100000

def Tot {α : Type} (P : α → Prop) (x : Option α) : Prop := ∃ r, x = some r ∧ P r
def OkP {α : Type} (P : α → Prop) : PR α Int → Prop
 | .val x => P x
 | .pan e => e ≠ 0
def OkL {S R : Type} (P : S → Prop) (Q : R → Prop) : LR S R → Prop
 | .out s => P s
 | .ret r => Q r
def Nev {α : Type} (_ : α) : Prop := False
section
variable {α α2 α3 β γ S T : Type} {P : α → Prop} {Q : β → Prop} {R : γ → Prop}
theorem Tot.some {x : α} (h : P x) : Tot P (some x) := ⟨_, rfl, h⟩
theorem Tot.bind {x : Option α} {k : α → Option β} (h : Tot P x) (h' : ∀ a, P a → Tot Q (k a)) : Tot Q (x.bind k) := by
 obtain ⟨a, rfl, ha⟩ := h; exact h' a ha
theorem Tot.bind2 {P : α × α2 → Prop} {x : Option (α × α2)} {k : α × α2 → Option β} (h : Tot P x) (h' : ∀ a b, P (a, b) → Tot Q (k (a, b))) : Tot Q (x.bind k) := by
 obtain ⟨⟨a, b⟩, rfl, ha⟩ := h; exact h' a b ha
theorem Tot.bind3 {P : α × α2 × α3 → Prop} {x : Option (α × α2 × α3)} {k : α × α2 × α3 → Option β} (h : Tot P x) (h' : ∀ a b c, P (a, b, c) → Tot Q (k (a, b, c))) : Tot Q (x.bind k) := by
 obtain ⟨⟨a, b, c⟩, rfl, ha⟩ := h; exact h' a b c ha
theorem Aq {x : Option (PR α Int)} {k : PR α Int → Option β} (h : Tot (OkP P) x) (h2 : ∀ e, e ≠ 0 → Tot Q (k (.pan e))) (h1 : ∀ a, P a → Tot Q (k (.val a))) : Tot Q (x.bind k) := by
 obtain ⟨a, rfl, ha⟩ := h
 cases a with
 | val a => exact h1 a ha
 | pan e => exact h2 e ha
theorem Ax {P : α × α2 → Prop} {x : Option (PR (α × α2) Int)} {k : PR (α × α2) Int → Option β} (h : Tot (OkP P) x) (h2 : ∀ e, e ≠ 0 → Tot Q (k (.pan e))) (h1 : ∀ a b, P (a, b) → Tot Q (k (.val (a, b)))) : Tot Q (x.bind k) :=
 Aq h h2 fun ⟨a, b⟩ ha => h1 a b ha
theorem Tot.bindP3 {P : α × α2 × α3 → Prop} {x : Option (PR (α × α2 × α3) Int)} {k : PR (α × α2 × α3) Int → Option β} (h : Tot (OkP P) x) (h2 : ∀ e, e ≠ 0 → Tot Q (k (.pan e))) (h1 : ∀ a b c, P (a, b, c) → Tot Q (k (.val (a, b, c)))) : Tot Q (x.bind k) :=
 Aq h h2 fun ⟨a, b, c⟩ ha => h1 a b c ha
theorem Tot.bindL {x : Option (LR α (PR T Int))} {k : LR α (PR T Int) → Option β} (h : Tot (OkL P (OkP Nev)) x) (h2 : ∀ e, e ≠ 0 → Tot Q (k (.ret (.pan e)))) (h1 : ∀ a, P a → Tot Q (k (.out a))) : Tot Q (x.bind k) := by
 obtain ⟨a, rfl, ha⟩ := h
 cases a with
 | out a => exact h1 a ha
 | ret r => cases r with
  | val a => exact ha.elim
  | pan e => exact h2 e ha
theorem Tot.bindL2 {P : α × α2 → Prop} {x : Option (LR (α × α2) (PR T Int))} {k : LR (α × α2) (PR T Int) → Option β} (h : Tot (OkL P (OkP Nev)) x) (h2 : ∀ e, e ≠ 0 → Tot Q (k (.ret (.pan e)))) (h1 : ∀ a b, P (a, b) → Tot Q (k (.out (a, b)))) : Tot Q (x.bind k) :=
 Tot.bindL h h2 fun ⟨a, b⟩ ha => h1 a b ha
theorem Tot.cond {b : Bool} {x y : Option α} (h1 : b = true → Tot P x) (h2 : b = false → Tot P y) : Tot P (cond b x y) := by
 cases b with
 | true => exact h1 rfl
 | false => exact h2 rfl
theorem Bl {x : Option α} {f : α → Option β} {k : β → Option γ} (h : Tot R (x.bind fun a => (f a).bind k)) : Tot R ((x.bind f).bind k) := by
 cases x with
 | none => exact h
 | some a => exact h
theorem Df {b : Bool} {x y : Option α} {k : α → Option β} (h1 : b = true → Tot Q (x.bind k)) (h2 : b = false → Tot Q (y.bind k)) : Tot Q ((_root_.cond b x y).bind k) := by
 cases b with
 | true => exact h1 rfl
 | false => exact h2 rfl
theorem Ba {a : α} {k : α → Option β} (h : Tot Q (k a)) : Tot Q ((Option.some a).bind k) := h
end

theorem atL_t {α : Type} {l : List α} {i : Int} (h0 : 0 ≤ i) (h1 : i < l.length) : Tot (fun x => x ∈ l) (atL l i) := by
 unfold atL
 rw [if_pos h0, List.getElem?_eq_getElem (by omega)]
 exact Tot.some (List.getElem_mem _)
theorem appL_t {α : Type} {b : Nat} {l m : List α} (hb : b ≤ 200) (h : l.length ≤ 10000000) (hm : m.length ≤ 10000000) : Tot (fun r => r = l ++ m) (appL b l m) := by
 unfold appL
 rw [if_pos]
 ·exact Tot.some rfl
 ·have : (2 * (l.length + m.length) + 1024) * b ≤ (2 * (10000000 + 10000000) + 1024) * 200 := Nat.mul_le_mul (by omega) hb
  omega
theorem Ct (n : Nat) (b : Bool) {e : Int} (he : e ≠ 0) : Tot (OkP fun _ => b = true) (Ay n b e) := by
 unfold Ay
 cases b with
 | false => exact Tot.some he
 | true => exact Tot.some rfl
theorem more_e (n : Nat) (l : List Ae) : H8 n l = some (decide (0 < l.length)) := by
 unfold H8
 congr 1
 simp
theorem more_t (n : Nat) (l : List Ae) : Tot (fun b => b = decide (0 < l.length)) (H8 n l) := by rw [more_e]; exact Tot.some rfl
theorem list_t (n : Nat) (t : Ae) : Tot (OkP fun c => szL c.f_rest + t.f_Word.size + 1 = szT t) (Ej n t) := by
 unfold Ej
 refine Aq (Ct n _ (by decide)) (fun _ he => Tot.some he) fun _ _ => Tot.some ?_
 show szL t.f_Kids + t.f_Word.size + 1 = szT t
 rw [szT_eq]; omega
theorem next_t (n : Nat) (l : List Ae) (k : Int) : Tot (OkP fun r => szT r.1 + szL r.2 = szL l ∧ szL r.1.f_Kids + r.1.f_Word.size + 1 = szT r.1) (Fh n l k) := by
 unfold Fh
 rw [more_e]
 cases l with
 | nil => exact Tot.some (by show (41 : Int) ≠ 0; decide)
 | cons t r =>
  have h0 : atL (t :: r) 0 = some t := rfl
  have h1 : subL (t :: r) 1 (((t :: r).length : Nat) : Int) = some r := by
   unfold subL
   rw [if_pos ⟨by decide, by rw [List.length_cons]; omega, by omega⟩]
   simp
  have h2 : decide (0 < (t :: r).length) = true := by simp
  rw [h2, h0, h1]
  refine Ba (Df (fun _ => Df (fun _ => Ba ?_) fun _ => Ba (Ba ?_)) fun h => by cases h)
  ·refine Aq (Ct n _ (by decide)) (fun _ he => Tot.some he) fun _ _ => ?_
   refine Ba (Ba (Tot.some ?_))
   show szT t + szL r = szL (t :: r) ∧ szL t.f_Kids + t.f_Word.size + 1 = szT t
   rw [szL, szT_eq]; omega
  ·refine Aq (Ct n _ (by decide)) (fun _ he => Tot.some he) fun _ _ => ?_
   refine Ba (Ba (Tot.some ?_))
   show szT t + szL r = szL (t :: r) ∧ szL t.f_Kids + t.f_Word.size + 1 = szT t
   rw [szL, szT_eq]; omega
theorem I3 (n : Nat) (l : List Ae) : Tot (OkP fun r => r.1.size + szL r.2 + 1 ≤ szL l) (Db n l) := by
 unfold Db
 refine Ax (next_t n l 1) (fun _ he => Tot.some he) fun a b h => Tot.some ?_
 show a.f_Word.size + szL b + 1 ≤ szL l
 simp only at h; omega
theorem text_t (n : Nat) (l : List Ae) : Tot (OkP fun r => r.1.size + szL r.2 + 1 ≤ szL l) (gc_text n l) := by
 unfold gc_text
 refine Ax (next_t n l 3) (fun _ he => Tot.some he) fun a b h => Tot.some ?_
 show a.f_Word.size + szL b + 1 ≤ szL l
 simp only at h; omega
theorem num_t (n : Nat) (l : List Ae) : Tot (OkP fun r => szL r.2 + 1 ≤ szL l) (Fi n l) := by
 unfold Fi
 refine Ax (next_t n l 2) (fun _ he => Tot.some he) fun a b h => ?_
 refine Aq (Ct n _ (by decide)) (fun _ he => Tot.some he) fun _ _ => Tot.some ?_
 show szL b + 1 ≤ szL l
 simp only at h; omega
theorem end_t (n : Nat) (l : List Ae) : Tot (OkP fun _ => True) (gc_end n l) := by
 unfold gc_end
 rw [more_e]
 refine Ba (Aq (Ct n _ (by decide)) (fun _ he => Tot.some he) fun _ _ => Tot.some trivial)
theorem is_t (n : Nat) (l : List Ae) (w : ByteArray) : Tot (fun r => szL r.2 ≤ szL l) (gc_is n l w) := by
 unfold gc_is
 rw [more_e]
 cases l with
 | nil => exact Tot.some (by show szL [] ≤ szL []; omega)
 | cons t r =>
  have h0 : atL (t :: r) 0 = some t := rfl
  have h1 : subL (t :: r) 1 (((t :: r).length : Nat) : Int) = some r := by
   unfold subL
   rw [if_pos ⟨by decide, by rw [List.length_cons]; omega, by omega⟩]
   simp
  have h2 : decide (0 < (t :: r).length) = true := by simp
  rw [h2, h0, h1]
  refine Ba (Df (fun _ => Ba (Ba (Df (fun _ => Ba (Ba ?_)) fun _ => Ba ?_))) fun h => by cases h)
  ·refine Tot.cond (fun _ => Ba (Tot.some ?_)) fun _ => Tot.some (Nat.le_refl _)
   show szL r ≤ szL (t :: r)
   rw [szL]; omega
  ·exact Tot.some (Nat.le_refl _)

theorem gslices_IndexFunc_149_147_108_t (n : Nat) (p0 : List Fz) (w : ByteArray) (hn : 100000 < n) (h : p0.length ≤ 100000) : Tot (fun (r : Int) => -1 ≤ r ∧ r < (p0.length : Int)) (Dk n p0 w) := by
 have loop : ∀ (k y m : Nat), p0.length - y ≤ k → k < m → Tot (OkL (fun _ => True) fun (r : Int) => 0 ≤ r ∧ r < (p0.length : Int)) (Bp n p0 w m (y : Int)) := by
  intro k
  induction k with
  | zero =>
   intro y m hk hm
   obtain ⟨m, rfl⟩ : ∃ m', m = m' + 1 := ⟨m - 1, by omega⟩
   rw [Bp]
   have h1 : decide (((y : Nat) : Int) < ((p0.length : Nat) : Int)) = false := by simp; omega
   rw [h1]
   exact Tot.some trivial
  | succ k ih =>
   intro y m hk hm
   obtain ⟨m, rfl⟩ : ∃ m', m = m' + 1 := ⟨m - 1, by omega⟩
   rw [Bp]
   refine Tot.cond (fun hc => ?_) fun _ => Tot.some trivial
   have hc := of_decide_eq_true hc
   refine Tot.bind (atL_t (by omega) hc) fun x _ => ?_
   refine Tot.bind (P := fun _ => True) (Tot.some trivial) fun _ _ => ?_
   refine Tot.cond (fun _ => Tot.some ⟨by omega, hc⟩) fun _ => ?_
   rw [Cz (by omega)]
   exact ih (y + 1) m (by omega) (by omega)
 unfold Dk
 have := loop p0.length 0 n (by omega) (by omega)
 rw [show (((0 : Nat) : Nat) : Int) = 0 from rfl] at this
 refine Tot.bind this fun v hv => ?_
 cases v with
 | out _ => exact Tot.some ⟨by omega, by omega⟩
 | ret r => exact Tot.some ⟨by have := hv.1; omega, hv.2⟩

theorem gslices_IndexFunc_148_111_71_t (n : Nat) (p0 : List Dt) (w : ByteArray) (hn : 100000 < n) (h : p0.length ≤ 100000) : Tot (fun (r : Int) => -1 ≤ r ∧ r < (p0.length : Int)) (Dw n p0 w) := by
 have loop : ∀ (k y m : Nat), p0.length - y ≤ k → k < m → Tot (OkL (fun _ => True) fun (r : Int) => 0 ≤ r ∧ r < (p0.length : Int)) (Bx n p0 w m (y : Int)) := by
  intro k
  induction k with
  | zero =>
   intro y m hk hm
   obtain ⟨m, rfl⟩ : ∃ m', m = m' + 1 := ⟨m - 1, by omega⟩
   rw [Bx]
   have h1 : decide (((y : Nat) : Int) < ((p0.length : Nat) : Int)) = false := by simp; omega
   rw [h1]
   exact Tot.some trivial
  | succ k ih =>
   intro y m hk hm
   obtain ⟨m, rfl⟩ : ∃ m', m = m' + 1 := ⟨m - 1, by omega⟩
   rw [Bx]
   refine Tot.cond (fun hc => ?_) fun _ => Tot.some trivial
   have hc := of_decide_eq_true hc
   refine Tot.bind (atL_t (by omega) hc) fun x _ => ?_
   refine Tot.bind (P := fun _ => True) (Tot.some trivial) fun _ _ => ?_
   refine Tot.cond (fun _ => Tot.some ⟨by omega, hc⟩) fun _ => ?_
   rw [Cz (by omega)]
   exact ih (y + 1) m (by omega) (by omega)
 unfold Dw
 have := loop p0.length 0 n (by omega) (by omega)
 rw [show (((0 : Nat) : Nat) : Int) = 0 from rfl] at this
 refine Tot.bind this fun v hv => ?_
 cases v with
 | out _ => exact Tot.some ⟨by omega, by omega⟩
 | ret r => exact Tot.some ⟨by have := hv.1; omega, hv.2⟩

theorem gslices_IndexFunc_149_150_108_t (n : Nat) (p0 : List Fz) (w : ByteArray) (hn : 100000 < n) (h : p0.length ≤ 100000) : Tot (fun (r : Int) => -1 ≤ r ∧ r < (p0.length : Int)) (Dl n p0 w) := by
 have loop : ∀ (k y m : Nat), p0.length - y ≤ k → k < m → Tot (OkL (fun _ => True) fun (r : Int) => 0 ≤ r ∧ r < (p0.length : Int)) (Bq n p0 w m (y : Int)) := by
  intro k
  induction k with
  | zero =>
   intro y m hk hm
   obtain ⟨m, rfl⟩ : ∃ m', m = m' + 1 := ⟨m - 1, by omega⟩
   rw [Bq]
   have h1 : decide (((y : Nat) : Int) < ((p0.length : Nat) : Int)) = false := by simp; omega
   rw [h1]
   exact Tot.some trivial
  | succ k ih =>
   intro y m hk hm
   obtain ⟨m, rfl⟩ : ∃ m', m = m' + 1 := ⟨m - 1, by omega⟩
   rw [Bq]
   refine Tot.cond (fun hc => ?_) fun _ => Tot.some trivial
   have hc := of_decide_eq_true hc
   refine Tot.bind (atL_t (by omega) hc) fun x _ => ?_
   refine Tot.bind (P := fun _ => True) (Tot.some trivial) fun _ _ => ?_
   refine Tot.cond (fun _ => Tot.some ⟨by omega, hc⟩) fun _ => ?_
   rw [Cz (by omega)]
   exact ih (y + 1) m (by omega) (by omega)
 unfold Dl
 have := loop p0.length 0 n (by omega) (by omega)
 rw [show (((0 : Nat) : Nat) : Int) = 0 from rfl] at this
 refine Tot.bind this fun v hv => ?_
 cases v with
 | out _ => exact Tot.some ⟨by omega, by omega⟩
 | ret r => exact Tot.some ⟨by have := hv.1; omega, hv.2⟩

theorem gslices_IndexFunc_151_114_75_t (n : Nat) (p0 : List ByteArray) (w : ByteArray) (hn : 100000 < n) (h : p0.length ≤ 100000) : Tot (fun (r : Int) => -1 ≤ r ∧ r < (p0.length : Int)) (Dx n p0 w) := by
 have loop : ∀ (k y m : Nat), p0.length - y ≤ k → k < m → Tot (OkL (fun _ => True) fun (r : Int) => 0 ≤ r ∧ r < (p0.length : Int)) (Bz n p0 w m (y : Int)) := by
  intro k
  induction k with
  | zero =>
   intro y m hk hm
   obtain ⟨m, rfl⟩ : ∃ m', m = m' + 1 := ⟨m - 1, by omega⟩
   rw [Bz]
   have h1 : decide (((y : Nat) : Int) < ((p0.length : Nat) : Int)) = false := by simp; omega
   rw [h1]
   exact Tot.some trivial
  | succ k ih =>
   intro y m hk hm
   obtain ⟨m, rfl⟩ : ∃ m', m = m' + 1 := ⟨m - 1, by omega⟩
   rw [Bz]
   refine Tot.cond (fun hc => ?_) fun _ => Tot.some trivial
   have hc := of_decide_eq_true hc
   refine Tot.bind (atL_t (by omega) hc) fun x _ => ?_
   refine Tot.bind (P := fun _ => True) (Tot.some trivial) fun _ _ => ?_
   refine Tot.cond (fun _ => Tot.some ⟨by omega, hc⟩) fun _ => ?_
   rw [Cz (by omega)]
   exact ih (y + 1) m (by omega) (by omega)
 unfold Dx
 have := loop p0.length 0 n (by omega) (by omega)
 rw [show (((0 : Nat) : Nat) : Int) = 0 from rfl] at this
 refine Tot.bind this fun v hv => ?_
 cases v with
 | out _ => exact Tot.some ⟨by omega, by omega⟩
 | ret r => exact Tot.some ⟨by have := hv.1; omega, hv.2⟩

theorem gslices_IndexFunc_184_153_116_t (n : Nat) (p0 : List Ee) (w : ByteArray) (hn : 100000 < n) (h : p0.length ≤ 100000) : Tot (fun (r : Int) => -1 ≤ r ∧ r < (p0.length : Int)) (Dm n p0 w) := by
 have loop : ∀ (k y m : Nat), p0.length - y ≤ k → k < m → Tot (OkL (fun _ => True) fun (r : Int) => 0 ≤ r ∧ r < (p0.length : Int)) (Br n p0 w m (y : Int)) := by
  intro k
  induction k with
  | zero =>
   intro y m hk hm
   obtain ⟨m, rfl⟩ : ∃ m', m = m' + 1 := ⟨m - 1, by omega⟩
   rw [Br]
   have h1 : decide (((y : Nat) : Int) < ((p0.length : Nat) : Int)) = false := by simp; omega
   rw [h1]
   exact Tot.some trivial
  | succ k ih =>
   intro y m hk hm
   obtain ⟨m, rfl⟩ : ∃ m', m = m' + 1 := ⟨m - 1, by omega⟩
   rw [Br]
   refine Tot.cond (fun hc => ?_) fun _ => Tot.some trivial
   have hc := of_decide_eq_true hc
   refine Tot.bind (atL_t (by omega) hc) fun x _ => ?_
   refine Tot.bind (P := fun _ => True) (Tot.some trivial) fun _ _ => ?_
   refine Tot.cond (fun _ => Tot.some ⟨by omega, hc⟩) fun _ => ?_
   rw [Cz (by omega)]
   exact ih (y + 1) m (by omega) (by omega)
 unfold Dm
 have := loop p0.length 0 n (by omega) (by omega)
 rw [show (((0 : Nat) : Nat) : Int) = 0 from rfl] at this
 refine Tot.bind this fun v hv => ?_
 cases v with
 | out _ => exact Tot.some ⟨by omega, by omega⟩
 | ret r => exact Tot.some ⟨by have := hv.1; omega, hv.2⟩

theorem gslices_IndexFunc_130_155_83_t (n : Nat) (p0 : List F0) (w : ByteArray) (hn : 100000 < n) (h : p0.length ≤ 100000) : Tot (fun (r : Int) => -1 ≤ r ∧ r < (p0.length : Int)) (Dy n p0 w) := by
 have loop : ∀ (k y m : Nat), p0.length - y ≤ k → k < m → Tot (OkL (fun _ => True) fun (r : Int) => 0 ≤ r ∧ r < (p0.length : Int)) (B0 n p0 w m (y : Int)) := by
  intro k
  induction k with
  | zero =>
   intro y m hk hm
   obtain ⟨m, rfl⟩ : ∃ m', m = m' + 1 := ⟨m - 1, by omega⟩
   rw [B0]
   have h1 : decide (((y : Nat) : Int) < ((p0.length : Nat) : Int)) = false := by simp; omega
   rw [h1]
   exact Tot.some trivial
  | succ k ih =>
   intro y m hk hm
   obtain ⟨m, rfl⟩ : ∃ m', m = m' + 1 := ⟨m - 1, by omega⟩
   rw [B0]
   refine Tot.cond (fun hc => ?_) fun _ => Tot.some trivial
   have hc := of_decide_eq_true hc
   refine Tot.bind (atL_t (by omega) hc) fun x _ => ?_
   refine Tot.bind (P := fun _ => True) (Tot.some trivial) fun _ _ => ?_
   refine Tot.cond (fun _ => Tot.some ⟨by omega, hc⟩) fun _ => ?_
   rw [Cz (by omega)]
   exact ih (y + 1) m (by omega) (by omega)
 unfold Dy
 have := loop p0.length 0 n (by omega) (by omega)
 rw [show (((0 : Nat) : Nat) : Int) = 0 from rfl] at this
 refine Tot.bind this fun v hv => ?_
 cases v with
 | out _ => exact Tot.some ⟨by omega, by omega⟩
 | ret r => exact Tot.some ⟨by have := hv.1; omega, hv.2⟩

theorem gslices_IndexFunc_185_157_121_t (n : Nat) (p0 : List Da) (w : ByteArray) (hn : 100000 < n) (h : p0.length ≤ 100000) : Tot (fun (r : Int) => -1 ≤ r ∧ r < (p0.length : Int)) (Dn n p0 w) := by
 have loop : ∀ (k y m : Nat), p0.length - y ≤ k → k < m → Tot (OkL (fun _ => True) fun (r : Int) => 0 ≤ r ∧ r < (p0.length : Int)) (Bs n p0 w m (y : Int)) := by
  intro k
  induction k with
  | zero =>
   intro y m hk hm
   obtain ⟨m, rfl⟩ : ∃ m', m = m' + 1 := ⟨m - 1, by omega⟩
   rw [Bs]
   have h1 : decide (((y : Nat) : Int) < ((p0.length : Nat) : Int)) = false := by simp; omega
   rw [h1]
   exact Tot.some trivial
  | succ k ih =>
   intro y m hk hm
   obtain ⟨m, rfl⟩ : ∃ m', m = m' + 1 := ⟨m - 1, by omega⟩
   rw [Bs]
   refine Tot.cond (fun hc => ?_) fun _ => Tot.some trivial
   have hc := of_decide_eq_true hc
   refine Tot.bind (atL_t (by omega) hc) fun x _ => ?_
   refine Tot.bind (P := fun _ => True) (Tot.some trivial) fun _ _ => ?_
   refine Tot.cond (fun _ => Tot.some ⟨by omega, hc⟩) fun _ => ?_
   rw [Cz (by omega)]
   exact ih (y + 1) m (by omega) (by omega)
 unfold Dn
 have := loop p0.length 0 n (by omega) (by omega)
 rw [show (((0 : Nat) : Nat) : Int) = 0 from rfl] at this
 refine Tot.bind this fun v hv => ?_
 cases v with
 | out _ => exact Tot.some ⟨by omega, by omega⟩
 | ret r => exact Tot.some ⟨by have := hv.1; omega, hv.2⟩

theorem gslices_IndexFunc_184_186_116_t (n : Nat) (p0 : List Ee) (w : ByteArray) (hn : 100000 < n) (h : p0.length ≤ 100000) : Tot (fun (r : Int) => -1 ≤ r ∧ r < (p0.length : Int)) (Dp n p0 w) := by
 have loop : ∀ (k y m : Nat), p0.length - y ≤ k → k < m → Tot (OkL (fun _ => True) fun (r : Int) => 0 ≤ r ∧ r < (p0.length : Int)) (Bt n p0 w m (y : Int)) := by
  intro k
  induction k with
  | zero =>
   intro y m hk hm
   obtain ⟨m, rfl⟩ : ∃ m', m = m' + 1 := ⟨m - 1, by omega⟩
   rw [Bt]
   have h1 : decide (((y : Nat) : Int) < ((p0.length : Nat) : Int)) = false := by simp; omega
   rw [h1]
   exact Tot.some trivial
  | succ k ih =>
   intro y m hk hm
   obtain ⟨m, rfl⟩ : ∃ m', m = m' + 1 := ⟨m - 1, by omega⟩
   rw [Bt]
   refine Tot.cond (fun hc => ?_) fun _ => Tot.some trivial
   have hc := of_decide_eq_true hc
   refine Tot.bind (atL_t (by omega) hc) fun x _ => ?_
   refine Tot.bind (P := fun _ => True) (Tot.some trivial) fun _ _ => ?_
   refine Tot.cond (fun _ => Tot.some ⟨by omega, hc⟩) fun _ => ?_
   rw [Cz (by omega)]
   exact ih (y + 1) m (by omega) (by omega)
 unfold Dp
 have := loop p0.length 0 n (by omega) (by omega)
 rw [show (((0 : Nat) : Nat) : Int) = 0 from rfl] at this
 refine Tot.bind this fun v hv => ?_
 cases v with
 | out _ => exact Tot.some ⟨by omega, by omega⟩
 | ret r => exact Tot.some ⟨by have := hv.1; omega, hv.2⟩

theorem gslices_IndexFunc_185_196_121_t (n : Nat) (p0 : List Da) (w : ByteArray) (hn : 100000 < n) (h : p0.length ≤ 100000) : Tot (fun (r : Int) => -1 ≤ r ∧ r < (p0.length : Int)) (Dq n p0 w) := by
 have loop : ∀ (k y m : Nat), p0.length - y ≤ k → k < m → Tot (OkL (fun _ => True) fun (r : Int) => 0 ≤ r ∧ r < (p0.length : Int)) (Bu n p0 w m (y : Int)) := by
  intro k
  induction k with
  | zero =>
   intro y m hk hm
   obtain ⟨m, rfl⟩ : ∃ m', m = m' + 1 := ⟨m - 1, by omega⟩
   rw [Bu]
   have h1 : decide (((y : Nat) : Int) < ((p0.length : Nat) : Int)) = false := by simp; omega
   rw [h1]
   exact Tot.some trivial
  | succ k ih =>
   intro y m hk hm
   obtain ⟨m, rfl⟩ : ∃ m', m = m' + 1 := ⟨m - 1, by omega⟩
   rw [Bu]
   refine Tot.cond (fun hc => ?_) fun _ => Tot.some trivial
   have hc := of_decide_eq_true hc
   refine Tot.bind (atL_t (by omega) hc) fun x _ => ?_
   refine Tot.bind (P := fun _ => True) (Tot.some trivial) fun _ _ => ?_
   refine Tot.cond (fun _ => Tot.some ⟨by omega, hc⟩) fun _ => ?_
   rw [Cz (by omega)]
   exact ih (y + 1) m (by omega) (by omega)
 unfold Dq
 have := loop p0.length 0 n (by omega) (by omega)
 rw [show (((0 : Nat) : Nat) : Int) = 0 from rfl] at this
 refine Tot.bind this fun v hv => ?_
 cases v with
 | out _ => exact Tot.some ⟨by omega, by omega⟩
 | ret r => exact Tot.some ⟨by have := hv.1; omega, hv.2⟩

theorem gslices_IndexFunc_151_214_75_t (n : Nat) (p0 : List ByteArray) (w : ByteArray) (hn : 100000 < n) (h : p0.length ≤ 100000) : Tot (fun (r : Int) => -1 ≤ r ∧ r < (p0.length : Int)) (Dz n p0 w) := by
 have loop : ∀ (k y m : Nat), p0.length - y ≤ k → k < m → Tot (OkL (fun _ => True) fun (r : Int) => 0 ≤ r ∧ r < (p0.length : Int)) (B1 n p0 w m (y : Int)) := by
  intro k
  induction k with
  | zero =>
   intro y m hk hm
   obtain ⟨m, rfl⟩ : ∃ m', m = m' + 1 := ⟨m - 1, by omega⟩
   rw [B1]
   have h1 : decide (((y : Nat) : Int) < ((p0.length : Nat) : Int)) = false := by simp; omega
   rw [h1]
   exact Tot.some trivial
  | succ k ih =>
   intro y m hk hm
   obtain ⟨m, rfl⟩ : ∃ m', m = m' + 1 := ⟨m - 1, by omega⟩
   rw [B1]
   refine Tot.cond (fun hc => ?_) fun _ => Tot.some trivial
   have hc := of_decide_eq_true hc
   refine Tot.bind (atL_t (by omega) hc) fun x _ => ?_
   refine Tot.bind (P := fun _ => True) (Tot.some trivial) fun _ _ => ?_
   refine Tot.cond (fun _ => Tot.some ⟨by omega, hc⟩) fun _ => ?_
   rw [Cz (by omega)]
   exact ih (y + 1) m (by omega) (by omega)
 unfold Dz
 have := loop p0.length 0 n (by omega) (by omega)
 rw [show (((0 : Nat) : Nat) : Int) = 0 from rfl] at this
 refine Tot.bind this fun v hv => ?_
 cases v with
 | out _ => exact Tot.some ⟨by omega, by omega⟩
 | ret r => exact Tot.some ⟨by have := hv.1; omega, hv.2⟩

theorem gslices_IndexFunc_171_172_126_t (n : Nat) (p0 : List Eq) (w : ByteArray) (hn : 100000 < n) (h : p0.length ≤ 100000) : Tot (fun (r : Int) => -1 ≤ r ∧ r < (p0.length : Int)) (Dr n p0 w) := by
 have loop : ∀ (k y m : Nat), p0.length - y ≤ k → k < m → Tot (OkL (fun _ => True) fun (r : Int) => 0 ≤ r ∧ r < (p0.length : Int)) (Bv n p0 w m (y : Int)) := by
  intro k
  induction k with
  | zero =>
   intro y m hk hm
   obtain ⟨m, rfl⟩ : ∃ m', m = m' + 1 := ⟨m - 1, by omega⟩
   rw [Bv]
   have h1 : decide (((y : Nat) : Int) < ((p0.length : Nat) : Int)) = false := by simp; omega
   rw [h1]
   exact Tot.some trivial
  | succ k ih =>
   intro y m hk hm
   obtain ⟨m, rfl⟩ : ∃ m', m = m' + 1 := ⟨m - 1, by omega⟩
   rw [Bv]
   refine Tot.cond (fun hc => ?_) fun _ => Tot.some trivial
   have hc := of_decide_eq_true hc
   refine Tot.bind (atL_t (by omega) hc) fun x _ => ?_
   refine Tot.bind (P := fun _ => True) (Tot.some trivial) fun _ _ => ?_
   refine Tot.cond (fun _ => Tot.some ⟨by omega, hc⟩) fun _ => ?_
   rw [Cz (by omega)]
   exact ih (y + 1) m (by omega) (by omega)
 unfold Dr
 have := loop p0.length 0 n (by omega) (by omega)
 rw [show (((0 : Nat) : Nat) : Int) = 0 from rfl] at this
 refine Tot.bind this fun v hv => ?_
 cases v with
 | out _ => exact Tot.some ⟨by omega, by omega⟩
 | ret r => exact Tot.some ⟨by have := hv.1; omega, hv.2⟩

theorem gslices_IndexFunc_171_170_126_t (n : Nat) (p0 : List Eq) (w : ByteArray) (hn : 100000 < n) (h : p0.length ≤ 100000) : Tot (fun (r : Int) => -1 ≤ r ∧ r < (p0.length : Int)) (Ds n p0 w) := by
 have loop : ∀ (k y m : Nat), p0.length - y ≤ k → k < m → Tot (OkL (fun _ => True) fun (r : Int) => 0 ≤ r ∧ r < (p0.length : Int)) (Bw n p0 w m (y : Int)) := by
  intro k
  induction k with
  | zero =>
   intro y m hk hm
   obtain ⟨m, rfl⟩ : ∃ m', m = m' + 1 := ⟨m - 1, by omega⟩
   rw [Bw]
   have h1 : decide (((y : Nat) : Int) < ((p0.length : Nat) : Int)) = false := by simp; omega
   rw [h1]
   exact Tot.some trivial
  | succ k ih =>
   intro y m hk hm
   obtain ⟨m, rfl⟩ : ∃ m', m = m' + 1 := ⟨m - 1, by omega⟩
   rw [Bw]
   refine Tot.cond (fun hc => ?_) fun _ => Tot.some trivial
   have hc := of_decide_eq_true hc
   refine Tot.bind (atL_t (by omega) hc) fun x _ => ?_
   refine Tot.bind (P := fun _ => True) (Tot.some trivial) fun _ _ => ?_
   refine Tot.cond (fun _ => Tot.some ⟨by omega, hc⟩) fun _ => ?_
   rw [Cz (by omega)]
   exact ih (y + 1) m (by omega) (by omega)
 unfold Ds
 have := loop p0.length 0 n (by omega) (by omega)
 rw [show (((0 : Nat) : Nat) : Int) = 0 from rfl] at this
 refine Tot.bind this fun v hv => ?_
 cases v with
 | out _ => exact Tot.some ⟨by omega, by omega⟩
 | ret r => exact Tot.some ⟨by have := hv.1; omega, hv.2⟩

theorem gslices_IndexFunc_130_131_83_t (n : Nat) (p0 : List F0) (w : ByteArray) (hn : 100000 < n) (h : p0.length ≤ 100000) : Tot (fun (r : Int) => -1 ≤ r ∧ r < (p0.length : Int)) (D0 n p0 w) := by
 have loop : ∀ (k y m : Nat), p0.length - y ≤ k → k < m → Tot (OkL (fun _ => True) fun (r : Int) => 0 ≤ r ∧ r < (p0.length : Int)) (B2 n p0 w m (y : Int)) := by
  intro k
  induction k with
  | zero =>
   intro y m hk hm
   obtain ⟨m, rfl⟩ : ∃ m', m = m' + 1 := ⟨m - 1, by omega⟩
   rw [B2]
   have h1 : decide (((y : Nat) : Int) < ((p0.length : Nat) : Int)) = false := by simp; omega
   rw [h1]
   exact Tot.some trivial
  | succ k ih =>
   intro y m hk hm
   obtain ⟨m, rfl⟩ : ∃ m', m = m' + 1 := ⟨m - 1, by omega⟩
   rw [B2]
   refine Tot.cond (fun hc => ?_) fun _ => Tot.some trivial
   have hc := of_decide_eq_true hc
   refine Tot.bind (atL_t (by omega) hc) fun x _ => ?_
   refine Tot.bind (P := fun _ => True) (Tot.some trivial) fun _ _ => ?_
   refine Tot.cond (fun _ => Tot.some ⟨by omega, hc⟩) fun _ => ?_
   rw [Cz (by omega)]
   exact ih (y + 1) m (by omega) (by omega)
 unfold D0
 have := loop p0.length 0 n (by omega) (by omega)
 rw [show (((0 : Nat) : Nat) : Int) = 0 from rfl] at this
 refine Tot.bind this fun v hv => ?_
 cases v with
 | out _ => exact Tot.some ⟨by omega, by omega⟩
 | ret r => exact Tot.some ⟨by have := hv.1; omega, hv.2⟩

theorem gslices_IndexFunc_173_133_85_t (n : Nat) (p0 : List Fx) (w : ByteArray) (hn : 100000 < n) (h : p0.length ≤ 100000) : Tot (fun (r : Int) => -1 ≤ r ∧ r < (p0.length : Int)) (D1 n p0 w) := by
 have loop : ∀ (k y m : Nat), p0.length - y ≤ k → k < m → Tot (OkL (fun _ => True) fun (r : Int) => 0 ≤ r ∧ r < (p0.length : Int)) (B3 n p0 w m (y : Int)) := by
  intro k
  induction k with
  | zero =>
   intro y m hk hm
   obtain ⟨m, rfl⟩ : ∃ m', m = m' + 1 := ⟨m - 1, by omega⟩
   rw [B3]
   have h1 : decide (((y : Nat) : Int) < ((p0.length : Nat) : Int)) = false := by simp; omega
   rw [h1]
   exact Tot.some trivial
  | succ k ih =>
   intro y m hk hm
   obtain ⟨m, rfl⟩ : ∃ m', m = m' + 1 := ⟨m - 1, by omega⟩
   rw [B3]
   refine Tot.cond (fun hc => ?_) fun _ => Tot.some trivial
   have hc := of_decide_eq_true hc
   refine Tot.bind (atL_t (by omega) hc) fun x _ => ?_
   refine Tot.bind (P := fun _ => True) (Tot.some trivial) fun _ _ => ?_
   refine Tot.cond (fun _ => Tot.some ⟨by omega, hc⟩) fun _ => ?_
   rw [Cz (by omega)]
   exact ih (y + 1) m (by omega) (by omega)
 unfold D1
 have := loop p0.length 0 n (by omega) (by omega)
 rw [show (((0 : Nat) : Nat) : Int) = 0 from rfl] at this
 refine Tot.bind this fun v hv => ?_
 cases v with
 | out _ => exact Tot.some ⟨by omega, by omega⟩
 | ret r => exact Tot.some ⟨by have := hv.1; omega, hv.2⟩

theorem H9 (n : Nat) (p0 : List ByteArray) (w : ByteArray) (hn : 100000 < n) (h : p0.length ≤ 100000) : Tot (fun (r : Int) => -1 ≤ r ∧ r < (p0.length : Int)) (Eu n p0 w) := by
 have loop : ∀ (k y m : Nat), p0.length - y ≤ k → k < m → Tot (OkL (fun _ => True) fun (r : Int) => 0 ≤ r ∧ r < (p0.length : Int)) (Dj n p0 w m (y : Int)) := by
  intro k
  induction k with
  | zero =>
   intro y m hk hm
   obtain ⟨m, rfl⟩ : ∃ m', m = m' + 1 := ⟨m - 1, by omega⟩
   rw [Dj]
   have h1 : decide (((y : Nat) : Int) < ((p0.length : Nat) : Int)) = false := by simp; omega
   rw [h1]
   exact Tot.some trivial
  | succ k ih =>
   intro y m hk hm
   obtain ⟨m, rfl⟩ : ∃ m', m = m' + 1 := ⟨m - 1, by omega⟩
   rw [Dj]
   refine Tot.cond (fun hc => ?_) fun _ => Tot.some trivial
   have hc := of_decide_eq_true hc
   refine Tot.bind (atL_t (by omega) hc) fun x _ => ?_
   skip
   refine Tot.cond (fun _ => Tot.some ⟨by omega, hc⟩) fun _ => ?_
   rw [Cz (by omega)]
   exact ih (y + 1) m (by omega) (by omega)
 unfold Eu
 have := loop p0.length 0 n (by omega) (by omega)
 rw [show (((0 : Nat) : Nat) : Int) = 0 from rfl] at this
 refine Tot.bind this fun v hv => ?_
 cases v with
 | out _ => exact Tot.some ⟨by omega, by omega⟩
 | ret r => exact Tot.some ⟨by have := hv.1; omega, hv.2⟩

theorem gslices_Contains_105_t (n : Nat) (p0 : List ByteArray) (w : ByteArray) (hn : 100000 < n) (h : p0.length ≤ 100000) : Tot (fun _ => True) (Fb n p0 w) := by
 unfold Fb
 exact Tot.bind (H9 n p0 w hn h) fun _ _ => Tot.some trivial

theorem Kj (n : Nat) (p0 : List Fz) (w : ByteArray) (hn : 100000 < n) (h : p0.length ≤ 100000) : Tot (fun _ => True) (C1 n p0 w) := by
 unfold C1
 exact Tot.bind (gslices_IndexFunc_149_147_108_t n p0 w hn h) fun _ _ => Tot.some trivial

theorem Kv (n : Nat) (p0 : List Dt) (w : ByteArray) (hn : 100000 < n) (h : p0.length ≤ 100000) : Tot (fun _ => True) (C6 n p0 w) := by
 unfold C6
 exact Tot.bind (gslices_IndexFunc_148_111_71_t n p0 w hn h) fun _ _ => Tot.some trivial

theorem Kw (n : Nat) (p0 : List ByteArray) (w : ByteArray) (hn : 100000 < n) (h : p0.length ≤ 100000) : Tot (fun _ => True) (C7 n p0 w) := by
 unfold C7
 exact Tot.bind (gslices_IndexFunc_151_114_75_t n p0 w hn h) fun _ _ => Tot.some trivial

theorem Kk (n : Nat) (p0 : List Ee) (w : ByteArray) (hn : 100000 < n) (h : p0.length ≤ 100000) : Tot (fun _ => True) (C2 n p0 w) := by
 unfold C2
 exact Tot.bind (gslices_IndexFunc_184_153_116_t n p0 w hn h) fun _ _ => Tot.some trivial

theorem Kx (n : Nat) (p0 : List F0) (w : ByteArray) (hn : 100000 < n) (h : p0.length ≤ 100000) : Tot (fun _ => True) (C8 n p0 w) := by
 unfold C8
 exact Tot.bind (gslices_IndexFunc_130_155_83_t n p0 w hn h) fun _ _ => Tot.some trivial

theorem Kl (n : Nat) (p0 : List Da) (w : ByteArray) (hn : 100000 < n) (h : p0.length ≤ 100000) : Tot (fun _ => True) (C3 n p0 w) := by
 unfold C3
 exact Tot.bind (gslices_IndexFunc_185_157_121_t n p0 w hn h) fun _ _ => Tot.some trivial

theorem Km (n : Nat) (p0 : List Eq) (w : ByteArray) (hn : 100000 < n) (h : p0.length ≤ 100000) : Tot (fun _ => True) (C4 n p0 w) := by
 unfold C4
 exact Tot.bind (gslices_IndexFunc_171_170_126_t n p0 w hn h) fun _ _ => Tot.some trivial

theorem Ky (n : Nat) (p0 : List Fx) (w : ByteArray) (hn : 100000 < n) (h : p0.length ≤ 100000) : Tot (fun _ => True) (C9 n p0 w) := by
 unfold C9
 exact Tot.bind (gslices_IndexFunc_173_133_85_t n p0 w hn h) fun _ _ => Tot.some trivial

theorem gisadl_fresh_107_108_t (n : Nat) (p0 : List Fz) (w : ByteArray) (k : Int) (hn : 100000 < n) (h : p0.length ≤ 100000) : Tot (OkP fun _ => (p0.length : Int) < k) (F9 n p0 w k) := by
 unfold F9
 refine Tot.bind (Kj n p0 w hn h) fun _ _ => ?_
 refine Aq (Ct n _ (by decide)) (fun _ he => Tot.some he) fun _ _ => ?_
 exact Aq (Ct n _ (by decide)) (fun _ he => Tot.some he) fun _ hc => by replace hc := of_decide_eq_true hc; exact Tot.some hc

theorem gisadl_fresh_70_71_t (n : Nat) (p0 : List Dt) (w : ByteArray) (k : Int) (hn : 100000 < n) (h : p0.length ≤ 100000) : Tot (OkP fun _ => (p0.length : Int) < k) (Fy n p0 w k) := by
 unfold Fy
 refine Tot.bind (Kv n p0 w hn h) fun _ _ => ?_
 refine Aq (Ct n _ (by decide)) (fun _ he => Tot.some he) fun _ _ => ?_
 exact Aq (Ct n _ (by decide)) (fun _ he => Tot.some he) fun _ hc => by replace hc := of_decide_eq_true hc; exact Tot.some hc

theorem I4 (n : Nat) (p0 : List Fz) (w : ByteArray) (hn : 100000 < n) (h : p0.length ≤ 100000) : Tot (OkP fun (r : Int) => 0 ≤ r ∧ r < (p0.length : Int)) (Ek n p0 w) := by
 unfold Ek
 refine Tot.bind (gslices_IndexFunc_149_150_108_t n p0 w hn h) fun r hr => ?_
 exact Aq (Ct n _ (by decide)) (fun _ he => Tot.some he) fun _ hc => by replace hc := of_decide_eq_true hc; exact Tot.some ⟨hc, hr.2⟩

theorem gisadl_fresh_74_75_t (n : Nat) (p0 : List ByteArray) (w : ByteArray) (k : Int) (hn : 100000 < n) (h : p0.length ≤ 100000) : Tot (OkP fun _ => (p0.length : Int) < k) (Ha n p0 w k) := by
 unfold Ha
 refine Tot.bind (Kw n p0 w hn h) fun _ _ => ?_
 refine Aq (Ct n _ (by decide)) (fun _ he => Tot.some he) fun _ _ => ?_
 exact Aq (Ct n _ (by decide)) (fun _ he => Tot.some he) fun _ hc => by replace hc := of_decide_eq_true hc; exact Tot.some hc

theorem gisadl_fresh_115_116_t (n : Nat) (p0 : List Ee) (w : ByteArray) (k : Int) (hn : 100000 < n) (h : p0.length ≤ 100000) : Tot (OkP fun _ => (p0.length : Int) < k) (Ga n p0 w k) := by
 unfold Ga
 refine Tot.bind (Kk n p0 w hn h) fun _ _ => ?_
 refine Aq (Ct n _ (by decide)) (fun _ he => Tot.some he) fun _ _ => ?_
 exact Aq (Ct n _ (by decide)) (fun _ he => Tot.some he) fun _ hc => by replace hc := of_decide_eq_true hc; exact Tot.some hc

theorem gisadl_fresh_118_83_t (n : Nat) (p0 : List F0) (w : ByteArray) (k : Int) (hn : 100000 < n) (h : p0.length ≤ 100000) : Tot (OkP fun _ => (p0.length : Int) < k) (Gn n p0 w k) := by
 unfold Gn
 refine Tot.bind (Kx n p0 w hn h) fun _ _ => ?_
 refine Aq (Ct n _ (by decide)) (fun _ he => Tot.some he) fun _ _ => ?_
 exact Aq (Ct n _ (by decide)) (fun _ he => Tot.some he) fun _ hc => by replace hc := of_decide_eq_true hc; exact Tot.some hc

theorem gisadl_fresh_120_121_t (n : Nat) (p0 : List Da) (w : ByteArray) (k : Int) (hn : 100000 < n) (h : p0.length ≤ 100000) : Tot (OkP fun _ => (p0.length : Int) < k) (Gb n p0 w k) := by
 unfold Gb
 refine Tot.bind (Kl n p0 w hn h) fun _ _ => ?_
 refine Aq (Ct n _ (by decide)) (fun _ he => Tot.some he) fun _ _ => ?_
 exact Aq (Ct n _ (by decide)) (fun _ he => Tot.some he) fun _ hc => by replace hc := of_decide_eq_true hc; exact Tot.some hc

theorem gisadl_place_158_116_t (n : Nat) (p0 : List Ee) (w : ByteArray) (hn : 100000 < n) (h : p0.length ≤ 100000) : Tot (OkP fun (r : Int) => 0 ≤ r ∧ r < (p0.length : Int)) (Fc n p0 w) := by
 unfold Fc
 refine Tot.bind (gslices_IndexFunc_184_186_116_t n p0 w hn h) fun r hr => ?_
 exact Aq (Ct n _ (by decide)) (fun _ he => Tot.some he) fun _ hc => by replace hc := of_decide_eq_true hc; exact Tot.some ⟨hc, hr.2⟩

theorem Gv (n : Nat) (p0 : List Da) (w : ByteArray) (hn : 100000 < n) (h : p0.length ≤ 100000) : Tot (OkP fun (r : Int) => 0 ≤ r ∧ r < (p0.length : Int)) (El n p0 w) := by
 unfold El
 refine Tot.bind (gslices_IndexFunc_185_196_121_t n p0 w hn h) fun r hr => ?_
 exact Aq (Ct n _ (by decide)) (fun _ he => Tot.some he) fun _ hc => by replace hc := of_decide_eq_true hc; exact Tot.some ⟨hc, hr.2⟩

theorem gisadl_place_198_75_t (n : Nat) (p0 : List ByteArray) (w : ByteArray) (hn : 100000 < n) (h : p0.length ≤ 100000) : Tot (OkP fun (r : Int) => 0 ≤ r ∧ r < (p0.length : Int)) (Gp n p0 w) := by
 unfold Gp
 refine Tot.bind (gslices_IndexFunc_151_214_75_t n p0 w hn h) fun r hr => ?_
 exact Aq (Ct n _ (by decide)) (fun _ he => Tot.some he) fun _ hc => by replace hc := of_decide_eq_true hc; exact Tot.some ⟨hc, hr.2⟩

theorem gisadl_place_129_126_t (n : Nat) (p0 : List Eq) (w : ByteArray) (hn : 100000 < n) (h : p0.length ≤ 100000) : Tot (OkP fun (r : Int) => 0 ≤ r ∧ r < (p0.length : Int)) (Gc n p0 w) := by
 unfold Gc
 refine Tot.bind (gslices_IndexFunc_171_172_126_t n p0 w hn h) fun r hr => ?_
 exact Aq (Ct n _ (by decide)) (fun _ he => Tot.some he) fun _ hc => by replace hc := of_decide_eq_true hc; exact Tot.some ⟨hc, hr.2⟩

theorem gisadl_fresh_125_126_t (n : Nat) (p0 : List Eq) (w : ByteArray) (k : Int) (hn : 100000 < n) (h : p0.length ≤ 100000) : Tot (OkP fun _ => (p0.length : Int) < k) (Gd n p0 w k) := by
 unfold Gd
 refine Tot.bind (Km n p0 w hn h) fun _ _ => ?_
 refine Aq (Ct n _ (by decide)) (fun _ he => Tot.some he) fun _ _ => ?_
 exact Aq (Ct n _ (by decide)) (fun _ he => Tot.some he) fun _ hc => by replace hc := of_decide_eq_true hc; exact Tot.some hc

theorem gisadl_place_82_83_t (n : Nat) (p0 : List F0) (w : ByteArray) (hn : 100000 < n) (h : p0.length ≤ 100000) : Tot (OkP fun (r : Int) => 0 ≤ r ∧ r < (p0.length : Int)) (Hj n p0 w) := by
 unfold Hj
 refine Tot.bind (gslices_IndexFunc_130_131_83_t n p0 w hn h) fun r hr => ?_
 exact Aq (Ct n _ (by decide)) (fun _ he => Tot.some he) fun _ hc => by replace hc := of_decide_eq_true hc; exact Tot.some ⟨hc, hr.2⟩

theorem gisadl_fresh_84_85_t (n : Nat) (p0 : List Fx) (w : ByteArray) (k : Int) (hn : 100000 < n) (h : p0.length ≤ 100000) : Tot (OkP fun _ => (p0.length : Int) < k) (Hk n p0 w k) := by
 unfold Hk
 refine Tot.bind (Ky n p0 w hn h) fun _ _ => ?_
 refine Aq (Ct n _ (by decide)) (fun _ he => Tot.some he) fun _ _ => ?_
 exact Aq (Ct n _ (by decide)) (fun _ he => Tot.some he) fun _ hc => by replace hc := of_decide_eq_true hc; exact Tot.some hc

end Go.DM
namespace Go.DM
open Go
set_option maxRecDepth 100000

def okF (s : ByteArray) : Bool := match fieldsT s with
 | some l => Nat.ble l.length 100
 | none => false
theorem fields_t {s : ByteArray} (h : okF s = true) : Tot (fun r => r.length ≤ 100) (fieldsT s) := by
 unfold okF at h
 cases hf : fieldsT s with
 | none => rw [hf] at h; cases h
 | some l => rw [hf] at h; exact Tot.some (Nat.le_of_ble_eq_true h)
theorem trim_t {s : ByteArray} (hs : s.size ≤ 10000000) : Tot (fun _ => True) (trimT s (ByteArray.mk #[48, 49, 120])) := by
 unfold trimT
 rw [if_pos ⟨by omega, by decide, by decide⟩]
 exact Tot.some trivial
theorem cut_t {s : ByteArray} (t : ByteArray) (hs : s.size ≤ 10000000) : Tot (fun r => r.1.size ≤ s.size ∧ r.2.1.size ≤ s.size) (cutT s t) := by
 unfold cutT
 rw [if_pos (by omega)]
 refine Tot.some ?_
 rcases Lib.indexB_cases s t with h | ⟨i, h, hi⟩
 ·obtain ⟨h1, h2, _⟩ := Lib.cutB_miss s t h
  simp only [h1, h2]
  exact ⟨Nat.le_refl _, Nat.zero_le _⟩
 ·obtain ⟨h1, h2, _⟩ := Lib.cutB_hit s t i h
  simp only [h1, h2, ByteArray.size_extract]
  omega
theorem sub_t {s : ByteArray} {a b : Int} (h0 : 0 ≤ a) (h1 : a ≤ b) (h2 : b ≤ s.size) : Tot (fun r => r.size ≤ s.size) (subS s a b) := by
 unfold subS
 rw [if_pos ⟨h0, h1, h2⟩]
 refine Tot.some ?_
 simp only [ByteArray.size_extract]; omega
theorem pre_t (n : Nat) (s : ByteArray) (hs : s.size ≤ 10000000) : Tot (fun r => r.1.size ≤ s.size) (He n s (ByteArray.mk #[46])) := by
 have hp : (ByteArray.mk #[46]).size = 1 := rfl
 have h1 : Tot (fun b => b = true → 1 ≤ s.size) (Fj n s (ByteArray.mk #[46])) := by
  unfold Fj
  rw [hp]
  refine Df (fun hc => ?_) fun _ => Ba (Tot.some fun h => by cases h)
  have hc := of_decide_eq_true hc
  refine Bl (Tot.bind (sub_t (by omega) (by omega) (by omega)) fun _ _ => Ba (Tot.some fun _ => by omega))
 unfold He Gt
 rw [hp]
 refine Bl (Tot.bind h1 fun b hb => Df (fun _ => Ba (Tot.some (Nat.le_refl _))) fun hc => ?_)
 have hb := hb (by simpa using hc)
 exact Bl (Tot.bind (sub_t (by omega) (by omega) (by omega)) fun _ h => Ba (Tot.some h))
theorem suf_t (n : Nat) (s : ByteArray) (hs : s.size ≤ 10000000) : Tot (fun r => r.1.size ≤ s.size) (Hg n s (ByteArray.mk #[93])) := by
 have hp : (ByteArray.mk #[93]).size = 1 := rfl
 have h1 : Tot (fun b => b = true → 1 ≤ s.size) (Fk n s (ByteArray.mk #[93])) := by
  unfold Fk
  rw [hp]
  refine Df (fun hc => ?_) fun _ => Ba (Tot.some fun h => by cases h)
  have hc := of_decide_eq_true hc
  rw [w64 (by omega) (by omega)]
  refine Bl (Tot.bind (sub_t (by omega) (by omega) (by omega)) fun _ _ => Ba (Tot.some fun _ => by omega))
 unfold Hg Gu
 rw [hp]
 refine Bl (Tot.bind h1 fun b hb => Df (fun _ => Ba (Tot.some (Nat.le_refl _))) fun hc => ?_)
 have hb := hb (by simpa using hc)
 rw [w64 (by omega) (by omega)]
 exact Bl (Tot.bind (sub_t (by omega) (by omega) (by omega)) fun _ h => Ba (Tot.some h))
theorem digits_t (n : Nat) (s : ByteArray) (hs : s.size ≤ 10000000) : Tot (OkP fun _ => True) (I7 n s) := by
 have ha : Tot (fun (r : Int × Bool) => -9223372036854775808 ≤ r.1 ∧ r.1 ≤ 9223372036854775807) (atoiT s) := by
  unfold atoiT
  rw [if_pos (by omega)]
  split
  ·rename_i v h; exact Tot.some (Lib.atoiAll_bounds h)
  ·exact Tot.some ⟨by decide, by decide⟩
  ·exact Tot.some (Lib.atoiSat_bounds _)
 unfold I7
 refine Tot.bind2 ha fun v b h => ?_
 have hi : itoaT v = some ⟨(Lib.itoa v).toArray⟩ := by unfold itoaT; rw [if_pos h]
 refine Df (fun _ => ?_) fun _ => ?_
 ·rw [hi]
  exact Ba (Ba (Aq (Ct n _ (by decide)) (fun _ he => Tot.some he) fun _ _ => Tot.some trivial))
 ·exact Ba (Aq (Ct n _ (by decide)) (fun _ he => Tot.some he) fun _ _ => Tot.some trivial)

def InvR (p : TRd) : Prop := p.f_Desc.f_Files.length ≤ 512 ∧ p.f_Desc.f_Aliases.length ≤ 512 ∧ p.f_Desc.f_Flags.length ≤ 512 ∧ p.f_Desc.f_Classes.length ≤ 512 ∧ p.f_Desc.f_Forms.length ≤ 512 ∧ p.f_Desc.f_Rels.length ≤ 512 ∧ p.f_Desc.f_Uses.length ≤ 512 ∧ p.f_Desc.f_Relaxes.length ≤ 512 ∧ p.f_Desc.f_Macros.length ≤ 512 ∧ p.f_Desc.f_Nums.length ≤ 512 ∧ p.f_Desc.f_Regs.length ≤ 512

section
variable {n : Nat} (hN : 7000000 ≤ n) {p : TRd} (hp : InvR p)
include hN hp
theorem class_t (a b : ByteArray) (c : List Da) (d : List B5) (e : List Ao) (l : List Ae) : Tot (OkP fun (r : Int × List Ae) => 0 ≤ r.1 ∧ r.1 < (p.f_Desc.f_Classes.length : Int) ∧ szL r.2 + 1 ≤ szL l) (gr_class n p a b c d e l) := by
 obtain ⟨h1, h2, h3, h4, h5, h6, h7, h8, h9, h10, h11⟩ := hp
 unfold gr_class
 repeat (first | (with_reducible refine Bl ?_) | ((with_reducible refine Ax (I3 _ _) ?_ ?_); (focus exact fun _ he => Tot.some he); intro a b h; simp only at h))
 refine Aq (gisadl_place_158_116_t _ _ _ (by omega) (by omega)) (fun _ he => Tot.some he) fun r hr => ?_
 repeat (with_reducible refine Ba ?_)
 exact Tot.some ⟨hr.1, hr.2, by first | omega | (simp only; omega)⟩
theorem class2_t (l : List Ae) : Tot (OkP fun (r : Int × List Ae) => 0 ≤ r.1 ∧ r.1 < (p.f_Desc.f_Classes.length : Int) ∧ szL r.2 + 1 ≤ szL l) (G0 n p l) := by
 obtain ⟨h1, h2, h3, h4, h5, h6, h7, h8, h9, h10, h11⟩ := hp
 unfold G0
 repeat (first | (with_reducible refine Bl ?_) | ((with_reducible refine Ax (I3 _ _) ?_ ?_); (focus exact fun _ he => Tot.some he); intro a b h; simp only at h))
 refine Aq (gisadl_place_158_116_t _ _ _ (by omega) (by omega)) (fun _ he => Tot.some he) fun r hr => ?_
 repeat (with_reducible refine Ba ?_)
 exact Tot.some ⟨hr.1, hr.2, by first | omega | (simp only; omega)⟩
theorem file_t (l : List Ae) : Tot (OkP fun (r : Int × List Ae) => szL r.2 + 1 ≤ szL l) (Jm n p l) := by
 obtain ⟨h1, h2, h3, h4, h5, h6, h7, h8, h9, h10, h11⟩ := hp
 unfold Jm
 repeat (first | (with_reducible refine Bl ?_) | ((with_reducible refine Ax (I3 _ _) ?_ ?_); (focus exact fun _ he => Tot.some he); intro a b h; simp only at h))
 refine Aq (I4 _ _ _ (by omega) (by omega)) (fun _ he => Tot.some he) fun r hr => ?_
 repeat (with_reducible refine Ba ?_)
 refine Tot.some ?_
 show szL _ + 1 ≤ szL l
 dsimp only
 omega
theorem rel_t (l : List Ae) : Tot (OkP fun (r : Int × List Ae) => szL r.2 + 1 ≤ szL l) (Jn n p l) := by
 obtain ⟨h1, h2, h3, h4, h5, h6, h7, h8, h9, h10, h11⟩ := hp
 unfold Jn
 repeat (first | (with_reducible refine Bl ?_) | ((with_reducible refine Ax (I3 _ _) ?_ ?_); (focus exact fun _ he => Tot.some he); intro a b h; simp only at h))
 refine Aq (gisadl_place_129_126_t _ _ _ (by omega) (by omega)) (fun _ he => Tot.some he) fun r hr => ?_
 repeat (with_reducible refine Ba ?_)
 refine Tot.some ?_
 show szL _ + 1 ≤ szL l
 dsimp only
 omega
theorem flag_t (a b : ByteArray) (c : List Da) (d : List B5) (e : List Ao) (l : List Ae) : Tot (OkP fun (r : Int × List Ae) => szL r.2 + 1 ≤ szL l) (gr_flag n p a b c d e l) := by
 obtain ⟨h1, h2, h3, h4, h5, h6, h7, h8, h9, h10, h11⟩ := hp
 unfold gr_flag
 repeat (first | (with_reducible refine Bl ?_) | ((with_reducible refine Ax (I3 _ _) ?_ ?_); (focus exact fun _ he => Tot.some he); intro a b h; simp only at h))
 refine Aq (gisadl_place_198_75_t _ _ _ (by omega) (by omega)) (fun _ he => Tot.some he) fun r hr => ?_
 repeat (with_reducible refine Ba ?_)
 refine Tot.some ?_
 show szL _ + 1 ≤ szL l
 dsimp only
 omega
theorem piece_t (a b : ByteArray) (c : List Da) (d : List B5) (e : List Ao) (w : ByteArray) (hw : w.size ≤ 10000000) (hc : c.length ≤ 100) (ha : ∀ x ∈ c, 0 ≤ x.f_Class ∧ x.f_Class < p.f_Desc.f_Classes.length) : Tot (OkP fun _ => True) (gr_piece n p a b c d e w) := by
 obtain ⟨h1, h2, h3, h4, h5, h6, h7, h8, h9, h10, h11⟩ := hp
 unfold gr_piece
 refine Tot.bind2 (pre_t n w hw) fun q b hq => ?_
 simp only at hq
 refine Tot.cond (fun _ => ?_) fun _ => ?_
 ·refine Df (fun _ => Bl (Tot.bind (trim_t (by omega)) fun _ _ => Ba ?_)) fun _ => Ba ?_
  ·exact Aq (Ct n _ (by decide)) (fun _ he => Tot.some he) fun _ _ => Tot.some trivial
  ·exact Aq (Ct n _ (by decide)) (fun _ he => Tot.some he) fun _ _ => Tot.some trivial
 ·refine Tot.bind3 (cut_t _ hw) fun x y z hxy => ?_
  simp only at hxy
  refine Aq (Gv _ _ _ (by omega) (by omega)) (fun _ he => Tot.some he) fun r hr => ?_
  refine Tot.cond (fun _ => ?_) fun _ => ?_
  ·refine Bl (Tot.bind (atL_t hr.1 hr.2) fun u hu => ?_)
   refine Bl (Tot.bind (atL_t (ha u hu).1 (ha u hu).2) fun v _ => ?_)
   exact Ba (Tot.some trivial)
  ·refine Tot.bind2 (suf_t n y (by omega)) fun q b hq => ?_
   simp only at hq
   refine Aq (Ct n _ (by decide)) (fun _ he => Tot.some he) fun _ _ => ?_
   refine Tot.bind3 (cut_t _ (by omega)) fun x' y' z' hxy' => ?_
   simp only at hxy'
   refine Df (fun _ => Ba ?_) fun _ => Ba ?_
   ·refine Aq (digits_t n _ (by omega)) (fun _ he => Tot.some he) fun _ _ => ?_
    exact Aq (digits_t n _ (by omega)) (fun _ he => Tot.some he) fun _ _ => Tot.some trivial
   ·refine Aq (digits_t n _ (by omega)) (fun _ he => Tot.some he) fun _ _ => ?_
    exact Aq (digits_t n _ (by omega)) (fun _ he => Tot.some he) fun _ _ => Tot.some trivial
theorem register_t (a b : ByteArray) (c : List Da) (d : List B5) (e : List Ao) (x y : Int) (l : List Ae) (hc : c.length ≤ 100) : Tot (OkP fun r => r.1.f_Kids = []) (gr_register n p a b c d e x y l) := by
 obtain ⟨h1, h2, h3, h4, h5, h6, h7, h8, h9, h10, h11⟩ := hp
 unfold gr_register
 ((with_reducible refine Tot.bind (more_t _ _) ?_); intro b hb; subst hb)
 refine Df (fun hm => ?_) fun _ => ?_
 ·have hm := of_decide_eq_true hm
  refine Bl (Tot.bind (atL_t (by omega) (by omega)) fun _ _ => ?_)
  repeat (first | (with_reducible refine Ba ?_) | (with_reducible refine Bl ?_) | ((with_reducible refine Df ?_ ?_) <;> intro hc <;> (try (first | replace hc := of_decide_eq_true hc | replace hc := of_decide_eq_false hc | exact absurd hc (by decide)))) | ((with_reducible refine Ax (num_t _ _) ?_ ?_); (focus exact fun _ he => Tot.some he); intro a b h; simp only at h) | ((with_reducible refine Aq (end_t _ _) ?_ ?_); (focus exact fun _ he => Tot.some he); intro _ _))
  ·exact Tot.some rfl
  ·repeat (first | (with_reducible refine Bl ?_) | ((with_reducible refine Ax (I3 _ _) ?_ ?_); (focus exact fun _ he => Tot.some he); intro a b h; simp only at h))
   refine Aq (Gv _ _ _ (by omega) (by omega)) (fun _ he => Tot.some he) fun r hr => ?_
   repeat (first | (with_reducible refine Ba ?_) | ((with_reducible refine Aq (end_t _ _) ?_ ?_); (focus exact fun _ he => Tot.some he); intro _ _))
   exact Tot.some rfl
 ·repeat (first | (with_reducible refine Ba ?_) | (with_reducible refine Bl ?_) | ((with_reducible refine Df ?_ ?_) <;> intro hc <;> (try (first | replace hc := of_decide_eq_true hc | replace hc := of_decide_eq_false hc | exact absurd hc (by decide)))) | ((with_reducible refine Ax (I3 _ _) ?_ ?_); (focus exact fun _ he => Tot.some he); intro a b h; simp only at h))
  refine Aq (Gv _ _ _ (by omega) (by omega)) (fun _ he => Tot.some he) fun r hr => ?_
  repeat (first | (with_reducible refine Ba ?_) | ((with_reducible refine Aq (end_t _ _) ?_ ?_); (focus exact fun _ he => Tot.some he); intro _ _))
  exact Tot.some rfl
theorem term_t (rec : TRd → ByteArray → ByteArray → List Da → List B5 → List Ao → Ao → List Ae → Int → Option (PR (Ao × List Ae) Int)) (a b : ByteArray) (c : List Da) (d : List B5) (e : List Ao) (t : Ae) (hc' : c.length ≤ 100)
  (hrec : ∀ (x : Ao) (l : List Ae) (k : Int), x.f_Kids = [] → szL l < szT t → k ≤ 3 → Tot (OkP fun _ => True) (rec p a b c d e x l k)) : Tot (OkP fun _ => True) (gr_term n rec p a b c d e t) := by
 obtain ⟨h1, h2, h3, h4, h5, h6, h7, h8, h9, h10, h11⟩ := id hp
 unfold gr_term
 repeat (first
  | (first | (with_reducible refine Ba ?_) | (with_reducible refine Bl ?_) | ((with_reducible refine Tot.cond ?_ ?_) <;> intro hc <;> (try (first | replace hc := of_decide_eq_true hc | replace hc := of_decide_eq_false hc | exact absurd hc (by decide)))) | ((with_reducible refine Aq (Ct _ _ ?_) ?_ ?_); (focus decide); (focus exact fun _ he => Tot.some he); intro _ hc; (try (first | replace hc := of_decide_eq_true hc | replace hc := of_decide_eq_false hc | exact absurd hc (by decide)))) | ((with_reducible refine Ax (next_t _ _ _) ?_ ?_); (focus exact fun _ he => Tot.some he); intro a b h; simp only at h) | ((with_reducible refine Ax (I3 _ _) ?_ ?_); (focus exact fun _ he => Tot.some he); intro a b h; simp only at h) | ((with_reducible refine Ax (num_t _ _) ?_ ?_); (focus exact fun _ he => Tot.some he); intro a b h; simp only at h) | ((with_reducible refine Aq (list_t _ _) ?_ ?_); (focus exact fun _ he => Tot.some he); intro c h) | ((with_reducible refine Tot.bind (fields_t ?_) ?_); (focus kernel_rfl); intro r h) | ((with_reducible refine Tot.bind (H9 _ _ _ ?_ ?_) ?_); (focus omega); (focus (first | exact Nat.le_of_ble_eq_true rfl | omega)); intro r h) | ((with_reducible refine Tot.bind (gslices_Contains_105_t _ _ _ ?_ ?_) ?_); (focus omega); (focus omega); intro r _))
  | exact Tot.some trivial
  | ((with_reducible refine Ax (hrec _ _ _ ?_ ?_ ?_) ?_ ?_); (focus rfl); (focus omega); (focus decide); (focus exact fun _ he => Tot.some he); intro _ _ _)
  | ((with_reducible refine Ax (flag_t hN hp _ _ _ _ _ _) ?_ ?_); (focus exact fun _ he => Tot.some he); intro a b h; simp only at h)
  | ((with_reducible refine Aq (Gv _ _ _ ?_ ?_) ?_ ?_); (focus omega); (focus omega); (focus exact fun _ he => Tot.some he); intro r hr)
  | ((with_reducible refine Aq (I4 _ _ _ ?_ ?_) ?_ ?_); (focus omega); (focus omega); (focus exact fun _ he => Tot.some he); intro r hr)
  | ((with_reducible refine Ax (register_t hN hp _ _ _ _ _ _ _ _ ?_) ?_ ?_); (focus omega); (focus exact fun _ he => Tot.some he); intro _ _ _))
omit hN hp in
theorem terms_loop (rec : TRd → ByteArray → ByteArray → List Da → List B5 → List Ao → Ao → List Ae → Int → Option (PR (Ao × List Ae) Int)) (a b : ByteArray) (c : List Da) (d : List B5) (e : List Ao) (p3 : Int) (s : Nat) (h3 : p3 ≤ 3)
  (ht : ∀ t : Ae, szT t ≤ s → Tot (OkP fun _ => True) (gr_term n rec p a b c d e t)) : ∀ (j y m : Nat) (l : List Ae) (acc : List Ao), p3 ≤ y + j → j < m → y + j ≤ 100 → acc.length + j ≤ 100 → szL l ≤ s →
  Tot (OkL (fun _ => True) (OkP Nev)) (Im n rec p a b c d e p3 m (y : Int) l acc) := by
 intro j
 induction j with
 | zero =>
  intro y m l acc hj hm _ _ _
  obtain ⟨m, rfl⟩ : ∃ m', m = m' + 1 := ⟨m - 1, by omega⟩
  rw [Im, decide_eq_false (by omega)]
  exact Tot.some trivial
 | succ j ih =>
  intro y m l acc hj hm hyj hac hl
  obtain ⟨m, rfl⟩ : ∃ m', m = m' + 1 := ⟨m - 1, by omega⟩
  rw [Im]
  refine Tot.cond (fun _ => ?_) fun _ => Tot.some trivial
  repeat (first | (with_reducible refine Bl ?_) | ((with_reducible refine Ax (next_t _ _ _) ?_ ?_); (focus exact fun _ he => Tot.some he); intro a b h; simp only at h))
  refine Aq (ht _ (by omega)) (fun _ he => Tot.some he) fun u _ => ?_
  repeat (first | (with_reducible refine Ba ?_) | (with_reducible refine Bl ?_) | ((with_reducible refine Tot.bind (appL_t ?_ ?_ ?_) ?_); (focus decide); (focus omega); (focus (first | exact Nat.le_of_ble_eq_true rfl | omega)); intro r hr; subst hr))
  rw [Cz (by omega)]
  exact ih (y + 1) m _ _ (by omega) (by omega) (by omega) (by rw [List.length_append, List.length_singleton]; omega) (by omega)
theorem terms_rec_t (a b : ByteArray) (c : List Da) (d : List B5) (e : List Ao) (hc : c.length ≤ 100) : ∀ (k : Nat) (x : Ao) (l : List Ae) (p3 : Int), x.f_Kids = [] → szL l < k → p3 ≤ 3 → Tot (OkP fun _ => True) (F4 n k p a b c d e x l p3) := by
 intro k
 induction k with
 | zero => intro x l p3 _ h; omega
 | succ k ih =>
  intro x l p3 hx hl h3
  rw [F4, hx]
  have hloop := terms_loop (F4 n k) a b c d e p3 (szL l) h3 (fun t ht => term_t hN hp _ a b c d e t hc fun x l' k' h1 h2 h4 => ih x l' k' h1 (by omega) h4) 3 0 n l [] (by omega) (by omega) (by omega) (by simp) (by omega)
  rw [show (((0 : Nat) : Nat) : Int) = 0 from rfl] at hloop
  refine Tot.bindL2 hloop (fun _ he => Tot.some he) fun _ _ _ => ?_
  repeat ((with_reducible refine Aq (end_t _ _) ?_ ?_); (focus exact fun _ he => Tot.some he); intro _ _)
  exact Tot.some trivial
theorem terms_t (a b : ByteArray) (c : List Da) (d : List B5) (e : List Ao) (hc : c.length ≤ 100) (x : Ao) (l : List Ae) (p3 : Int) (hx : x.f_Kids = []) (hl : szL l < n) (h3 : p3 ≤ 3) : Tot (OkP fun _ => True) (gr_terms n p a b c d e x l p3) :=
 terms_rec_t hN hp a b c d e hc n x l p3 hx hl h3
theorem term2_t (a b : ByteArray) (c : List Da) (d : List B5) (e : List Ao) (hc : c.length ≤ 100) (t : Ae) (ht : szT t ≤ n) : Tot (OkP fun _ => True) (gr_term n (gr_terms n) p a b c d e t) :=
 term_t hN hp _ a b c d e t hc fun x l k h1 h2 h3 => terms_t hN hp a b c d e hc x l k h1 (by omega) h3
omit hN hp in
theorem effect_loop (rec : TRd → ByteArray → ByteArray → List Da → List B5 → List Ao → Ae → Option (PR Ao Int)) (a b : ByteArray) (c : List Da) (d : List B5) (e : List Ao) (s : Nat)
  (ht : ∀ t : Ae, szT t ≤ s → Tot (OkP fun _ => True) (rec p a b c d e t)) : ∀ (m : Nat) (l : List Ae) (acc : List Ao), szL l < m → szL l ≤ s → acc.length + szL l ≤ 7000000 →
  Tot (OkL (fun _ => True) (OkP Nev)) (Iz n rec p a b c d e m l acc) := by
 intro m
 induction m with
 | zero => intro l acc h; omega
 | succ m ih =>
  intro l acc hm hl hac
  rw [Iz]
  ((with_reducible refine Tot.bind (more_t _ _) ?_); intro b hb; subst hb)
  refine Tot.cond (fun _ => ?_) fun _ => Tot.some trivial
  repeat (first | (with_reducible refine Bl ?_) | ((with_reducible refine Ax (next_t _ _ _) ?_ ?_); (focus exact fun _ he => Tot.some he); intro a b h; simp only at h))
  refine Aq (ht _ (by omega)) (fun _ he => Tot.some he) fun u _ => ?_
  repeat (first | (with_reducible refine Ba ?_) | (with_reducible refine Bl ?_) | ((with_reducible refine Tot.bind (appL_t ?_ ?_ ?_) ?_); (focus decide); (focus omega); (focus (first | exact Nat.le_of_ble_eq_true rfl | omega)); intro r hr; subst hr))
  exact ih _ _ (by omega) (by omega) (by rw [List.length_append, List.length_singleton]; omega)
theorem effect_rec_t (a b : ByteArray) (c : List Da) (d : List B5) (e : List Ao) (hc' : c.length ≤ 100) : ∀ (k : Nat) (t : Ae), szT t < k → szT t ≤ 6100000 → Tot (OkP fun _ => True) (Fe n k p a b c d e t) := by
 obtain ⟨h1, h2, h3, h4, h5, h6, h7, h8, h9, h10, h11⟩ := id hp
 intro k
 induction k with
 | zero => intro t h; omega
 | succ k ih =>
  intro t hk hz
  rw [Fe]
  have hl := fun (l : List Ae) (acc : List Ao) (h : szL l < szT t) (h2 : acc.length ≤ 1) => effect_loop (p := p) (n := n) (Fe n k) a b c d e (szL l) (fun t' ht => ih t' (by omega) (by omega)) n l acc (by omega) (by omega) (by omega)
  repeat (first
   | (first | (with_reducible refine Ba ?_) | (with_reducible refine Bl ?_) | ((with_reducible refine Df ?_ ?_) <;> intro hc <;> (try (first | replace hc := of_decide_eq_true hc | replace hc := of_decide_eq_false hc | exact absurd hc (by decide)))) | ((with_reducible refine Tot.cond ?_ ?_) <;> intro hc <;> (try (first | replace hc := of_decide_eq_true hc | replace hc := of_decide_eq_false hc | exact absurd hc (by decide)))) | ((with_reducible refine Aq (Ct _ _ ?_) ?_ ?_); (focus decide); (focus exact fun _ he => Tot.some he); intro _ hc; (try (first | replace hc := of_decide_eq_true hc | replace hc := of_decide_eq_false hc | exact absurd hc (by decide)))) | ((with_reducible refine Ax (next_t _ _ _) ?_ ?_); (focus exact fun _ he => Tot.some he); intro a b h; simp only at h) | ((with_reducible refine Ax (I3 _ _) ?_ ?_); (focus exact fun _ he => Tot.some he); intro a b h; simp only at h) | ((with_reducible refine Ax (num_t _ _) ?_ ?_); (focus exact fun _ he => Tot.some he); intro a b h; simp only at h) | ((with_reducible refine Aq (end_t _ _) ?_ ?_); (focus exact fun _ he => Tot.some he); intro _ _) | ((with_reducible refine Aq (list_t _ _) ?_ ?_); (focus exact fun _ he => Tot.some he); intro c h))
   | exact Tot.some trivial
   | ((with_reducible refine Ax (terms_t hN hp _ _ _ _ _ ?_ _ _ _ ?_ ?_ ?_) ?_ ?_); (focus omega); (focus (first | rfl | assumption)); (focus omega); (focus decide); (focus exact fun _ he => Tot.some he); intro _ _ _)
   | ((with_reducible refine Aq (term2_t hN hp _ _ _ _ _ ?_ _ ?_) ?_ ?_); (focus omega); (focus omega); (focus exact fun _ he => Tot.some he); intro _ _)
   | ((with_reducible refine Ax (flag_t hN hp _ _ _ _ _ _) ?_ ?_); (focus exact fun _ he => Tot.some he); intro a b h; simp only at h)
   | ((with_reducible refine Aq (I4 _ _ _ ?_ ?_) ?_ ?_); (focus omega); (focus omega); (focus exact fun _ he => Tot.some he); intro r hr)
   | ((with_reducible refine Ax (register_t hN hp _ _ _ _ _ _ _ _ ?_) ?_ ?_); (focus omega); (focus exact fun _ he => Tot.some he); intro _ _ hk)
   | ((with_reducible refine Tot.bindL (hl _ _ ?_ ?_) ?_ ?_); (focus omega); (focus (first | exact Nat.le_refl _ | omega)); (focus exact fun _ he => Tot.some he); intro _ _))
theorem effect_t (a b : ByteArray) (c : List Da) (d : List B5) (e : List Ao) (hc : c.length ≤ 100) (t : Ae) (ht : szT t ≤ 6100000) : Tot (OkP fun _ => True) (gr_effect n p a b c d e t) :=
 effect_rec_t hN hp a b c d e hc n t (by omega) ht
end
section
variable {n : Nat} (hN : 7000000 ≤ n)
include hN
omit hN in
theorem calc_loop (rec : Ae → Option (PR Ao Int)) (p3 : Int) (s : Nat) (h3 : p3 ≤ 3)
  (ht : ∀ t : Ae, szT t ≤ s → Tot (OkP fun _ => True) (rec t)) : ∀ (j y m : Nat) (l : List Ae) (acc : List Ao), p3 ≤ y + j → j < m → y + j ≤ 100 → acc.length + j ≤ 100 → szL l ≤ s →
  Tot (OkL (fun _ => True) (OkP Nev)) (Ge n rec p3 m (y : Int) l acc) := by
 intro j
 induction j with
 | zero =>
  intro y m l acc hj hm _ _ _
  obtain ⟨m, rfl⟩ : ∃ m', m = m' + 1 := ⟨m - 1, by omega⟩
  rw [Ge, decide_eq_false (by omega)]
  exact Tot.some trivial
 | succ j ih =>
  intro y m l acc hj hm hyj hac hl
  obtain ⟨m, rfl⟩ : ∃ m', m = m' + 1 := ⟨m - 1, by omega⟩
  rw [Ge]
  refine Tot.cond (fun _ => ?_) fun _ => Tot.some trivial
  repeat (first | (with_reducible refine Bl ?_) | ((with_reducible refine Ax (next_t _ _ _) ?_ ?_); (focus exact fun _ he => Tot.some he); intro a b h; simp only at h))
  refine Aq (ht _ (by omega)) (fun _ he => Tot.some he) fun u _ => ?_
  repeat (first | (with_reducible refine Ba ?_) | (with_reducible refine Bl ?_) | ((with_reducible refine Tot.bind (appL_t ?_ ?_ ?_) ?_); (focus decide); (focus omega); (focus (first | exact Nat.le_of_ble_eq_true rfl | omega)); intro r hr; subst hr))
  rw [Cz (by omega)]
  exact ih (y + 1) m _ _ (by omega) (by omega) (by omega) (by rw [List.length_append, List.length_singleton]; omega) (by omega)
theorem calc_rec_t : ∀ (k : Nat) (t : Ae), szT t < k → Tot (OkP fun _ => True) (En n k t) := by
 intro k
 induction k with
 | zero => intro t h; omega
 | succ k ih =>
  intro t hk
  rw [En]
  have hl := fun (l : List Ae) (q : Int) (h : szL l < szT t) (h2 : q ≤ 3) => calc_loop (n := n) (En n k) q (szL l) h2 (fun t' ht => ih t' (by omega)) 3 0 n l [] (by omega) (by omega) (by omega) (by simp) (by omega)
  rw [show (((0 : Nat) : Nat) : Int) = 0 from rfl] at hl
  repeat (first
   | (first | (with_reducible refine Ba ?_) | (with_reducible refine Bl ?_) | ((with_reducible refine Df ?_ ?_) <;> intro hc <;> (try (first | replace hc := of_decide_eq_true hc | replace hc := of_decide_eq_false hc | exact absurd hc (by decide)))) | ((with_reducible refine Tot.cond ?_ ?_) <;> intro hc <;> (try (first | replace hc := of_decide_eq_true hc | replace hc := of_decide_eq_false hc | exact absurd hc (by decide)))) | ((with_reducible refine Aq (Ct _ _ ?_) ?_ ?_); (focus decide); (focus exact fun _ he => Tot.some he); intro _ hc; (try (first | replace hc := of_decide_eq_true hc | replace hc := of_decide_eq_false hc | exact absurd hc (by decide)))) | ((with_reducible refine Ax (I3 _ _) ?_ ?_); (focus exact fun _ he => Tot.some he); intro a b h; simp only at h) | ((with_reducible refine Aq (end_t _ _) ?_ ?_); (focus exact fun _ he => Tot.some he); intro _ _) | ((with_reducible refine Aq (list_t _ _) ?_ ?_); (focus exact fun _ he => Tot.some he); intro c h) | ((with_reducible refine Tot.bind (H9 _ _ _ ?_ ?_) ?_); (focus omega); (focus (first | exact Nat.le_of_ble_eq_true rfl | omega)); intro r h))
   | exact Tot.some trivial
   | ((with_reducible refine Tot.bindL2 (hl _ _ ?_ ?_) ?_ ?_); (focus omega); (focus decide); (focus exact fun _ he => Tot.some he); intro _ _ _))
theorem calc_t (t : Ae) (ht : szT t ≤ 6100000) : Tot (OkP fun _ => True) (gisadl_calc n t) := calc_rec_t hN n t (by omega)
theorem check_t (x : Eq) (l : List Ae) (m : List (ByteArray × Bool)) : Tot (OkP fun r => True) (gisadl_check n x l m) := by
 unfold gisadl_check
 repeat (first
  | (first | (with_reducible refine Ba ?_) | (with_reducible refine Bl ?_) | ((with_reducible refine Df ?_ ?_) <;> intro hc <;> (try (first | replace hc := of_decide_eq_true hc | replace hc := of_decide_eq_false hc | exact absurd hc (by decide)))) | ((with_reducible refine Aq (Ct _ _ ?_) ?_ ?_); (focus decide); (focus exact fun _ he => Tot.some he); intro _ hc; (try (first | replace hc := of_decide_eq_true hc | replace hc := of_decide_eq_false hc | exact absurd hc (by decide)))) | ((with_reducible refine Ax (I3 _ _) ?_ ?_); (focus exact fun _ he => Tot.some he); intro a b h; simp only at h) | ((with_reducible refine Ax (num_t _ _) ?_ ?_); (focus exact fun _ he => Tot.some he); intro a b h; simp only at h) | ((with_reducible refine Aq (end_t _ _) ?_ ?_); (focus exact fun _ he => Tot.some he); intro _ _) | ((with_reducible refine Tot.bind (H9 _ _ _ ?_ ?_) ?_); (focus omega); (focus (first | exact Nat.le_of_ble_eq_true rfl | omega)); intro r h))
  | exact Tot.some trivial)
end
end Go.DM
namespace Go.DM
open Go
set_option maxRecDepth 100000

section
variable {n : Nat}
theorem except_loop : ∀ (m : Nat) (l : List Ae) (acc : List Int), szL l < m → Tot (OkL (fun _ => True) (OkP Nev)) (Es n m l acc) := by
 intro m
 induction m with
 | zero => intro l acc h; omega
 | succ m ih =>
  intro l acc hm
  rw [Es]
  ((with_reducible refine Tot.bind (more_t _ _) ?_); intro b hb; subst hb)
  refine Tot.cond (fun _ => ?_) fun _ => Tot.some trivial
  repeat (first | ((with_reducible refine Aq (Ct _ _ ?_) ?_ ?_); (focus decide); (focus exact fun _ he => Tot.some he); intro _ hc; (try (first | replace hc := of_decide_eq_true hc | replace hc := of_decide_eq_false hc | exact absurd hc (by decide)))) | ((with_reducible refine Ax (next_t _ _ _) ?_ ?_); (focus exact fun _ he => Tot.some he); intro a b h; simp only at h) | ((with_reducible refine Tot.bind (appL_t ?_ ?_ ?_) ?_); (focus decide); (focus omega); (focus (first | exact Nat.le_of_ble_eq_true rfl | omega)); intro r hr; subst hr))
  exact ih _ _ (by omega)
theorem lines_loop : ∀ (m : Nat) (l : List Ae) (acc : List ByteArray), szL l < m → Tot (OkL (fun _ => True) (OkP Nev)) (Et n m acc l) := by
 intro m
 induction m with
 | zero => intro l acc h; omega
 | succ m ih =>
  intro l acc hm
  rw [Et]
  ((with_reducible refine Tot.bind (more_t _ _) ?_); intro b hb; subst hb)
  refine Tot.cond (fun _ => ?_) fun _ => Tot.some trivial
  repeat (first | ((with_reducible refine Aq (Ct _ _ ?_) ?_ ?_); (focus decide); (focus exact fun _ he => Tot.some he); intro _ hc; (try (first | replace hc := of_decide_eq_true hc | replace hc := of_decide_eq_false hc | exact absurd hc (by decide)))) | ((with_reducible refine Ax (text_t _ _) ?_ ?_); (focus exact fun _ he => Tot.some he); intro a b h; simp only at h) | ((with_reducible refine Tot.bind (appL_t ?_ ?_ ?_) ?_); (focus decide); (focus omega); (focus (first | exact Nat.le_of_ble_eq_true rfl | omega)); intro r hr; subst hr))
  exact ih _ _ (by omega)
theorem checks_loop (hN : 7000000 ≤ n) : ∀ (m : Nat) (l : List Ae) (x : Eq) (q : List (ByteArray × Bool)), szL l < m → Tot (OkL (fun _ => True) (OkP Nev)) (Fm n m l x q) := by
 intro m
 induction m with
 | zero => intro l x q h; omega
 | succ m ih =>
  intro l x q hm
  rw [Fm]
  ((with_reducible refine Tot.bind (more_t _ _) ?_); intro b hb; subst hb)
  refine Tot.cond (fun _ => ?_) fun _ => Tot.some trivial
  repeat (first | ((with_reducible refine Ax (next_t _ _ _) ?_ ?_); (focus exact fun _ he => Tot.some he); intro a b h; simp only at h) | ((with_reducible refine Aq (list_t _ _) ?_ ?_); (focus exact fun _ he => Tot.some he); intro c h))
  refine Tot.bindP3 (check_t hN _ _ _) (fun _ he => Tot.some he) fun _ _ _ _ => ?_
  exact ih _ _ _ (by omega)
end
section
variable {n : Nat} (hN : 7000000 ≤ n) {p : TRd} (hp : InvR p)
include hN hp
theorem args_loop (a b : ByteArray) (d : List B5) (e : List Ao) : ∀ (m : Nat) (l : List Ae) (acc : List Da), szL l < m → acc.length ≤ 6 → (∀ x ∈ acc, 0 ≤ x.f_Class ∧ x.f_Class < (p.f_Desc.f_Classes.length : Int)) →
  Tot (OkL (fun r => r.length ≤ 6 ∧ ∀ x ∈ r, 0 ≤ x.f_Class ∧ x.f_Class < (p.f_Desc.f_Classes.length : Int)) (OkP Nev)) (E5 n p a b d e m acc l) := by
 intro m
 induction m with
 | zero => intro l acc h; omega
 | succ m ih =>
  intro l acc hm h6 hx
  rw [E5]
  ((with_reducible refine Tot.bind (more_t _ _) ?_); intro b hb; subst hb)
  refine Tot.cond (fun _ => ?_) fun _ => Tot.some ⟨h6, hx⟩
  repeat (first | (with_reducible refine Bl ?_) | ((with_reducible refine Ax (next_t _ _ _) ?_ ?_); (focus exact fun _ he => Tot.some he); intro a b h; simp only at h) | ((with_reducible refine Ax (I3 _ _) ?_ ?_); (focus exact fun _ he => Tot.some he); intro a b h; simp only at h) | ((with_reducible refine Aq (list_t _ _) ?_ ?_); (focus exact fun _ he => Tot.some he); intro c h))
  refine Aq (gisadl_fresh_120_121_t _ _ _ _ (by omega) (by omega)) (fun _ he => Tot.some he) fun _ hf => ?_
  repeat (first | (with_reducible refine Ba ?_) | (with_reducible refine Bl ?_))
  refine Ax (class_t hN hp _ _ _ _ _ _) (fun _ he => Tot.some he) fun i l' hi => ?_
  repeat (first | (with_reducible refine Ba ?_) | (with_reducible refine Bl ?_) | ((with_reducible refine Aq (end_t _ _) ?_ ?_); (focus exact fun _ he => Tot.some he); intro _ _) | ((with_reducible refine Tot.bind (appL_t ?_ ?_ ?_) ?_); (focus decide); (focus omega); (focus (first | exact Nat.le_of_ble_eq_true rfl | omega)); intro r hr; subst hr))
  refine ih _ _ (by omega) (by rw [List.length_append, List.length_singleton]; omega) fun x hm => ?_
  rcases List.mem_append.1 hm with hm | hm
  ·exact hx x hm
  ·rw [List.mem_singleton.1 hm]; exact ⟨hi.1, hi.2.1⟩
theorem pieces_loop (a b : ByteArray) (c : List Da) (e : List Ao) (hc' : c.length ≤ 6) (hx : ∀ x ∈ c, 0 ≤ x.f_Class ∧ x.f_Class < (p.f_Desc.f_Classes.length : Int)) : ∀ (m : Nat) (l : List Ae) (acc : List B5), szL l < m → szL l ≤ 6100000 →
  Tot (OkL (fun _ => True) (OkP Nev)) (E6 n p a b e c m acc l) := by
 intro m
 induction m with
 | zero => intro l acc h; omega
 | succ m ih =>
  intro l acc hm hl
  rw [E6]
  ((with_reducible refine Tot.bind (more_t _ _) ?_); intro b hb; subst hb)
  refine Tot.cond (fun _ => ?_) fun _ => Tot.some trivial
  repeat ((with_reducible refine Ax (I3 _ _) ?_ ?_); (focus exact fun _ he => Tot.some he); intro a b h; simp only at h)
  refine Aq (piece_t hN hp _ _ _ _ _ _ (by omega) (by omega) hx) (fun _ he => Tot.some he) fun _ _ => ?_
  repeat (first | ((with_reducible refine Aq (Ct _ _ ?_) ?_ ?_); (focus decide); (focus exact fun _ he => Tot.some he); intro _ hc; (try (first | replace hc := of_decide_eq_true hc | replace hc := of_decide_eq_false hc | exact absurd hc (by decide)))) | ((with_reducible refine Tot.bind (appL_t ?_ ?_ ?_) ?_); (focus decide); (focus omega); (focus (first | exact Nat.le_of_ble_eq_true rfl | omega)); intro r hr; subst hr))
  exact ih _ _ (by omega) (by omega)
theorem sem_loop (a b : ByteArray) (c : List Da) (d : List B5) (hc' : c.length ≤ 6) : ∀ (m : Nat) (l : List Ae) (acc : List Ao), szL l < m → szL l ≤ 6100000 →
  Tot (OkL (fun _ => True) (OkP Nev)) (E7 n p a b c d m acc l) := by
 intro m
 induction m with
 | zero => intro l acc h; omega
 | succ m ih =>
  intro l acc hm hl
  rw [E7]
  ((with_reducible refine Tot.bind (more_t _ _) ?_); intro b hb; subst hb)
  refine Tot.cond (fun _ => ?_) fun _ => Tot.some trivial
  repeat ((with_reducible refine Ax (next_t _ _ _) ?_ ?_); (focus exact fun _ he => Tot.some he); intro a b h; simp only at h)
  refine Aq (effect_t hN hp _ _ _ _ _ (by omega) _ (by omega)) (fun _ he => Tot.some he) fun _ _ => ?_
  repeat (first | (with_reducible refine Ba ?_) | (with_reducible refine Bl ?_) | ((with_reducible refine Aq (Ct _ _ ?_) ?_ ?_); (focus decide); (focus exact fun _ he => Tot.some he); intro _ hc; (try (first | replace hc := of_decide_eq_true hc | replace hc := of_decide_eq_false hc | exact absurd hc (by decide)))) | ((with_reducible refine Tot.bind (appL_t ?_ ?_ ?_) ?_); (focus decide); (focus omega); (focus (first | exact Nat.le_of_ble_eq_true rfl | omega)); intro r hr; subst hr))
  exact ih _ _ (by omega) (by omega)
theorem readFile_t (l : List Ae) : Tot (OkP fun (r : TRd × List Ae) => InvR r.1) (I5 n p l) := by
 obtain ⟨h1, h2, h3, h4, h5, h6, h7, h8, h9, h10, h11⟩ := id hp
 unfold I5
 repeat (first
  | (first | (with_reducible refine Ba ?_) | (with_reducible refine Bl ?_) | ((with_reducible refine Df ?_ ?_) <;> intro hc <;> (try (first | replace hc := of_decide_eq_true hc | replace hc := of_decide_eq_false hc | exact absurd hc (by decide)))) | ((with_reducible refine Aq (Ct _ _ ?_) ?_ ?_); (focus decide); (focus exact fun _ he => Tot.some he); intro _ hc; (try (first | replace hc := of_decide_eq_true hc | replace hc := of_decide_eq_false hc | exact absurd hc (by decide)))) | ((with_reducible refine Ax (I3 _ _) ?_ ?_); (focus exact fun _ he => Tot.some he); intro a b h; simp only at h) | ((with_reducible refine Ax (num_t _ _) ?_ ?_); (focus exact fun _ he => Tot.some he); intro a b h; simp only at h) | ((with_reducible refine Tot.bind2 (is_t _ _ _) ?_); intro a b h; simp only at h) | ((with_reducible refine Tot.bind (fields_t ?_) ?_); (focus kernel_rfl); intro r h) | ((with_reducible refine Tot.bind (appL_t ?_ ?_ ?_) ?_); (focus decide); (focus omega); (focus (first | exact Nat.le_of_ble_eq_true rfl | omega)); intro r hr; subst hr) | ((with_reducible refine Tot.bind (gslices_Contains_105_t _ _ _ ?_ ?_) ?_); (focus omega); (focus omega); intro r _))
  | (refine Tot.some ⟨?_, ?_, ?_, ?_, ?_, ?_, ?_, ?_, ?_, ?_, ?_⟩ <;> first | assumption | (simp only [List.length_append, List.length_singleton]; omega))
  | ((with_reducible refine Aq (gisadl_fresh_107_108_t _ _ _ _ ?_ ?_) ?_ ?_); (focus omega); (focus omega); (focus exact fun _ he => Tot.some he); intro _ hf))
theorem readClass_t (l : List Ae) (hl : szL l ≤ 6100000) : Tot (OkP fun (r : TRd × List Ae) => InvR r.1) (Ig n p l) := by
 obtain ⟨h1, h2, h3, h4, h5, h6, h7, h8, h9, h10, h11⟩ := id hp
 unfold Ig
 repeat (first
  | (first | (with_reducible refine Ba ?_) | (with_reducible refine Bl ?_) | ((with_reducible refine Df ?_ ?_) <;> intro hc <;> (try (first | replace hc := of_decide_eq_true hc | replace hc := of_decide_eq_false hc | exact absurd hc (by decide)))) | ((with_reducible refine Aq (Ct _ _ ?_) ?_ ?_); (focus decide); (focus exact fun _ he => Tot.some he); intro _ hc; (try (first | replace hc := of_decide_eq_true hc | replace hc := of_decide_eq_false hc | exact absurd hc (by decide)))) | ((with_reducible refine Ax (I3 _ _) ?_ ?_); (focus exact fun _ he => Tot.some he); intro a b h; simp only at h) | ((with_reducible refine Ax (num_t _ _) ?_ ?_); (focus exact fun _ he => Tot.some he); intro a b h; simp only at h) | ((with_reducible refine Tot.bind2 (is_t _ _ _) ?_); intro a b h; simp only at h) | ((with_reducible refine Tot.bind (appL_t ?_ ?_ ?_) ?_); (focus decide); (focus omega); (focus (first | exact Nat.le_of_ble_eq_true rfl | omega)); intro r hr; subst hr))
  | (refine Tot.some ⟨?_, ?_, ?_, ?_, ?_, ?_, ?_, ?_, ?_, ?_, ?_⟩ <;> first | assumption | (simp only [List.length_append, List.length_singleton]; omega))
  | ((with_reducible refine Aq (gisadl_fresh_115_116_t _ _ _ _ ?_ ?_) ?_ ?_); (focus omega); (focus omega); (focus exact fun _ he => Tot.some he); intro _ hf)
  | ((with_reducible refine Ax (file_t hN hp _) ?_ ?_); (focus exact fun _ he => Tot.some he); intro a b h; simp only at h)
  | ((with_reducible refine Tot.bindL2 (except_loop _ _ _ ?_) ?_ ?_); (focus omega); (focus exact fun _ he => Tot.some he); intro _ _ _))
theorem readForm_t (l : List Ae) (hl : szL l ≤ 6100000) : Tot (OkP fun (r : TRd × List Ae) => InvR r.1) (I6 n p l) := by
 obtain ⟨h1, h2, h3, h4, h5, h6, h7, h8, h9, h10, h11⟩ := id hp
 unfold I6
 repeat (first | (with_reducible refine Bl ?_) | ((with_reducible refine Ax (I3 _ _) ?_ ?_); (focus exact fun _ he => Tot.some he); intro a b h; simp only at h))
 refine Aq (gisadl_fresh_118_83_t _ _ _ _ (by omega) (by omega)) (fun _ he => Tot.some he) fun _ hf => ?_
 repeat (first | (with_reducible refine Ba ?_) | (with_reducible refine Bl ?_) | ((with_reducible refine Ax (next_t _ _ _) ?_ ?_); (focus exact fun _ he => Tot.some he); intro a b h; simp only at h) | ((with_reducible refine Ax (text_t _ _) ?_ ?_); (focus exact fun _ he => Tot.some he); intro a b h; simp only at h) | ((with_reducible refine Aq (list_t _ _) ?_ ?_); (focus exact fun _ he => Tot.some he); intro c h))
 refine Tot.bindL (args_loop hN hp _ _ _ _ _ _ _ (by omega) (Nat.zero_le _) (fun x hx => by cases hx)) (fun _ he => Tot.some he) fun c hc => ?_
 repeat (first | ((with_reducible refine Ax (next_t _ _ _) ?_ ?_); (focus exact fun _ he => Tot.some he); intro a b h; simp only at h) | ((with_reducible refine Aq (list_t _ _) ?_ ?_); (focus exact fun _ he => Tot.some he); intro c h))
 refine Tot.bindL (pieces_loop hN hp _ _ _ _ hc.1 hc.2 _ _ _ (by omega) (by omega)) (fun _ he => Tot.some he) fun d _ => ?_
 repeat (first | ((with_reducible refine Ax (next_t _ _ _) ?_ ?_); (focus exact fun _ he => Tot.some he); intro a b h; simp only at h) | ((with_reducible refine Aq (list_t _ _) ?_ ?_); (focus exact fun _ he => Tot.some he); intro c h))
 refine Tot.bindL (sem_loop hN hp _ _ _ _ hc.1 _ _ _ (by omega) (by omega)) (fun _ he => Tot.some he) fun e _ => ?_
 repeat (first | (with_reducible refine Ba ?_) | (with_reducible refine Bl ?_) | ((with_reducible refine Tot.bind (appL_t ?_ ?_ ?_) ?_); (focus decide); (focus omega); (focus (first | exact Nat.le_of_ble_eq_true rfl | omega)); intro r hr; subst hr))
 (refine Tot.some ⟨?_, ?_, ?_, ?_, ?_, ?_, ?_, ?_, ?_, ?_, ?_⟩ <;> first | assumption | (simp only [List.length_append, List.length_singleton]; omega))
theorem readMacro_t (l : List Ae) (hl : szL l ≤ 6100000) : Tot (OkP fun (r : TRd × List Ae) => InvR r.1) (Ih n p l) := by
 obtain ⟨h1, h2, h3, h4, h5, h6, h7, h8, h9, h10, h11⟩ := id hp
 unfold Ih
 repeat (first
  | (first | (with_reducible refine Ba ?_) | (with_reducible refine Bl ?_) | ((with_reducible refine Df ?_ ?_) <;> intro hc <;> (try (first | replace hc := of_decide_eq_true hc | replace hc := of_decide_eq_false hc | exact absurd hc (by decide)))) | ((with_reducible refine Aq (Ct _ _ ?_) ?_ ?_); (focus decide); (focus exact fun _ he => Tot.some he); intro _ hc; (try (first | replace hc := of_decide_eq_true hc | replace hc := of_decide_eq_false hc | exact absurd hc (by decide)))) | ((with_reducible refine Ax (next_t _ _ _) ?_ ?_); (focus exact fun _ he => Tot.some he); intro a b h; simp only at h) | ((with_reducible refine Ax (text_t _ _) ?_ ?_); (focus exact fun _ he => Tot.some he); intro a b h; simp only at h) | ((with_reducible refine Tot.bind2 (is_t _ _ _) ?_); intro a b h; simp only at h) | ((with_reducible refine Aq (list_t _ _) ?_ ?_); (focus exact fun _ he => Tot.some he); intro c h) | ((with_reducible refine Tot.bind (appL_t ?_ ?_ ?_) ?_); (focus decide); (focus omega); (focus (first | exact Nat.le_of_ble_eq_true rfl | omega)); intro r hr; subst hr))
  | (refine Tot.some ⟨?_, ?_, ?_, ?_, ?_, ?_, ?_, ?_, ?_, ?_, ?_⟩ <;> first | assumption | (simp only [List.length_append, List.length_singleton]; omega))
  | ((with_reducible refine Ax (rel_t hN hp _) ?_ ?_); (focus exact fun _ he => Tot.some he); intro a b h; simp only at h)
  | ((with_reducible refine Tot.bindL (lines_loop _ _ _ ?_) ?_ ?_); (focus omega); (focus exact fun _ he => Tot.some he); intro _ _))
theorem readUse_t (l : List Ae) : Tot (OkP fun (r : TRd × List Ae) => InvR r.1) (Jp n p l) := by
 obtain ⟨h1, h2, h3, h4, h5, h6, h7, h8, h9, h10, h11⟩ := id hp
 unfold Jp
 repeat (first
  | (first | (with_reducible refine Ba ?_) | (with_reducible refine Bl ?_) | ((with_reducible refine Df ?_ ?_) <;> intro hc <;> (try (first | replace hc := of_decide_eq_true hc | replace hc := of_decide_eq_false hc | exact absurd hc (by decide)))) | ((with_reducible refine Aq (Ct _ _ ?_) ?_ ?_); (focus decide); (focus exact fun _ he => Tot.some he); intro _ hc; (try (first | replace hc := of_decide_eq_true hc | replace hc := of_decide_eq_false hc | exact absurd hc (by decide)))) | ((with_reducible refine Ax (I3 _ _) ?_ ?_); (focus exact fun _ he => Tot.some he); intro a b h; simp only at h) | ((with_reducible refine Tot.bind2 (is_t _ _ _) ?_); intro a b h; simp only at h) | ((with_reducible refine Tot.bind (appL_t ?_ ?_ ?_) ?_); (focus decide); (focus omega); (focus (first | exact Nat.le_of_ble_eq_true rfl | omega)); intro r hr; subst hr))
  | (refine Tot.some ⟨?_, ?_, ?_, ?_, ?_, ?_, ?_, ?_, ?_, ?_, ?_⟩ <;> first | assumption | (simp only [List.length_append, List.length_singleton]; omega))
  | ((with_reducible refine Ax (rel_t hN hp _) ?_ ?_); (focus exact fun _ he => Tot.some he); intro a b h; simp only at h)
  | ((with_reducible refine Ax (class2_t hN hp _) ?_ ?_); (focus exact fun _ he => Tot.some he); intro a b h; simp only at h))
theorem readRel_t (l : List Ae) (hl : szL l ≤ 6100000) : Tot (OkP fun (r : TRd × List Ae) => InvR r.1) (Jo n p l) := by
 obtain ⟨h1, h2, h3, h4, h5, h6, h7, h8, h9, h10, h11⟩ := id hp
 unfold Jo
 repeat (first
  | (first | (with_reducible refine Ba ?_) | (with_reducible refine Bl ?_) | ((with_reducible refine Df ?_ ?_) <;> intro hc <;> (try (first | replace hc := of_decide_eq_true hc | replace hc := of_decide_eq_false hc | exact absurd hc (by decide)))) | ((with_reducible refine Aq (Ct _ _ ?_) ?_ ?_); (focus decide); (focus exact fun _ he => Tot.some he); intro _ hc; (try (first | replace hc := of_decide_eq_true hc | replace hc := of_decide_eq_false hc | exact absurd hc (by decide)))) | ((with_reducible refine Ax (next_t _ _ _) ?_ ?_); (focus exact fun _ he => Tot.some he); intro a b h; simp only at h) | ((with_reducible refine Ax (I3 _ _) ?_ ?_); (focus exact fun _ he => Tot.some he); intro a b h; simp only at h) | ((with_reducible refine Ax (num_t _ _) ?_ ?_); (focus exact fun _ he => Tot.some he); intro a b h; simp only at h) | ((with_reducible refine Tot.bind (appL_t ?_ ?_ ?_) ?_); (focus decide); (focus omega); (focus (first | exact Nat.le_of_ble_eq_true rfl | omega)); intro r hr; subst hr))
  | (refine Tot.some ⟨?_, ?_, ?_, ?_, ?_, ?_, ?_, ?_, ?_, ?_, ?_⟩ <;> first | assumption | (simp only [List.length_append, List.length_singleton]; omega))
  | ((with_reducible refine Aq (gisadl_fresh_125_126_t _ _ _ _ ?_ ?_) ?_ ?_); (focus omega); (focus omega); (focus exact fun _ he => Tot.some he); intro _ hf)
  | ((with_reducible refine Ax (class2_t hN hp _) ?_ ?_); (focus exact fun _ he => Tot.some he); intro a b h; simp only at h)
  | ((with_reducible refine Aq (calc_t hN _ ?_) ?_ ?_); (focus omega); (focus exact fun _ he => Tot.some he); intro _ _)
  | ((with_reducible refine Tot.bindL2 (checks_loop hN _ _ _ _ ?_) ?_ ?_); (focus omega); (focus exact fun _ he => Tot.some he); intro _ _ _))
theorem item_t (t : Ae) (b : Bool) (ht : szT t ≤ 6100000) : Tot (OkP InvR) (gr_item_f28 n p t b) := by
 obtain ⟨h1, h2, h3, h4, h5, h6, h7, h8, h9, h10, h11⟩ := id hp
 unfold gr_item_f28
 repeat (first
  | (first | (with_reducible refine Ba ?_) | (with_reducible refine Bl ?_) | ((with_reducible refine Df ?_ ?_) <;> intro hc <;> (try (first | replace hc := of_decide_eq_true hc | replace hc := of_decide_eq_false hc | exact absurd hc (by decide)))) | ((with_reducible refine Aq (Ct _ _ ?_) ?_ ?_); (focus decide); (focus exact fun _ he => Tot.some he); intro _ hc; (try (first | replace hc := of_decide_eq_true hc | replace hc := of_decide_eq_false hc | exact absurd hc (by decide)))) | ((with_reducible refine Ax (next_t _ _ _) ?_ ?_); (focus exact fun _ he => Tot.some he); intro a b h; simp only at h) | ((with_reducible refine Ax (I3 _ _) ?_ ?_); (focus exact fun _ he => Tot.some he); intro a b h; simp only at h) | ((with_reducible refine Ax (num_t _ _) ?_ ?_); (focus exact fun _ he => Tot.some he); intro a b h; simp only at h) | ((with_reducible refine Aq (end_t _ _) ?_ ?_); (focus exact fun _ he => Tot.some he); intro _ _) | ((with_reducible refine Aq (list_t _ _) ?_ ?_); (focus exact fun _ he => Tot.some he); intro c h) | ((with_reducible refine Tot.bind (appL_t ?_ ?_ ?_) ?_); (focus decide); (focus omega); (focus (first | exact Nat.le_of_ble_eq_true rfl | omega)); intro r hr; subst hr))
  | (refine Tot.some ⟨?_, ?_, ?_, ?_, ?_, ?_, ?_, ?_, ?_, ?_, ?_⟩ <;> first | assumption | (simp only [List.length_append, List.length_singleton]; omega))
  | (refine Tot.some ?_; assumption)
  | ((with_reducible refine Ax (readFile_t hN hp _) ?_ ?_); (focus exact fun _ he => Tot.some he); intro _ _ hi; simp only at hi)
  | ((with_reducible refine Ax (readClass_t hN hp _ ?_) ?_ ?_); (focus omega); (focus exact fun _ he => Tot.some he); intro _ _ hi; simp only at hi)
  | ((with_reducible refine Ax (readForm_t hN hp _ ?_) ?_ ?_); (focus omega); (focus exact fun _ he => Tot.some he); intro _ _ hi; simp only at hi)
  | ((with_reducible refine Ax (readMacro_t hN hp _ ?_) ?_ ?_); (focus omega); (focus exact fun _ he => Tot.some he); intro _ _ hi; simp only at hi)
  | ((with_reducible refine Ax (readRel_t hN hp _ ?_) ?_ ?_); (focus omega); (focus exact fun _ he => Tot.some he); intro _ _ hi; simp only at hi)
  | ((with_reducible refine Ax (readUse_t hN hp _) ?_ ?_); (focus exact fun _ he => Tot.some he); intro _ _ hi; simp only at hi)
  | ((with_reducible refine Ax (rel_t hN hp _) ?_ ?_); (focus exact fun _ he => Tot.some he); intro a b h; simp only at h)
  | ((with_reducible refine Ax (file_t hN hp _) ?_ ?_); (focus exact fun _ he => Tot.some he); intro a b h; simp only at h)
  | ((with_reducible refine Aq (gisadl_fresh_70_71_t _ _ _ _ ?_ ?_) ?_ ?_); (focus omega); (focus omega); (focus exact fun _ he => Tot.some he); intro _ hf)
  | ((with_reducible refine Aq (gisadl_fresh_74_75_t _ _ _ _ ?_ ?_) ?_ ?_); (focus omega); (focus omega); (focus exact fun _ he => Tot.some he); intro _ hf)
  | ((with_reducible refine Aq (gisadl_fresh_84_85_t _ _ _ _ ?_ ?_) ?_ ?_); (focus omega); (focus omega); (focus exact fun _ he => Tot.some he); intro _ hf)
  | ((with_reducible refine Aq (gisadl_place_82_83_t _ _ _ ?_ ?_) ?_ ?_); (focus omega); (focus omega); (focus exact fun _ he => Tot.some he); intro r hr))
theorem tried_t (t : Ae) (b : Bool) (ht : szT t ≤ 6100000) : (∃ q, H3 n p t b = some (.val (0, q)) ∧ InvR q) ∨ ∃ e, e ≠ 0 ∧ H3 n p t b = some (.lost e) := by
 unfold H3
 obtain ⟨r, h, hr⟩ := item_t hN hp t b ht
 rw [h]
 cases r with
 | val q => exact .inl ⟨q, rfl, hr⟩
 | pan e => exact .inr ⟨e, hr, rfl⟩
end
end Go.DM
namespace Go.DM
open Go
set_option maxRecDepth 100000

def runI (n : Nat) : List Ae → Nat → TRd → Sum TRd (Nat × Int)
 | [], _, q => .inl q
 | t :: r, y, q => match H3 n q t (((y : Nat) : Int) == 0) with
  | some (.val v) => runI n r (y + 1) v.2
  | some (.lost e) => .inr (y, e)
  | none => .inr (y, 0)
theorem runI_append (n : Nat) : ∀ (a b : List Ae) (y : Nat) (q : TRd), runI n (a ++ b) y q = match runI n a y q with
  | .inl q' => runI n b (y + a.length) q'
  | .inr v => .inr v
 | [], b, y, q => rfl
 | t :: r, b, y, q => by
  rw [List.cons_append, runI, runI]
  cases h : H3 n q t (((y : Nat) : Int) == 0) with
  | none => rfl
  | some v =>
   cases v with
   | val v =>
    simp only
    rw [runI_append n r b (y + 1) v.2, List.length_cons, show y + 1 + r.length = y + (r.length + 1) by omega]
   | lost e => rfl
theorem runI_at {n : Nat} (hN : 7000000 ≤ n) : ∀ (l : List Ae) (y : Nat) (q : TRd), InvR q → szL l ≤ 6100000 → ∀ i e, runI n l y q = .inr (i, e) → y ≤ i ∧ e ≠ 0
 | [], y, q, _, _, i, e, h => by rw [runI] at h; cases h
 | t :: r, y, q, hq, hs, i, e, h => by
  rw [szL] at hs
  rw [runI] at h
  rcases tried_t hN hq t (((y : Nat) : Int) == 0) (by omega) with ⟨q', h1, h2⟩ | ⟨e', h1, h2⟩
  ·rw [h1] at h
   have := runI_at hN r (y + 1) q' h2 (by omega) i e h
   exact ⟨by omega, this.2⟩
  ·rw [h2] at h
   injection h with h
   injection h with h3 h4
   exact ⟨by omega, by rw [← h4]; exact h1⟩
theorem runI_inv {n : Nat} (hN : 7000000 ≤ n) : ∀ (l : List Ae) (y : Nat) (q : TRd), InvR q → szL l ≤ 6100000 → ∀ q', runI n l y q = .inl q' → InvR q'
 | [], y, q, hq, _, q', h => by rw [runI] at h; cases h; exact hq
 | t :: r, y, q, hq, hs, q', h => by
  rw [szL] at hs
  rw [runI] at h
  rcases tried_t hN hq t (((y : Nat) : Int) == 0) (by omega) with ⟨q2, h1, h2⟩ | ⟨e', h1, h2⟩
  ·rw [h1] at h
   exact runI_inv hN r (y + 1) q2 h2 (by omega) q' h
  ·rw [h2] at h
   cases h
def nilDesc : H2 := H2.mk (ByteArray.mk #[]) 0 ([] : List Fz) ([] : List Dt) ([] : List ByteArray) ([] : List Ee) ([] : List F0) ([] : List Eq) ([] : List TUse) ([] : List Id) ([] : List TMacro) ([] : List Fx) ([] : List Dt)
theorem inv_nil : InvR (TRd.mk nilDesc) := by refine ⟨?_, ?_, ?_, ?_, ?_, ?_, ?_, ?_, ?_, ?_, ?_⟩ <;> exact Nat.zero_le _
def outI : Sum TRd (Nat × Int) → LR TRd (H2 × Int × Int)
 | .inl q => .out q
 | .inr v => .ret (nilDesc, (v.1 : Int), v.2)
theorem loopI {n : Nat} (hN : 7000000 ≤ n) (l : List Ae) (hl : szL l ≤ 6100000) : ∀ (j y m : Nat) (q : TRd), l.length - y ≤ j → j < m → y ≤ l.length → InvR q → Fq n l m (y : Int) q = some (outI (runI n (l.drop y) y q)) := by
 have hlen := len_szL l
 intro j
 induction j with
 | zero =>
  intro y m q hj hm hy hq
  obtain ⟨m, rfl⟩ : ∃ m', m = m' + 1 := ⟨m - 1, by omega⟩
  rw [Fq, decide_eq_false (by omega), List.drop_eq_nil_of_le (by omega)]
  rfl
 | succ j ih =>
  intro y m q hj hm hy hq
  obtain ⟨m, rfl⟩ : ∃ m', m = m' + 1 := ⟨m - 1, by omega⟩
  rw [Fq]
  by_cases hlt : y < l.length
  ·rw [decide_eq_true (by omega), atL_nat, List.getElem?_eq_getElem hlt, List.drop_eq_getElem_cons hlt, runI]
   simp only [Option.bind_some, cond_true]
   have hm1 := szL_mem (List.getElem_mem hlt)
   rcases tried_t hN hq l[y] (((y : Nat) : Int) == 0) (by omega) with ⟨q', h1, h2⟩ | ⟨e', h1, h2⟩
   ·rw [h1]
    simp only [Option.bind_some, bne_self_eq_false, cond_false]
    rw [Cz (by omega)]
    exact ih (y + 1) m q' (by omega) (by omega) (by omega) h2
   ·rw [h2]
    have : (e' != 0) = true := by simpa using h1
    simp only [Option.bind_some]
    rw [this]
    rfl
  ·rw [decide_eq_false (by omega), List.drop_eq_nil_of_le (by omega)]
   rfl
def ansI (n : Nat) (l : List Ae) : H2 × Int × Int :=
 if l = [] then (nilDesc, 0, 41) else match runI n l 0 (TRd.mk nilDesc) with
  | .inl q => (q.f_Desc, 0, 0)
  | .inr v => (nilDesc, (v.1 : Int), v.2)
theorem parseI {n : Nat} (hN : 7000000 ≤ n) {s : ByteArray} {l : List Ae} {a : Int} (h : Gz n s = some (l, a, 0)) (hl : szL l ≤ 6100000) : I2 n s = some (ansI n l) := by
 have hlen := len_szL l
 unfold I2 ansI
 rw [h]
 simp only [Option.bind_some, bne_self_eq_false, cond_false]
 cases l with
 | nil => rfl
 | cons t r =>
  have h1 : (((((t :: r).length : Nat) : Int)) == 0) = false := by rw [beq_eq_false_iff_ne, List.length_cons]; omega
  rw [h1, if_neg (List.cons_ne_nil _ _)]
  have h2 := loopI hN (t :: r) hl (t :: r).length 0 n (TRd.mk nilDesc) (by omega) (by omega) (by omega) inv_nil
  rw [show (((0 : Nat) : Nat) : Int) = 0 from rfl, List.drop_zero] at h2
  simp only [cond_false]
  refine (congrArg (fun v => Option.bind v _) h2).trans ?_
  cases runI n (t :: r) 0 (TRd.mk nilDesc) <;> rfl
theorem alive4_eq (k : Nat) : Er (k + 300) = some true := by kernel_rfl
theorem alive4 : Er 8000000 = some true := alive4_eq 7999700
theorem isadl_first (s t : ByteArray) (hs : s.size ≤ 4611686018427387903) (ht : t.size ≤ 4611686018427387903) : Ft 8000000 s t = some true := by
 unfold Ft
 rw [alive4]
 obtain ⟨x, a, e, h1, h2⟩ := Parse_eq 8000000 s (by omega)
 obtain ⟨y, b, f, h3, h4⟩ := Parse_eq 8000000 t (by omega)
 simp only [Option.bind_some, Bool.not_true, cond_false]
 rw [h1, h3]
 simp only [Option.bind_some]
 have z1 : (ByteArray.mk #[10]).size = 1 := rfl
 have hcat : ∀ {u v : ByteArray}, u.size + v.size ≤ 9223372036854775807 → catS u v = some (u ++ v) := by
  intro u v h
  unfold catS
  rw [if_neg]
  have : IntKind.i64.max = 9223372036854775807 := rfl
  rw [this]; omega
 rw [hcat (by omega), Option.bind_some, hcat (by rw [ByteArray.size_append]; omega), Option.bind_some]
 by_cases hc : ((((e != 0) || (f != 0)) || (decide (((s.size : Nat) : Int) ≥ 262143))) || (decide (((t.size : Nat) : Int) ≥ (IntKind.wrap .i64 (262143 - ((s.size : Nat) : Int)))))) = true
 ·rw [hc]; rfl
 ·rw [Bool.eq_false_iff.2 hc]
  simp only [Bool.or_eq_true, bne_iff_ne, ne_eq, decide_eq_true_eq, not_or, Classical.not_not] at hc
  obtain ⟨⟨⟨rfl, rfl⟩, hs1⟩, ht1⟩ := hc
  rw [w64 (by omega) (by omega)] at ht1
  rcases h2 with ⟨_, _, hs', hx⟩ | ⟨he, _⟩
  ·rcases h4 with ⟨_, _, ht', hy⟩ | ⟨he, _⟩
   ·have f4 := (parse_small4 hs' hx).2.2.2.1
    have g4 := (parse_small4 ht' hy).2.2.2.1
    have l1 := len_szL x
    have l2 := len_szL y
    obtain ⟨z, a2, e2, k1, k2⟩ := parse_both 8000000 (by omega) (by omega) hx hy
    simp only [cond_false]
    rw [k1]
    simp only [Option.bind_some]
    rcases k2 with ⟨rfl, rfl, k3⟩ | rfl
    ·have hlen : (((((x ++ y).length : Nat) : Int)) != (IntKind.wrap .i64 (((x.length : Nat) : Int) + ((y.length : Nat) : Int)))) = false := by
      rw [w64 (by omega) (by omega), List.length_append]
      simp
     rw [hlen, parseI (by omega) h1 f4, parseI (by omega) k1 k3]
     simp only [bne_self_eq_false, Bool.or_self, cond_false, Option.bind_some]
     unfold ansI
     cases x with
     | nil =>
      rw [if_pos rfl]
      have hd : ((41 : Int) != 0 && decide ((0 : Int) > 0)) = false := rfl
      have e0 : ((([] : List Ae).length : Nat) : Int) = 0 := rfl
      simp only [List.nil_append, e0]
      rw [hd]
      simp only [cond_false]
      congr 1
      rw [Bool.or_eq_true]
      right
      apply decide_eq_true
      split
      ·exact Int.le_refl _
      ·split
       ·exact Int.le_refl _
       ·exact Int.natCast_nonneg _
     | cons u r =>
      have hd : decide (((((u :: r).length : Nat) : Int)) > 0) = true := decide_eq_true (by rw [List.length_cons]; omega)
      have hne : ¬ ((u :: r) ++ y = []) := by simp
      rw [if_neg (List.cons_ne_nil _ _), if_neg hne, hd, Bool.and_true, runI_append]
      cases hr : runI 8000000 (u :: r) 0 (TRd.mk nilDesc) with
      | inr v =>
       have := runI_at (n := 8000000) (by omega) (u :: r) 0 _ inv_nil f4 v.1 v.2 hr
       have hv : (v.2 != 0) = true := by simpa using this.2
       simp only [hv, cond_true, beq_self_eq_true, Bool.and_self]
      | inl q =>
       have hq := runI_inv (n := 8000000) (by omega) (u :: r) 0 _ inv_nil f4 q hr
       simp only [bne_self_eq_false, Bool.false_and, cond_false]
       congr 1
       rw [Bool.or_eq_true]
       have hcs : (∃ q2, runI 8000000 y (0 + (u :: r).length) q = .inl q2) ∨ ∃ v, runI 8000000 y (0 + (u :: r).length) q = .inr v := by
        cases runI 8000000 y (0 + (u :: r).length) q with
        | inl q2 => exact .inl ⟨_, rfl⟩
        | inr v => exact .inr ⟨_, rfl⟩
       rcases hcs with ⟨q2, hr2⟩ | ⟨v, hr2⟩
       ·left; rw [hr2]; rfl
       ·right
        apply decide_eq_true
        rw [hr2]
        have := (runI_at (n := 8000000) (by omega) y _ q hq g4 v.1 v.2 hr2).1
        show ((v.1 : Nat) : Int) ≥ (((u :: r).length : Nat) : Int)
        omega
    ·rfl
   ·exact absurd rfl he
  ·exact absurd rfl he
end Go.DM
