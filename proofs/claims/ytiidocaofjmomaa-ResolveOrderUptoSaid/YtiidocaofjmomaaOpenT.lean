/- The D-machine: a caller's data, as the row's form reads them, as typed data. No condition. -/
import Derived.Test.YtiidocaofjmomaaDmF
import Derived.Test.YtiidocaofjmomaaDmD
import Derived.ChangeArms
import Derived.WideKeyArgs
namespace Go.DM
open Go Go.RowKit

inductive All2 {α β : Type} (D : α → β → Prop) : List α → List β → Prop where
  | nil : All2 D [] []
  | cons {x : α} {y : β} {l : List α} {m : List β} : D x y → All2 D l m → All2 D (x :: l) (y :: m)
theorem All2.append {α β : Type} {D : α → β → Prop} {l l' : List α} {m m' : List β} (h : All2 D l m) (g : All2 D l' m') : All2 D (l ++ l') (m ++ m') := by
  induction h with
  | nil => exact g
  | cons hx _ ih => exact .cons hx ih
theorem addr_two (a : Addr) (p q : Nat) : (a.add p).add q = a.add (p + q) := by
  unfold Addr.add
  by_cases hp : p = 0
  · subst hp; simp
  · by_cases hq : q = 0
    · subst hq; simp
    · simp [hp, hq, Nat.add_assoc]
theorem spot_none {W : World} {a : Addr} {v : Value} (h : W.cell? a = some v) : a.spot = none := by
  unfold World.cell? at h
  split at h
  · split at h
    · cases h
    · rename_i hs; simpa using hs
  · cases h
theorem frz_of_cell {W : World} {c o : Nat} {v : Value} (h : W.cell? ⟨c, o, none⟩ = some v) : ∃ n, (start W).frz c = some n ∧ o < n := by
  unfold World.cell? at h
  split at h
  · rename_i cs e fr hh
    simp only [Option.isSome_none, Bool.false_eq_true, if_false] at h
    refine ⟨cs.size, ?_, ?_⟩
    · show startFrz W c = _
      unfold startFrz
      rw [hh]
    · rcases Nat.lt_or_ge o cs.size with hl | hl
      · exact hl
      · rw [Array.getElem?_eq_none hl] at h; cases h
  · cases h
theorem cells_at {W : World} {a : Addr} {n : Nat} {vs : List Value} (h : W.cells? 0 a n = some vs) {j : Nat} {u : Value} (hj : vs[j]? = some u) : W.cell? (a.add j) = some u := by
  unfold World.cells? at h
  rw [if_pos (Nat.zero_le _)] at h
  have hl := mapM_some_length h
  rw [List.length_range] at hl
  have hlt : j < n := by have := (List.getElem?_eq_some_iff.1 hj).1; omega
  have := mapM_some_get h j j (by simp [hlt])
  rw [this]; exact hj

/-- what is read at a type is typed data -/
structure Opens {H α : Type} (enc : TypeId × Value → H) (P : Program) (t : TypeId) (r : RepT α) (D : α → DataW H → Prop) : Prop where
  sz : P.cellsOf t = r.sz
  run : ∀ {W : World} {sp : Nat → Bool} {held : Bool} {fuel : Nat} {cs : List Value} {d : DataW H} {ps : List MemPlace}, DataW.trod enc P W 0 sp held fuel t cs = some (d, ps) → ∃ x as, r.rep x as ∧ RelL (start W) as cs ∧ D x d
section
variable {H α : Type} {enc : TypeId × Value → H} {P : Program} {t e : TypeId} {r : RepT α} {D : α → DataW H → Prop}
theorem opens_int {k : IntKind} (ht : P.underlying t = some (.int k)) (hz : P.cellsOf t = 1) : Opens enc P t (rI k) (fun x d => d = .lit (.int k x)) :=
  ⟨hz, fun h => by
    obtain ⟨n, rfl, hx, _⟩ := DataW.trod_int ht h
    cases hx
    exact ⟨n, _, rfl, RelL.cons (.v rfl) (RelL.nil _), rfl⟩⟩
theorem opens_bool (ht : P.underlying t = some .bool) (hz : P.cellsOf t = 1) : Opens enc P t rB (fun x d => d = .lit (.bool x)) :=
  ⟨hz, fun h => by
    obtain ⟨b, rfl, hx⟩ := DataW.trod_bool ht h
    cases hx
    exact ⟨b, _, rfl, RelL.cons (.v rfl) (RelL.nil _), rfl⟩⟩
theorem opens_string (ht : P.underlying t = some .string) (hz : P.cellsOf t = 1) : Opens enc P t rS (fun x d => d = .lit (.string x.data.toList)) :=
  ⟨hz, fun h => by
    obtain ⟨s, rfl, hx, _⟩ := DataW.trod_string ht h
    cases hx
    exact ⟨s, _, rfl, RelL.cons (.v rfl) (RelL.nil _), rfl⟩⟩
def SlD (D : α → DataW H → Prop) (l : List α) (d : DataW H) : Prop := (l = [] ∧ d = .nil) ∨ ∃ es rest, d = .slice es rest ∧ All2 D l es
/-- a slice's elements -/
theorem slice_open {n : Nat} (he : ∀ {W : World} {sp : Nat → Bool} {held : Bool} {cs : List Value} {d : DataW H} {ps : List MemPlace}, DataW.trod enc P W 0 sp held n e cs = some (d, ps) → ∃ x as, r.rep x as ∧ RelL (start W) as cs ∧ D x d) (hsz : P.cellsOf e = r.sz)
    {W : World} {sp : Nat → Bool} {held : Bool} {len cap : Nat} {a : Addr} {elems rest : List (DataW H × List MemPlace)} (hlc : len ≤ cap) (hlen : elems.length = len)
    (hel : ∀ i, i < len → (W.cells? 0 (a.add (i * P.cellsOf e)) (P.cellsOf e)).bind (DataW.trod enc P W 0 sp held n e) = elems[i]?) :
    ∃ x as, (rL r).rep x as ∧ RelL (start W) as [.slice (some a) len cap] ∧ SlD D x (.slice (elems.map (·.1)) (rest.map (·.1))) := by
  have key : ∀ m, m ≤ len → ∃ l as, Cells r as l ∧ l.length = m ∧ All2 D l ((elems.take m).map (·.1)) ∧ ∀ (j : Nat) (x : A), as[j]? = some x → ∃ u, W.cell? (a.add j) = some u ∧ Rel (start W) x u := by
    intro m
    induction m with
    | zero => exact fun _ => ⟨[], [], .nil, rfl, by simpa using All2.nil, by simp⟩
    | succ m ih =>
      intro hm
      obtain ⟨l, as, h1, h2, h3, h4⟩ := ih (by omega)
      have hg := hel m (by omega)
      have hlt : m < elems.length := by omega
      rw [List.getElem?_eq_getElem hlt] at hg
      obtain ⟨vs, hv, ht2⟩ := Option.bind_eq_some_iff.1 hg
      obtain ⟨d, ps, hd⟩ : ∃ d ps, elems[m] = (d, ps) := ⟨_, _, rfl⟩
      rw [hd] at ht2
      obtain ⟨x, bs, g1, g2, g3⟩ := he ht2
      have hal : as.length = m * r.sz := by rw [h1.length, h2]
      refine ⟨l ++ [x], as ++ bs, h1.append (.single g1), by simp [h2], ?_, fun j y hj => ?_⟩
      · rw [List.take_add_one, List.getElem?_eq_getElem hlt, hd, List.map_append]
        exact h3.append (.cons g3 .nil)
      · by_cases hj' : j < as.length
        · rw [List.getElem?_append_left hj'] at hj; exact h4 j y hj
        · rw [List.getElem?_append_right (by omega)] at hj
          obtain ⟨u, hu, hr⟩ := g2.get hj
          refine ⟨u, ?_, hr⟩
          have := cells_at hv hu
          rw [addr_two, hsz] at this
          rw [show m * r.sz + (j - as.length) = j by omega] at this
          exact this
  obtain ⟨l, as, h1, h2, h3, h4⟩ := key len (Nat.le_refl _)
  rw [List.take_of_length_le (by omega)] at h3
  have hal : as.length = len * r.sz := by rw [h1.length, h2]
  have hD : SlD D l (.slice (elems.map (·.1)) (rest.map (·.1))) := .inr ⟨_, _, rfl, h3⟩
  have hpos := r.pos
  refine ⟨l, [.sl r.sz as .no], ⟨_, rfl, .inr ⟨_, _, rfl, h1⟩⟩, RelL.cons ?_ (RelL.nil _), hD⟩
  rcases Nat.eq_zero_or_pos len with h0 | h0
  · have : as = [] := List.eq_nil_of_length_eq_zero (by rw [hal, h0]; simp)
    subst this
    rw [h0]
    exact .sl0 hpos
  · have hp : 0 < as.length := by rw [hal]; exact Nat.mul_pos h0 hpos
    have hsp : a.spot = none := by
      obtain ⟨u, hu, _⟩ := h4 0 as[0] (List.getElem?_eq_getElem hp)
      have hz : a.add 0 = a := rfl
      rw [hz] at hu
      exact spot_none hu
    obtain ⟨c, i, sp'⟩ := a
    simp only at hsp
    subst hsp
    obtain ⟨u, hu, _⟩ := h4 (as.length - 1) _ (List.getElem?_eq_getElem (show as.length - 1 < as.length by omega))
    rw [addr_add] at hu
    obtain ⟨q, hq, hlt⟩ := frz_of_cell hu
    have hdiv : as.length / r.sz = len := by rw [hal, Nat.mul_div_cancel _ hpos]
    have := Rel.sl (k := start W) (sz := r.sz) (cs := as) (ap := .no) (c := c) (i := i) (n := q) (cap := cap) (fun j => (W.cell? ⟨c, i + j, none⟩).getD undef) hq (by omega)
      (fun j x hj => by
        obtain ⟨u, hu, _⟩ := h4 j x hj
        rw [addr_add] at hu
        show W.cell? _ = _
        rw [hu]; rfl)
      (fun j x hj => by
        obtain ⟨u, hu, hr⟩ := h4 j x hj
        rw [addr_add] at hu
        simp only [hu, Option.getD_some]
        exact hr)
      hpos (by rw [hdiv]; exact hal) (by rw [hdiv]; exact hlc) trivial
    rw [hdiv] at this
    exact this
theorem opens_slice (ht : P.underlying t = some (.slice e)) (hz : P.cellsOf t = 1) (he : Opens enc P e r D) : Opens enc P t (rL r) (SlD D) := by
  refine ⟨hz, fun {W sp held fuel cs d ps} h => ?_⟩
  rcases DataW.trod_slice ht h with ⟨rfl, hx⟩ | ⟨a, len, cap, elems, rest, n, rfl, rfl, hx, _, hlc, _, hlen, hel, _, _⟩
  · cases hx
    exact ⟨[], [nilS], ⟨_, rfl, Sl.nil⟩, RelL.cons (.v rfl) (RelL.nil _), .inl ⟨rfl, rfl⟩⟩
  · cases hx
    exact slice_open (fun h => he.run h) he.sz hlc hlen hel

/-- a struct's fields, one behind the other -/
structure OpensFs {β : Type} (enc : TypeId × Value → H) (P : Program) (fs : List Field) (off : Nat) (R : β → List A → Prop) (Ds : β → List (DataW H) → Prop) : Prop where
  run : ∀ {W : World} {sp : Nat → Bool} {held : Bool} {n : Nat} {cs : List Value} {xs : List (DataW H × List MemPlace)},
    (∀ (i : Nat) (f : Field), fs[i]? = some f → DataW.trod enc P W 0 sp held n f.type ((cs.drop f.offset).take (P.cellsOf f.type)) = xs[i]?) → xs.length = fs.length →
    ∃ y as tot, R y as ∧ RelL (start W) as ((cs.drop off).take tot) ∧ as.length = tot ∧ Ds y (xs.map (·.1))
theorem opensFs_nil {off : Nat} : OpensFs enc P [] off (fun (_ : Unit) as => as = []) (fun _ ds => ds = []) :=
  ⟨fun {W sp held n cs xs} _ hl => ⟨(), [], 0, rfl, by simpa using RelL.nil _, rfl, by have : xs = [] := List.eq_nil_of_length_eq_zero (by simpa using hl); subst this; rfl⟩⟩
theorem opensFs_cons {β : Type} {f : Field} {fs : List Field} {off : Nat} {R : β → List A → Prop} {Ds : β → List (DataW H) → Prop} (ho : f.offset = off) (h : Opens enc P f.type r D) (g : OpensFs enc P fs (off + r.sz) R Ds) :
    OpensFs enc P (f :: fs) off (fun (y : α × β) as => ∃ a b, as = a ++ b ∧ r.rep y.1 a ∧ R y.2 b) (fun y ds => ∃ d es, ds = d :: es ∧ D y.1 d ∧ Ds y.2 es) := by
  refine ⟨fun {W sp held n cs xs} hx hl => ?_⟩
  rcases xs with _ | ⟨⟨d, ps⟩, xs⟩
  · simp at hl
  have h0 := hx 0 f rfl
  simp only [List.getElem?_cons_zero] at h0
  obtain ⟨x, a, h1, h2, h3⟩ := h.run h0
  obtain ⟨y, b, tot, g1, g2, g3, g4⟩ := g.run (W := W) (sp := sp) (held := held) (n := n) (cs := cs) (xs := xs) (fun i q hq => by have := hx (i + 1) q (by simpa using hq); simpa using this) (by simpa using hl)
  have hla := r.len _ _ h1
  refine ⟨(x, y), a ++ b, r.sz + tot, ⟨a, b, rfl, h1, g1⟩, ?_, by simp [hla, g3], ⟨d, _, rfl, h3, g4⟩⟩
  rw [ho, h.sz] at h2
  have : (cs.drop off).take (r.sz + tot) = (cs.drop off).take r.sz ++ (cs.drop (off + r.sz)).take tot := by
    rw [List.take_add, List.drop_drop]
  rw [this]
  exact h2.append g2
theorem opens_struct {β : Type} {fs : Array Field} {R : β → List A → Prop} {Ds : β → List (DataW H) → Prop} (mk : β → α) (hz : P.cellsOf t = r.sz) (ht : P.underlying t = some (.struct fs)) (h : OpensFs enc P fs.toList 0 R Ds) (hR : ∀ y as, R y as → r.rep (mk y) as) (hD : ∀ y ds, Ds y ds → D (mk y) (.agg ds)) : Opens enc P t r D := by
  refine ⟨hz, fun {W sp held fuel cs d ps} hd => ?_⟩
  obtain ⟨xs, n, rfl, hx, hl, hxl, hel⟩ := DataW.trod_struct ht hd
  cases hx
  obtain ⟨y, as, tot, h1, h2, h3, h4⟩ := h.run (W := W) (sp := sp) (held := held) (n := n) (cs := cs) (xs := xs) (fun i f hf => hel i f (by simpa using hf)) (by simpa using hxl)
  have h5 := hR y as h1
  have h6 := r.len _ _ h5
  refine ⟨mk y, as, h5, ?_, hD _ _ h4⟩
  rw [List.drop_zero, List.take_of_length_le (by omega)] at h2
  exact h2
/-- the arguments stay -/
theorem trod_stays {W W' : World} {v : Value} {d : DataW H} {ps : List MemPlace} {sp' : Nat → Bool} (hl : laidOutB P = true) (hr : P.readableRec t = true) (hrow : t < P.types.size)
    (h : DataW.Trod enc P W 0 (fun _ => true) true t v d ps) (hb : Below W.heap.size W W') (hlt : ∀ p ∈ ps, p.block < W.heap.size) (hs : ∀ p ∈ ps, sp' p.block = true) : DataW.Trod enc P W' 0 sp' true t v d ps := by
  refine WideElems.Trod_stays hl hr hrow h (fun p hp => ?_) hs
  have h1 := hb.block p.block (hlt p hp)
  cases p with
  | cell b off => simp only [World.sameAt, World.cell?]; rw [show W'.heap[b]? = W.heap[b]? from h1]
  | map b => exact h1
end
end Go.DM
