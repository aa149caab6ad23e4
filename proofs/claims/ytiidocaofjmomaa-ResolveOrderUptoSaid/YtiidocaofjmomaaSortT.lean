/- The D-machine: slices.Sorted(maps.Keys(m)) of a map whose keys are strings, as a function given by hand. Condition: what the library's contracts on the two functions ask. -/
import Derived.Test.YtiidocaofjmomaaDmF
import Derived.Shelf.SlIter.Nil
import Derived.Shelf.SlIter.Sorted
namespace Go.DM
open Go Go.RowKit Go.Maps Go.Sort Go.Shelf Go.Proofs
open Go.WideElems (Fit rg rd)
open Go.MapKept (Stamped)

/-! sorted rows of bytes -/
def leL : List UInt8 → List UInt8 → Bool
  | [], _ => true
  | _ :: _, [] => false
  | a :: x, b :: y => bif Nat.blt a.toNat b.toNat then true else bif Nat.blt b.toNat a.toNat then false else leL x y
theorem leL_eq : ∀ (x y : List UInt8), leL x y = leB x y
  | [], y => by
    have : ([] : List UInt8) ≤ y := List.nil_le y
    simp [leL, leB, this]
  | a :: x, [] => by
    have : ¬ (a :: x : List UInt8) ≤ [] := by
      intro h
      have := List.le_antisymm h (List.nil_le _)
      cases this
    simp [leL, leB, this]
  | a :: x, b :: y => by
    have ih := leL_eq x y
    unfold leL
    have hb1 : Nat.blt a.toNat b.toNat = decide (a.toNat < b.toNat) := by
      cases h : Nat.blt a.toNat b.toNat
      · have := Nat.blt_eq (x := a.toNat) (y := b.toNat); simp [h] at this; simp; omega
      · have := Nat.blt_eq (x := a.toNat) (y := b.toNat); simp [h] at this; simp; omega
    have hb2 : Nat.blt b.toNat a.toNat = decide (b.toNat < a.toNat) := by
      cases h : Nat.blt b.toNat a.toNat
      · have := Nat.blt_eq (x := b.toNat) (y := a.toNat); simp [h] at this; simp; omega
      · have := Nat.blt_eq (x := b.toNat) (y := a.toNat); simp [h] at this; simp; omega
    rw [hb1, hb2, ih]
    unfold leB
    by_cases h1 : a.toNat < b.toNat
    · rw [decide_eq_true h1, cond_true]
      have : (a :: x : List UInt8) ≤ b :: y := List.cons_le_cons_iff.2 (.inl (UInt8.lt_iff_toNat_lt.2 h1))
      rw [decide_eq_true this]
    · rw [decide_eq_false h1, cond_false]
      by_cases h2 : b.toNat < a.toNat
      · rw [decide_eq_true h2, cond_true]
        have : ¬ (a :: x : List UInt8) ≤ b :: y := fun h => by
          rcases List.cons_le_cons_iff.1 h with h | ⟨h, _⟩
          · exact h1 (UInt8.lt_iff_toNat_lt.1 h)
          · rw [h] at h2; omega
        rw [decide_eq_false this]
      · rw [decide_eq_false h2, cond_false]
        have hab : a = b := UInt8.toNat.inj (by omega)
        subst hab
        by_cases h3 : x ≤ y
        · have : (a :: x : List UInt8) ≤ a :: y := List.cons_le_cons_iff.2 (.inr ⟨rfl, h3⟩)
          rw [decide_eq_true h3, decide_eq_true this]
        · have : ¬ (a :: x : List UInt8) ≤ a :: y := fun h => by
            rcases List.cons_le_cons_iff.1 h with h | ⟨_, h⟩
            · exact absurd (UInt8.lt_iff_toNat_lt.1 h) (by omega)
            · exact h3 h
          rw [decide_eq_false h3, decide_eq_false this]
def insL (x : List UInt8) : List (List UInt8) → List (List UInt8)
  | [] => [x]
  | y :: r => bif leL x y then x :: y :: r else y :: insL x r
def sortL : List (List UInt8) → List (List UInt8)
  | [] => []
  | x :: r => insL x (sortL r)
theorem insL_perm (x : List UInt8) : ∀ (l : List (List UInt8)), (insL x l).Perm (x :: l)
  | [] => List.Perm.refl _
  | y :: r => by
    unfold insL
    cases leL x y
    · exact ((insL_perm x r).cons y).trans (List.Perm.swap x y r)
    · exact List.Perm.refl _
theorem sortL_perm : ∀ (l : List (List UInt8)), (sortL l).Perm l
  | [] => List.Perm.refl _
  | x :: r => (insL_perm x _).trans ((sortL_perm r).cons x)
theorem leB_total (a b : List UInt8) (h : leB a b = false) : leB b a = true := by
  simp only [leB, decide_eq_false_iff_not, decide_eq_true_eq] at *
  rcases List.le_total a b with h' | h'
  · exact absurd h' h
  · exact h'
theorem leB_trans (a b c : List UInt8) (h1 : leB a b = true) (h2 : leB b c = true) : leB a c = true := by
  simp only [leB, decide_eq_true_eq] at *; exact List.le_trans h1 h2
theorem insL_sorted (x : List UInt8) : ∀ (l : List (List UInt8)), l.Pairwise (fun a b => leB a b = true) → (insL x l).Pairwise (fun a b => leB a b = true)
  | [], _ => List.pairwise_singleton _ _
  | y :: r, h => by
    obtain ⟨h1, h2⟩ := List.pairwise_cons.1 h
    unfold insL
    cases hxy : leL x y
    · have hyx := leB_total x y (by rw [← leL_eq]; exact hxy)
      refine List.pairwise_cons.2 ⟨fun z hz => ?_, insL_sorted x r h2⟩
      rcases List.mem_cons.1 ((insL_perm x r).mem_iff.1 hz) with rfl | hz
      · exact hyx
      · exact h1 z hz
    · have hxy' : leB x y = true := by rw [← leL_eq]; exact hxy
      refine List.pairwise_cons.2 ⟨fun z hz => ?_, h⟩
      rcases List.mem_cons.1 hz with rfl | hz
      · exact hxy'
      · exact leB_trans _ _ _ hxy' (h1 z hz)
theorem sortL_sorted : ∀ (l : List (List UInt8)), (sortL l).Pairwise (fun a b => leB a b = true)
  | [] => List.Pairwise.nil
  | x :: r => insL_sorted x _ (sortL_sorted r)
theorem sortL_eq {l l' : List (List UInt8)} (h : l'.Perm l) : l'.mergeSort (fun x y => decide (x ≤ y)) = sortL l := by
  have tr : ∀ a b c : List UInt8, leB a b = true → leB b c = true → leB a c = true := leB_trans
  have tt : ∀ a b : List UInt8, (leB a b || leB b a) = true := fun a b => by simp only [leB, Bool.or_eq_true, decide_eq_true_eq]; exact List.le_total a b
  refine List.Perm.eq_of_pairwise (le := fun a b => leB a b = true) (fun a b _ _ h1 h2 => ?_) (List.pairwise_mergeSort tr tt l') (sortL_sorted l) (((List.mergeSort_perm l' leB).trans h).trans (sortL_perm l).symm)
  simp only [leB, decide_eq_true_eq] at h1 h2
  exact List.le_antisymm h1 h2

/-! the map's keys -/
def keysA : List (Value × A × Nat) → Option (List (List UInt8))
  | [] => some []
  | (.string s, _, _) :: r => match keysA r with
    | some l => if s.size ≤ 4000000 then some (s.data.toList :: l) else none
    | none => none
  | _ => none
def eqL : List UInt8 → List UInt8 → Bool
  | [], [] => true
  | a :: x, b :: y => Nat.beq a.toNat b.toNat && eqL x y
  | _, _ => false
theorem eqL_refl : ∀ x, eqL x x = true
  | [] => rfl
  | a :: x => by simp [eqL, eqL_refl x]
def nodupL : List (List UInt8) → Bool
  | [] => true
  | x :: r => r.all (fun y => !eqL x y) && nodupL r
theorem nodupL_ok : ∀ {l : List (List UInt8)}, nodupL l = true → l.Nodup
  | [], _ => List.nodup_nil
  | x :: r, h => by
    simp only [nodupL, Bool.and_eq_true, List.all_eq_true, Bool.not_eq_true'] at h
    refine List.nodup_cons.2 ⟨fun hx => ?_, nodupL_ok h.2⟩
    have := h.1 x hx
    rw [eqL_refl] at this; cases this
def bornsB (clock : Nat) : Nat → List (Value × A × Nat) → Bool
  | _, [] => true
  | lo, (_, _, b) :: r => Nat.ble lo b && Nat.blt b clock && bornsB clock (b + 1) r
theorem bornsB_ok {clock : Nat} : ∀ {lo : Nat} {es : List (Value × A × Nat)}, bornsB clock lo es = true → (∀ e ∈ es, lo ≤ e.2.2 ∧ e.2.2 < clock) ∧ (es.map (·.2.2)).Nodup
  | _, [], _ => ⟨by simp, List.nodup_nil⟩
  | lo, (x, a, b) :: r, h => by
    simp only [bornsB, Bool.and_eq_true] at h
    have h1 : lo ≤ b := Nat.le_of_ble_eq_true h.1.1
    have h2 : b < clock := (by have := h.1.2; rwa [Nat.blt_eq] at this)
    obtain ⟨g1, g2⟩ := bornsB_ok h.2
    refine ⟨fun e he => ?_, ?_⟩
    · rcases List.mem_cons.1 he with rfl | he
      · exact ⟨h1, h2⟩
      · have := g1 e he; exact ⟨by omega, this.2⟩
    · rw [List.map_cons]
      refine List.nodup_cons.2 ⟨fun hm => ?_, g2⟩
      obtain ⟨e, he, hb⟩ := List.mem_map.1 hm
      have := g1 e he
      simp only at hb
      omega
def strA (x : List UInt8) : A := .v (.string ⟨x.toArray⟩)
def rowA : List (List UInt8) → A
  | [] => .v (.slice none 0 0)
  | l => .sl 1 (l.map strA) .no
/-- slices.Sorted at what maps.Keys gives (g: the iterator) -/
def sortedG (g : FuncId) : List A → St → Option (A × St)
  | [.fn (.func g') [] [.ptr b 0]], σ => if g' = g then match σ.cells b with
      | some ([.mp m], _) => match σ.blks.get m with
        | some (.map es clock) => match keysA es with
          | some ks => if nodupL ks && bornsB clock 0 es && Nat.ble ks.length 4000000 then some (rowA (sortL ks), σ) else none
          | none => none
        | _ => none
      | _ => none
    else none
  | _, _ => none

/-- a world behind a call that gives a new row -/
def K.row (k : K) (w' : World) (gb n : Nat) : K := { base := k.base, w := w', blk := k.blk, frz := fun x => if x = gb then some n else k.frz x, own := k.own, live := k.live }
section
variable {w0 : World} {σ : St} {k : K}
theorem Inv.row (h : Inv w0 σ k) {w' : World} (hb : Below k.w.heap.size k.w w') {gb n : Nat} {cur : Array Value} {e : TypeId} {fr : Nat × Nat} (hg : k.w.heap.size ≤ gb) (hh : w'.heap[gb]? = some (.cells cur e fr)) (hn : n ≤ cur.size) :
    Inv w0 σ (k.row w' gb n) ∧ k.le (k.row w' gb n) ∧ (k.row w' gb n).frz gb = some n := by
  have hlt : ∀ c m, k.frz c = some m → c ≠ gb := fun c m hf e => by have := h.frz_lt hf; omega
  have hle : k.le (k.row w' gb n) :=
    K.le_of h _ rfl (fun _ _ h => h) (fun c m hf => by simp only [K.row, if_neg (hlt c m hf)]; exact hf) (fun _ _ h => h) (fun _ _ _ h => h) (fun id c h _ => ⟨id, h⟩) (fun c n hf => hb.block c (h.frz_lt hf))
      (fun c o hu => by
        have hc := lt_of_heap hu.1
        exact ⟨(hb.block c hc).trans hu.1, hu.2.1, by simp only [K.row, if_neg (show c ≠ gb by omega)]; exact hu.2.2⟩) (fun c cs e fr hh => ⟨cs, fr, (hb.block c (lt_of_heap hh)).trans hh, rfl⟩)
  refine ⟨⟨h.base, h.below.trans (hb.mono h.below.size), fun b y hy => ?_, h.next, fun b c hc => Nat.lt_of_lt_of_le (h.dom b c hc) hb.size, h.inj, fun c m hf => ?_, fun id e' ht => ?_, h.tnext, fun id c ho => ?_, h.tinj, h.liv⟩, hle, by simp [K.row]⟩
  · obtain ⟨c, o', h1, h2, h3, h4, h5⟩ := h.blk b y hy
    have hne : c ≠ gb := by have := lt_of_heap h4; omega
    exact ⟨c, o', h1, h2, by simp only [K.row, if_neg hne]; exact h3, (hb.block c (lt_of_heap h4)).trans h4, h5.mono hle⟩
  · simp only [K.row] at hf
    split at hf
    · rename_i hc
      cases hf
      exact ⟨cur, e, fr, by rw [hc]; exact hh, hn⟩
    · obtain ⟨cs, e', fr', hh', hn'⟩ := h.frz c m hf
      exact ⟨cs, e', fr', (hb.block c (lt_of_heap hh')).trans hh', hn'⟩
  · obtain ⟨hl, c, m, cs, lo, hi, h1, h2, h3, h4, h5⟩ := h.tok id e' ht
    exact ⟨hl, c, m, cs, lo, hi, h1, h2, by simp only [K.row, if_neg (hlt c m h3)]; exact h3, (hb.block c (lt_of_heap h4)).trans h4, h5⟩
  · obtain ⟨m, hm⟩ := h.odom id c ho
    exact ⟨m, by simp only [K.row, if_neg (hlt c m hm)]; exact hm⟩

theorem keysA_len : ∀ {es : List (Value × A × Nat)} {ks : List (List UInt8)}, keysA es = some ks → ks.length = es.length
  | [], _, h => by cases h; rfl
  | (v, a, b) :: r, ks, h => by
    cases v <;> simp only [keysA] at h <;> try cases h
    rename_i s
    cases hr : keysA r with
    | none => rw [hr] at h; cases h
    | some l =>
      rw [hr] at h
      simp only at h
      split at h
      · cases h
        simp [keysA_len hr]
      · cases h
theorem keysA_at : ∀ {es : List (Value × A × Nat)} {ks : List (List UInt8)}, keysA es = some ks → ∀ (j : Nat) (e : Value × A × Nat), es[j]? = some e → ∃ s : ByteArray, e.1 = .string s ∧ s.size ≤ 4000000 ∧ ks[j]? = some s.data.toList
  | [], _, _, j, e, he => by simp at he
  | (v, a, b) :: r, ks, h, j, e, he => by
    cases v <;> simp only [keysA] at h <;> try cases h
    rename_i s
    cases hr : keysA r with
    | none => rw [hr] at h; cases h
    | some l =>
      rw [hr] at h
      simp only at h
      split at h
      · rename_i hs
        cases h
        cases j with
        | zero => simp at he; subst he; exact ⟨s, rfl, hs, rfl⟩
        | succ j => simp at he; simpa using keysA_at hr j e he
      · cases h

/-- the map reads as a datum with these keys -/
theorem own_of {P : Program} {K0 : TypeId} (hk : P.underlying K0 = some .string) {es : List (Value × A × Nat)} {fs : List MapEntry} {clock cm : Nat} {ks : List (List UInt8)} {w : World} (hks : keysA es = some ks) (hn : nodupL ks = true) (hb : bornsB clock 0 es = true) (hl : ks.length ≤ 4000000)
    (hr : EsRel k es fs) (hh : w.heap[cm]? = some (.map fs.toArray clock)) :
    ∃ D : DataW Unit, w.ownsMap P K0 (fun _ => some (.nil, [])) cm fs.length D ∧ Maps.size D = ks.length ∧ (strKeys D).Perm ks := by
  have hlen := keysA_len hks
  have hfl := hr.1
  have hat : ∀ (j : Nat) (f : MapEntry), fs[j]? = some f → ∃ s : ByteArray, f.key = .string s ∧ s.size ≤ 4000000 ∧ ks[j]? = some s.data.toList ∧ ∃ e, es[j]? = some e ∧ f.born = e.2.2 := fun j f hf => by
    have hj : j < es.length := by rw [hfl]; exact (List.getElem?_eq_some_iff.1 hf).1
    obtain ⟨h1, h2, _⟩ := hr.2 j es[j] f (List.getElem?_eq_getElem hj) hf
    obtain ⟨s, g1, g2, g3⟩ := keysA_at hks j es[j] (List.getElem?_eq_getElem hj)
    exact ⟨s, h1.trans g1, g2, g3, es[j], List.getElem?_eq_getElem hj, h2⟩
  have hmax : (4000000 : Nat) ≤ maxLen := by decide
  have hrd : ∀ (j : Nat) (f : MapEntry), fs[j]? = some f → ∃ s : ByteArray, ks[j]? = some s.data.toList ∧ rd (H := Unit) P K0 (fun _ => some (.nil, [])) f = some (.string s.data.toList, .nil) := fun j f hf => by
    obtain ⟨s, g1, g2, g3, _⟩ := hat j f hf
    refine ⟨s, g3, ?_⟩
    unfold rd
    rw [g1, WideMaps.keyOf_string_mk hk (by omega)]; rfl
  have hborn : fs.map (·.born) = es.map (·.2.2) := by
    refine List.ext_getElem? fun j => ?_
    rw [List.getElem?_map, List.getElem?_map]
    rcases Nat.lt_or_ge j fs.length with hj | hj
    · obtain ⟨s, _, _, _, e, he, hb⟩ := hat j fs[j] (List.getElem?_eq_getElem hj)
      rw [List.getElem?_eq_getElem hj, he]
      simp [hb]
    · rw [List.getElem?_eq_none hj, List.getElem?_eq_none (by omega)]; rfl
  have hkey : fs.map (·.key) = ks.map fun x => Value.string ⟨x.toArray⟩ := by
    refine List.ext_getElem? fun j => ?_
    rw [List.getElem?_map, List.getElem?_map]
    rcases Nat.lt_or_ge j fs.length with hj | hj
    · obtain ⟨s, g1, _, g3, _⟩ := hat j fs[j] (List.getElem?_eq_getElem hj)
      rw [List.getElem?_eq_getElem hj, g3]
      simp [g1]
    · rw [List.getElem?_eq_none hj, List.getElem?_eq_none (by omega)]; rfl
  obtain ⟨b1, b2⟩ := bornsB_ok hb
  have hst : Stamped fs.toArray clock := by
    refine ⟨fun x hx => ?_, ?_, ?_⟩
    · obtain ⟨j, hj⟩ := List.getElem?_of_mem (by simpa using hx : x ∈ fs)
      obtain ⟨s, _, _, _, e, he, hbn⟩ := hat j x hj
      have := b1 e (List.mem_of_getElem? he)
      omega
    · simpa [hborn] using b2
    · have : (ks.map fun x => Value.string ⟨x.toArray⟩).Nodup := (nodupL_ok hn).map _ (fun a b hab h => hab (by simpa using h))
      simpa [hkey] using this
  have hfit : Fit (H := Unit) P K0 (fun _ => some (.nil, [])) fs.toArray clock := ⟨by simp; omega, hst, fun x hx => by
    obtain ⟨j, hj⟩ := List.getElem?_of_mem (by simpa using hx : x ∈ fs)
    obtain ⟨s, _, h⟩ := hrd j x hj
    exact ⟨_, h⟩⟩
  refine ⟨_, ⟨fs.toArray, clock, hh, hfit, by simp, rfl⟩, ?_, ?_⟩
  · show (((fs.toArray.toList.map (rg P K0 _)).foldr DataW.insert []) : List (Lit × DataW Unit)).length = _
    rw [DataW.length_sorted]
    simp; omega
  · show ((((fs.toArray.toList.map (rg P K0 _)).foldr DataW.insert []) : List (Lit × DataW Unit)).map fun p => strOf p.1).Perm ks
    refine ((WideShapes.sorted_perm _).map _).trans ?_
    refine List.Perm.of_eq ?_
    refine List.ext_getElem? fun j => ?_
    simp only [List.map_map, List.getElem?_map]
    rcases Nat.lt_or_ge j fs.length with hj | hj
    · obtain ⟨s, g3, h⟩ := hrd j fs[j] (List.getElem?_eq_getElem hj)
      rw [g3, List.getElem?_eq_getElem hj]
      simp only [Option.map_some, Function.comp_apply, rg, h, Option.getD_some, strOf]
    · rw [List.getElem?_eq_none hj, List.getElem?_eq_none (by omega)]; rfl

/-- THE FUNCTION BY HAND KEEPS THE LIBRARY's CONTRACT -/
theorem sorted_prim {P : Program} {g c : FuncId} {K0 : TypeId} (hk : P.underlying K0 = some .string)
    (hG : ∀ (Bm b nn : Nat) (D : DataW Unit) (w : World), Bm < w.heap.size → w.cell? ⟨Bm, 0, none⟩ = some (.map (some b)) → w.ownsMap P K0 (fun _ => some (.nil, [])) b nn D → SeqGives Fence.wide 2 P g #[.pointer (some ⟨Bm, 0, none⟩)] encStr (fun ss => ss.Perm (strKeys D)) (Maps.size D) w)
    (hS : ∀ (lb : Array Value) (S : List (List UInt8) → Prop) (N : Nat) (w : World), N ≤ maxLen → N * 16 ≤ 140737488355328 → SeqGives Fence.wide 2 P g lb encStr S N w →
      CallsIn Fence.wide 5 P c #[.func (.func g) #[] lb] w fun e w' => ∃ (v : Value) (ss : List (List UInt8)), e = .returned v ∧ S ss ∧ w'.ownsRow w.heap.size K0 1 v ss.length ((ss.mergeSort (fun x y => decide (x ≤ y))).map encStr) ∧ (v = .slice none 0 0 ↔ ss = []) ∧ Below w.heap.size w w')
    {args : List A} {us : List Value} {σ' : St} {x : A} (hg : sortedG g args σ = some (x, σ')) (hI : Inv w0 σ k) (hr : RelL k args us) : Calls P c us.toArray k.w (OutPost w0 k (.ret x) σ') := by
  unfold sortedG at hg
  split at hg
  · rename_i g' b
    split at hg
    · rename_i hgg
      subst hgg
      split at hg
      · rename_i m e0 hcb
        split at hg
        · rename_i es clock hmb
          split at hg
          · rename_i ks hks
            split at hg
            · rename_i hc
              cases hg
              simp only [Bool.and_eq_true] at hc
              obtain ⟨⟨hnd, hbn⟩, hlen⟩ := hc
              have hlen := Nat.le_of_ble_eq_true hlen
              obtain ⟨u1, us1, rfl, r1, hr1⟩ := hr.inv_cons
              obtain rfl := hr1.inv_nil
              obtain ⟨cb, hcb1, rfl⟩ : ∃ cb, k.blk b = some cb ∧ u1 = .func (.func g') #[] #[.pointer (some ⟨cb, 0, none⟩)] := by
                cases r1 with
                | fn l1 l2 h1 h2 =>
                  rename_i us' vs'
                  obtain rfl : us' = [] := List.eq_nil_of_length_eq_zero (by simpa using l1.symm)
                  match vs', l2 with
                  | [v], _ =>
                    have := h2 0 _ _ rfl rfl
                    cases this with
                    | ptr hb => exact ⟨_, hb, rfl⟩
              have hcells : σ.blks.get b = some (.cells [.mp m] e0) := by
                unfold St.cells at hcb
                split at hcb
                · rename_i h; cases hcb; exact h
                · cases hcb
              obtain ⟨c1, o1, q1, _, _, q4, q5⟩ := hI.blk b _ hcells
              rw [hcb1] at q1
              cases q1
              obtain ⟨us', ws', e', rfl, _, q6⟩ := q5
              obtain ⟨u2, us2, rfl, q7, q8⟩ := q6.inv_cons
              obtain rfl := q8.inv_nil
              obtain ⟨cm, hcm, rfl⟩ : ∃ cm, k.blk m = some cm ∧ u2 = .map (some cm) := by
                cases q7 with
                | mp h => exact ⟨_, h, rfl⟩
              obtain ⟨c2, o2, p1, _, _, p4, p5⟩ := hI.blk m _ hmb
              rw [hcm] at p1
              cases p1
              obtain ⟨fs, rfl, hrel⟩ := p5
              obtain ⟨D, hown, hsz, hperm⟩ := own_of hk hks hnd hbn hlen hrel p4
              have hmax : (4000000 : Nat) ≤ maxLen := by decide
              have hseq := hG cb cm fs.length D k.w (lt_of_heap q4) (by rw [cell_get q4]; rfl) hown
              have hcall := callsIn_wide.1 (hS _ _ _ k.w (by rw [hsz]; omega) (by rw [hsz]; omega) hseq)
              refine hcall.mono fun e w' ⟨v, ss, he, hss, hrow, hnil, hbl⟩ => ?_
              have hsort : ss.mergeSort (fun x y => decide (x ≤ y)) = sortL ks := sortL_eq (hss.trans hperm)
              rw [hsort] at hrow
              have hsl : ss.length = (sortL ks).length := by
                rw [(sortL_perm ks).length_eq, ← hperm.length_eq, ← hss.length_eq]
              rcases hrow.2 with ⟨rfl, hz⟩ | ⟨gb, cap, cur, rfl, t1, t2, t3, t4, t5, t6⟩
              · have hk0 : sortL ks = [] := List.eq_nil_of_length_eq_zero (by omega)
                rw [hk0]
                exact ⟨k.wd w', .slice none 0 0, he, rfl, (hI.toBelow hbl).2, (hI.toBelow hbl).1, .v rfl⟩
              · have hne : ss ≠ [] := fun h => by
                  have := hnil.2 h; cases this
                have hne' : sortL ks ≠ [] := fun h => by
                  rw [h] at hsl; exact hne (List.eq_nil_of_length_eq_zero hsl)
                have hrA : rowA (sortL ks) = .sl 1 ((sortL ks).map strA) .no := by
                  cases hq : sortL ks with
                  | nil => exact absurd hq hne'
                  | cons a r => rfl
                rw [hrA]
                rw [Nat.mul_one] at t5 t6
                obtain ⟨i1, i2, i3⟩ := hI.row hbl t1 t2 (n := ss.length) (by omega)
                refine ⟨k.row w' gb ss.length, _, he, rfl, i2, i1, ?_⟩
                have hcl : ((sortL ks).map strA).length = ss.length := by rw [List.length_map]; exact hsl.symm
                have hcell : ∀ (j : Nat) (a : A), ((sortL ks).map strA)[j]? = some a → ∃ q : ByteArray, a = .v (.string q) ∧ w'.cell? ⟨gb, 0 + j, none⟩ = some (.string q) := fun j a hj => by
                  have hlt : j < (sortL ks).length := by have := (List.getElem?_eq_some_iff.1 hj).1; rwa [List.length_map] at this
                  rw [List.getElem?_map, List.getElem?_eq_getElem hlt] at hj
                  simp only [Option.map_some, Option.some.injEq] at hj
                  refine ⟨⟨(sortL ks)[j].toArray⟩, hj.symm, ?_⟩
                  rw [cell_get t2, Nat.zero_add]
                  have : (cur.toList.take ss.length)[j]? = some (encStr (sortL ks)[j]) := by
                    rw [t6, List.getElem?_map, List.getElem?_eq_getElem hlt]; rfl
                  rw [List.getElem?_take, if_pos (by omega)] at this
                  rw [← Array.getElem?_toList]; exact this
                have := Rel.sl (k := k.row w' gb ss.length) (sz := 1) (cs := (sortL ks).map strA) (ap := .no) (c := gb) (i := 0) (n := ss.length) (cap := cap) (fun j => (w'.cell? ⟨gb, 0 + j, none⟩).getD undef) i3 (by rw [hcl]; omega)
                  (fun j a hj => by
                    obtain ⟨q, _, h⟩ := hcell j a hj
                    show w'.cell? _ = _
                    rw [h]; rfl)
                  (fun j a hj => by
                    obtain ⟨q, rfl, h⟩ := hcell j a hj
                    simp only [h, Option.getD_some]
                    exact .v rfl)
                  (by omega) (by omega) (by rw [hcl]; omega) trivial
                rw [hcl, Nat.div_one] at this
                exact this
            · cases hg
          · cases hg
        · cases hg
      · cases hg
    · cases hg
  · cases hg
end
end Go.DM
