/- This text makes calls at closed data functions by hand, and states the library's functions so. No condition. -/
import Derived.Test.YtiommdibonjgjaaGreatDoorDmD
import Derived.Lib.SplitLaws
import Derived.Lib.SlTrimSet
import Derived.Lib.Bytealg
import Derived.Lib.AtoiAll
import Derived.Lib.ItoaNum
import Derived.Lib.IndexMore
import Derived.Lib.Fields
import Derived.LoopN
namespace Go.DM
open Go Go.RowKit
theorem Inv.toBelow {w0 w' : World} {σ : St} {k : K} (h : Inv w0 σ k) (hb : Below k.w.heap.size k.w w') : Inv w0 σ (k.wd w') ∧ k.le (k.wd w') := by
  have hle : k.le (k.wd w') := K.le_of h _ rfl (fun _ _ h => h) (fun _ _ h => h) (fun _ _ h => h) (fun _ _ _ h => h) (fun id c h _ => ⟨id, h⟩) (fun c n hf => hb.block c (h.frz_lt hf)) (fun c o hu => ⟨(hb.block c (lt_of_heap hu.1)).trans hu.1, hu.2.1, hu.2.2⟩)
  refine ⟨⟨h.base, h.below.trans (hb.mono h.below.size), fun b x hx => ?_, h.next, fun b c hc => Nat.lt_of_lt_of_le (h.dom b c hc) hb.size, h.inj, fun c n hf => ?_, fun id e ht => ?_, h.tnext, h.odom, h.tinj, h.liv⟩, hle⟩
  · obtain ⟨c, o, h1, h2, h3, h4, h5⟩ := h.blk b x hx
    exact ⟨c, o, h1, h2, h3, (hb.block c (lt_of_heap h4)).trans h4, h5.mono hle⟩
  · obtain ⟨cs, e, fr, h1, h2⟩ := h.frz c n hf
    exact ⟨cs, e, fr, (hb.block c (lt_of_heap h1)).trans h1, h2⟩
  · obtain ⟨hl, c, m, cs, lo, hi, h1, h2, h3, h4, h5⟩ := h.tok id e ht
    exact ⟨hl, c, m, cs, lo, hi, h1, h2, h3, (hb.block c (lt_of_heap h4)).trans h4, h5⟩

section
variable {P : Program} {f : FuncId} {us : Array Value} {k : K} {w0 : World} {σ : St} {v : Value} {x : A}
/-- a function that gives a scalar and keeps what was there -/
theorem out_below (hI : Inv w0 σ k) (hs : scal v = true) (h : Calls P f us k.w fun e w' => e = .returned v ∧ Below k.w.heap.size k.w w') : Calls P f us k.w (OutPost w0 k (.ret (.v v)) σ) :=
  h.mono fun _e w' ⟨he, hb⟩ => ⟨k.wd w', v, he, rfl, (hI.toBelow hb).2, (hI.toBelow hb).1, .v hs⟩
theorem out_same (hI : Inv w0 σ k) (hs : scal v = true) (h : Calls P f us k.w fun e w' => e = .returned v ∧ w' = k.w) : Calls P f us k.w (OutPost w0 k (.ret (.v v)) σ) :=
  out_below hI hs (h.mono fun e w' ⟨he, hb⟩ => ⟨he, by rw [hb]; exact Below.refl _ _⟩)
def strsA (l : List ByteArray) : List A := l.map fun b => .v (.string b)
/-- a function that gives a new row of strings -/
theorem out_strs (hI : Inv w0 σ k) {l : List ByteArray} {e : TypeId} {n : Nat} (hn : n = l.length) (h : Calls P f us k.w fun en w' => en = .returned (.slice (some ⟨k.w.heap.size, 0, none⟩) n n) ∧ w' = k.w.alloc (.cells (l.map Value.string).toArray e)) :
    Calls P f us k.w (OutPost w0 k (.ret (.sl 1 (strsA l) .no)) σ) := by
  refine h.mono fun en w' ⟨he, hb⟩ => ?_
  obtain ⟨h1, h2, h3, h4⟩ := hI.lay (us := (l.map Value.string).toArray) (e := e) (fr := (0, 0)) (n := l.length) (by simp)
  refine ⟨_, _, he, ?_, h2, h1, ?_⟩
  · rw [hb]; rfl
  · subst hn
    have hc : (strsA l).length = l.length := by simp [strsA]
    have := Rel.sl (k := k.lay (.cells (l.map Value.string).toArray e (0, 0)) l.length) (sz := 1) (cs := strsA l) (ap := .no) (c := k.w.heap.size) (i := 0) (n := l.length) (cap := l.length) (fun j => .string (l.getD j .empty)) h3 (by rw [hc]; omega)
      (fun j a hj => by
        have hlt : j < l.length := by have := (List.getElem?_eq_some_iff.1 hj).1; rw [hc] at this; exact this
        show (k.w.alloc _).cell? ⟨k.w.heap.size, 0 + j, none⟩ = _
        rw [cell_get (cs := (l.map Value.string).toArray) (e := e) (fr := (0, 0)) (heap_alloc_same _ _)]
        simp [hlt])
      (fun j a hj => by
        have hlt : j < l.length := by have := (List.getElem?_eq_some_iff.1 hj).1; rw [hc] at this; exact this
        have : a = .v (.string l[j]) := by simp [strsA, hlt] at hj; exact hj.symm
        subst this
        simp [hlt]
        exact .v rfl)
      (by omega) (by omega) (by rw [hc]; omega) trivial
    rw [hc, Nat.div_one] at this
    exact this
end

def containsT (s t : ByteArray) : Option Bool := match t.data.toList with
  | [c] => some (decide (0 ≤ Lib.indexByte s.data.toList c))
  | _ => none
def containsG : List A → St → Option (A × St)
  | [.v (.string s), .v (.string t)], σ => (containsT s t).map fun b => (.v (.bool b), σ)
  | _, _ => none
def asciiL (l : List UInt8) : Bool := l.all fun b => decide (b.toNat < 128)
def trimLeftT (s t : ByteArray) : Option ByteArray := if t.size < 4294967281 ∧ asciiL t.data.toList = true then some ⟨(Lib.trimLeftS s.data.toList t.data.toList).toArray⟩ else none
def trimLeftG : List A → St → Option (A × St)
  | [.v (.string s), .v (.string t)], σ => (trimLeftT s t).map fun b => (.v (.string b), σ)
  | _, _ => none
def indexByteT (s : ByteArray) (c : Int) : Option Int := some (Lib.indexByte s.data.toList c.toNat.toUInt8)
def indexByteG : List A → St → Option (A × St)
  | [.v (.string s), .v (.int .u8 c)], σ => (indexByteT s c).map fun b => (.v (.int .i64 b), σ)
  | _, _ => none
def splitT (s t : ByteArray) : Option (List ByteArray) := if s.size < 4294967281 ∧ 1 ≤ t.size then some (Lib.splitB t 0 (Lib.countB s t) s) else none
def splitG : List A → St → Option (A × St)
  | [.v (.string s), .v (.string t)], σ => (splitT s t).map fun l => (.sl 1 (strsA l) .no, σ)
  | _, _ => none

/-- the machine's run is the call's, with functions by hand -/
theorem calls_of_run' {C : Cfg} (hm : C.P.follows .mixedOrders = true) {w : World} (hpr : PrimOk C w) (hg : GlobOk C (start w)) {f : FuncId} {args : List A} {us : List Value} (hr : RelL (start w) args us) {fuel : Nat} {x : A} {σ' : St}
    (h : call C fuel f args σ0 = some (.ret x, σ')) : Calls C.P f us.toArray w fun e w' => ∃ v k', e = .returned v ∧ Below w.heap.size w w' ∧ Rel k' x v := by
  refine (call_good (drOk hm) hpr fuel f args σ0 (.ret x) σ' (start w) us h (start_inv w) hg hr).mono (fun e w' he => ?_)
  obtain ⟨k', v, h1, h2, h3, h4, h5⟩ := he
  subst h2
  exact ⟨v, k', h1, h4.below, h5⟩

def errA (t : TypeId) (b : Bool) : A := cond b (.ifc t .junk) (.v .nilIface)

def containsRuneT (s : ByteArray) (r : Int) : Option Bool := if 0 ≤ r ∧ r < 128 then some (decide (0 ≤ Lib.indexByte s.data.toList r.toNat.toUInt8)) else none
def containsRuneG : List A → St → Option (A × St)
  | [.v (.string s), .v (.int .i32 r)], σ => (containsRuneT s r).map fun b => (.v (.bool b), σ)
  | _, _ => none
def itoaT (n : Int) : Option ByteArray := if -9223372036854775808 ≤ n ∧ n ≤ 9223372036854775807 then some ⟨(Lib.itoa n).toArray⟩ else none
def itoaG : List A → St → Option (A × St)
  | [.v (.int .i64 n)], σ => (itoaT n).map fun b => (.v (.string b), σ)
  | _, _ => none
def atoiT (s : ByteArray) : Option (Int × Bool) := if s.size ≤ 281474976710656 then match Lib.atoiAll s.data.toList with
    | .ok v => some (v, false)
    | Lib.NumEnd.syntax => some (0, true)
    | .range => some (Lib.atoiSat s.data.toList, true)
  else none
def atoiG (t : TypeId) : List A → St → Option (A × St)
  | [.v (.string s)], σ => (atoiT s).map fun b => (.tup [.v (.int .i64 b.1), errA t b.2], σ)
  | _, _ => none

def fieldsT (s : ByteArray) : Option (List ByteArray) := if s.size < 4294967281 ∧ asciiL s.data.toList = true then some ((Lib.fields s.data.toList).map fun l => ⟨l.toArray⟩) else none
def fieldsG : List A → St → Option (A × St)
  | [.v (.string s)], σ => (fieldsT s).map fun l => (.sl 1 (strsA l) .no, σ)
  | _, _ => none
def cutT (s t : ByteArray) : Option (ByteArray × ByteArray × Bool) := if s.size < 4294967281 then some (⟨(Lib.cut s.data.toList t.data.toList).1.toArray⟩, ⟨(Lib.cut s.data.toList t.data.toList).2.1.toArray⟩, (Lib.cut s.data.toList t.data.toList).2.2) else none
def cutG : List A → St → Option (A × St)
  | [.v (.string s), .v (.string t)], σ => (cutT s t).map fun r => (.tup [.v (.string r.1), .v (.string r.2.1), .v (.bool r.2.2)], σ)
  | _, _ => none
def trimT (s t : ByteArray) : Option ByteArray := if s.size ≤ 9223372036854775807 ∧ t.size < 4294967281 ∧ asciiL t.data.toList = true then some ⟨(Lib.trimS s.data.toList t.data.toList).toArray⟩ else none
def trimG : List A → St → Option (A × St)
  | [.v (.string s), .v (.string t)], σ => (trimT s t).map fun b => (.v (.string b), σ)
  | _, _ => none

/-- a closed call that comes to true, with functions by hand -/
theorem calls_true2 {C : Cfg} (hm : C.P.follows .mixedOrders = true) {w : World} (hpr : PrimOk C w) (hg : GlobOk C (start w)) {f : FuncId} {args : List A} {us : List Value} (hr : RelL (start w) args us) {fuel : Nat}
    (h : isTrue (call C fuel f args σ0) = true) : Calls C.P f us.toArray w fun e w' => e = .returned (.bool true) ∧ Below w.heap.size w w' := by
  unfold isTrue at h
  split at h
  · rename_i σ' hc
    refine (calls_of_run' hm hpr hg hr hc).mono (fun e w' ⟨v, k', h1, h2, h3⟩ => ?_)
    have := rel_v_inv h3
    subst this
    exact ⟨h1, h2⟩
  · cases h
end Go.DM
namespace Go.DM
open Go Go.RowKit
/-- data without addresses of blocks, without rights to append -/
def noAp : Ap → Bool
  | .no => true
  | _ => false
mutual
def pureA : A → Bool
  | .v _ => true
  | .sp cs _ ap => noAp ap && pureL cs
  | .sl _ cs ap => noAp ap && pureL cs
  | .ifc _ x => pureA x
  | .agg cs => pureL cs
  | .tup cs => pureL cs
  | .fn _ a c => pureL a && pureL c
  | _ => false
def pureL : List A → Bool
  | [] => true
  | a :: r => pureA a && pureL r
end
theorem pureL_get : ∀ {l : List A} (_ : pureL l = true) {j : Nat} {a : A}, l[j]? = some a → pureA a = true
  | [], _, j, a, h => by simp at h
  | b :: r, hp, 0, a, h => by
    simp only [pureL, Bool.and_eq_true] at hp
    simp at h; subst h; exact hp.1
  | b :: r, hp, j + 1, a, h => by
    simp only [pureL, Bool.and_eq_true] at hp
    exact pureL_get hp.2 (by simpa using h)
theorem noAp_eq {ap : Ap} (h : noAp ap = true) : ap = .no := by cases ap <;> first | rfl | cases h
theorem Rel.pure {k k' : K} (hf : ∀ c n, k.frz c = some n → ∃ n', n ≤ n' ∧ k'.frz c = some n') (hc : ∀ c n i, k.frz c = some n → i < n → k'.w.cell? ⟨c, i, none⟩ = k.w.cell? ⟨c, i, none⟩) {a : A} {v : Value} (hr : Rel k a v) (hp : pureA a = true) : Rel k' a v := by
  induction hr with
  | v hs => exact .v hs
  | sp u hfz hl hcell hr hs ih =>
    simp only [pureA, Bool.and_eq_true] at hp
    obtain ⟨n', h1, h2⟩ := hf _ _ hfz
    have := noAp_eq hp.1
    subst this
    exact .sp u h2 (by omega) (fun j a ha => by rw [hc _ _ _ hfz (by have := lt_of_get ha; omega)]; exact hcell j a ha) (fun j a ha => ih j a ha (pureL_get hp.2 ha)) trivial
  | sl u hfz hl hcell hr hz hm hcap hap ih =>
    simp only [pureA, Bool.and_eq_true] at hp
    obtain ⟨n', h1, h2⟩ := hf _ _ hfz
    have := noAp_eq hp.1
    subst this
    exact .sl u h2 (by omega) (fun j a ha => by rw [hc _ _ _ hfz (by have := lt_of_get ha; omega)]; exact hcell j a ha) (fun j a ha => ih j a ha (pureL_get hp.2 ha)) hz hm hcap trivial
  | sl0 hz => exact .sl0 hz
  | fn h1 h2 _ _ ih1 ih2 =>
    simp only [pureA, Bool.and_eq_true] at hp
    exact .fn h1 h2 (fun j a u ha hu => ih1 j a u ha hu (pureL_get hp.1 ha)) (fun j a u ha hu => ih2 j a u ha hu (pureL_get hp.2 ha))
  | ifc _ ih => exact .ifc (ih (by simpa only [pureA] using hp))
  | agg h1 _ ih => exact .agg h1 (fun j a u ha hu => ih j a u ha hu (pureL_get (by simpa only [pureA] using hp) ha))
  | tup h1 _ ih => exact .tup h1 (fun j a u ha hu => ih j a u ha hu (pureL_get (by simpa only [pureA] using hp) ha))
  | ptr hb => cases hp
  | ms hb hl => cases hp
  | mp hb => cases hp
  | raw ho hc hl hm => cases hp
  | junk => cases hp
theorem RelL.pure {k k' : K} (hf : ∀ c n, k.frz c = some n → ∃ n', n ≤ n' ∧ k'.frz c = some n') (hc : ∀ c n i, k.frz c = some n → i < n → k'.w.cell? ⟨c, i, none⟩ = k.w.cell? ⟨c, i, none⟩) {l : List A} {us : List Value} (hr : RelL k l us) (hp : pureL l = true) : RelL k' l us :=
  ⟨hr.1, fun j a u ha hu => (hr.2 j a u ha hu).pure hf hc (pureL_get hp ha)⟩
mutual
/-- without rights to append -/
def strip : A → A
  | .sp cs o _ => .sp (stripL cs) o .no
  | .sl sz cs _ => .sl sz (stripL cs) .no
  | .ifc t x => .ifc t (strip x)
  | .agg cs => .agg (stripL cs)
  | .tup cs => .tup (stripL cs)
  | .fn f a c => .fn f (stripL a) (stripL c)
  | .v x => .v x
  | .ptr b o => .ptr b o
  | .ms b o len cap => .ms b o len cap
  | .mp b => .mp b
  | .raw id len => .raw id len
  | .junk => .junk
def stripL : List A → List A
  | [] => []
  | a :: r => strip a :: stripL r
end
theorem stripL_map : ∀ l : List A, stripL l = l.map strip
  | [] => rfl
  | a :: r => by rw [stripL, stripL_map r]; rfl
theorem stripL_len (l : List A) : (stripL l).length = l.length := by rw [stripL_map, List.length_map]
theorem stripL_get {l : List A} {j : Nat} {a : A} (h : (stripL l)[j]? = some a) : ∃ b, l[j]? = some b ∧ a = strip b := by
  rw [stripL_map, List.getElem?_map] at h
  cases hb : l[j]? with
  | none => rw [hb] at h; cases h
  | some b => rw [hb] at h; cases h; exact ⟨b, rfl, rfl⟩
theorem Rel.strip {k : K} {a : A} {v : Value} (hr : Rel k a v) : Rel k (DM.strip a) v := by
  induction hr with
  | v hs => exact .v hs
  | sp u hfz hl hcell hr hs ih =>
    rw [DM.strip]
    refine .sp u hfz (by rw [stripL_len]; exact hl) (fun j a ha => ?_) (fun j a ha => ?_) trivial
    · obtain ⟨b, h1, h2⟩ := stripL_get ha; exact hcell j b h1
    · obtain ⟨b, h1, rfl⟩ := stripL_get ha; exact ih j b h1
  | @sl sz cs ap c i n cap u hfz hl hcell hr hz hm hcap hap ih =>
    rw [DM.strip]
    have := Rel.sl (k := k) (sz := sz) (cs := stripL cs) (ap := .no) (c := c) (i := i) (n := n) (cap := cap) u hfz (by rw [stripL_len]; exact hl)
      (fun j a ha => by obtain ⟨b, h1, h2⟩ := stripL_get ha; exact hcell j b h1) (fun j a ha => by obtain ⟨b, h1, rfl⟩ := stripL_get ha; exact ih j b h1) hz (by rw [stripL_len]; exact hm) (by rw [stripL_len]; exact hcap) trivial
    rw [stripL_len] at this
    exact this
  | sl0 hz => rw [DM.strip, stripL]; exact .sl0 hz
  | fn h1 h2 _ _ ih1 ih2 =>
    rw [DM.strip]
    refine .fn (by rw [stripL_len]; exact h1) (by rw [stripL_len]; exact h2) (fun j a u ha hu => ?_) (fun j a u ha hu => ?_)
    · obtain ⟨b, g1, rfl⟩ := stripL_get ha; exact ih1 j b u g1 hu
    · obtain ⟨b, g1, rfl⟩ := stripL_get ha; exact ih2 j b u g1 hu
  | ifc _ ih => rw [DM.strip]; exact .ifc ih
  | agg h1 _ ih =>
    rw [DM.strip]
    refine .agg (by rw [stripL_len]; exact h1) (fun j a u ha hu => ?_)
    obtain ⟨b, g1, rfl⟩ := stripL_get ha; exact ih j b u g1 hu
  | tup h1 _ ih =>
    rw [DM.strip]
    refine .tup (by rw [stripL_len]; exact h1) (fun j a u ha hu => ?_)
    obtain ⟨b, g1, rfl⟩ := stripL_get ha; exact ih j b u g1 hu
  | ptr hb => exact .ptr hb
  | ms hb hl => exact .ms hb hl
  | mp hb => exact .mp hb
  | raw ho hc hl hm => exact .raw ho hc hl hm
  | junk => exact .junk
theorem RelL.strip {k : K} {l : List A} {us : List Value} (hr : RelL k l us) : RelL k (stripL l) us :=
  ⟨by rw [stripL_len]; exact hr.1, fun j a u ha hu => by obtain ⟨b, h1, rfl⟩ := stripL_get ha; exact (hr.2 j b u h1 hu).strip⟩
/-- the same world, and no block known -/
def K.fresh (k : K) : K := { base := k.w.heap.size, w := k.w, blk := fun _ => none, frz := k.frz, own := fun _ => none, live := fun _ => false }
/-- back to what was known -/
def K.back (k k1 : K) : K := { k with w := k1.w, frz := fun c => if c < k.w.heap.size then k.frz c else k1.frz c }
section
variable {w0 : World} {σ : St} {k : K}
theorem Inv.fresh (h : Inv w0 σ k) : Inv k.w σ0 k.fresh := by
  refine ⟨rfl, Below.refl _ _, fun b x h => ?_, fun b h => rfl, fun b c h => ?_, fun b b' c h => ?_, h.frz, fun id e h => ?_, fun id h => rfl, fun id c h => ?_, fun id id' e e' c h => ?_, fun id c h => ?_⟩
  · simp [σ0] at h
  · simp [K.fresh] at h
  · simp [K.fresh] at h
  · simp [σ0] at h
  · simp [K.fresh] at h
  · simp [σ0] at h
  · simp [K.fresh] at h
theorem Inv.back (h : Inv w0 σ k) {σ1 : St} {k1 : K} (h1 : Inv k.w σ1 k1) : Inv w0 σ (k.back k1) ∧ k.le (k.back k1) := by
  have hb := h1.below
  have hlt : ∀ {c n}, k.frz c = some n → (k.back k1).frz c = some n := fun {c n} hf => by simp only [K.back, if_pos (h.frz_lt hf)]; exact hf
  have hle : k.le (k.back k1) := K.le_of h _ rfl (fun _ _ h => h) (fun c n hf => hlt hf) (fun _ _ h => h) (fun _ _ _ h => h) (fun id c h _ => ⟨id, h⟩) (fun c n hf => hb.block c (h.frz_lt hf))
    (fun c o hu => ⟨(hb.block c (lt_of_heap hu.1)).trans hu.1, hu.2.1, by simp only [K.back, if_pos (lt_of_heap hu.1)]; exact hu.2.2⟩)
  refine ⟨⟨h.base, h.below.trans (hb.mono h.below.size), fun b x hx => ?_, h.next, fun b c hc => Nat.lt_of_lt_of_le (h.dom b c hc) hb.size, h.inj, fun c n hf => ?_, fun id e ht => ?_, h.tnext, fun id c ho => ?_, h.tinj, h.liv⟩, hle⟩
  · obtain ⟨c, o, g1, g2, g3, g4, g5⟩ := h.blk b x hx
    exact ⟨c, o, g1, g2, by simp only [K.back, if_pos (lt_of_heap g4)]; exact g3, (hb.block c (lt_of_heap g4)).trans g4, g5.mono hle⟩
  · simp only [K.back] at hf
    split at hf
    · obtain ⟨cs, e, fr, g1, g2⟩ := h.frz c n hf
      exact ⟨cs, e, fr, (hb.block c (lt_of_heap g1)).trans g1, g2⟩
    · exact h1.frz c n hf
  · obtain ⟨hl, c, m, cs, lo, hi, g1, g2, g3, g4, g5⟩ := h.tok id e ht
    exact ⟨hl, c, m, cs, lo, hi, g1, g2, hlt g3, (hb.block c (lt_of_heap g4)).trans g4, g5⟩
  · obtain ⟨n, hn⟩ := h.odom id c ho
    exact ⟨n, hlt hn⟩
theorem back_frz (_ : Inv w0 σ k) {k1 : K} (hle : k.fresh.le k1) {c n : Nat} (hf : k1.frz c = some n) : (k.back k1).frz c = some n := by
  simp only [K.back]
  split
  · rename_i hc
    cases hk : k.frz c with
    | none =>
      have hh : k.w.heap[c]? = some k.w.heap[c] := Array.getElem?_eq_getElem hc
      have := (hle.unk c _ ⟨hh, fun b e => by simp [K.fresh] at e, hk⟩).2.2
      rw [this] at hf; cases hf
    | some m =>
      have := hle.same c m hk (fun id e => by simp [K.fresh] at e)
      rw [this] at hf
      exact hf
  · exact hf
/-- a closed call, wherever it is made -/
theorem closed_call {C : Cfg} (hm : C.P.follows .mixedOrders = true) (hI : Inv w0 σ k) (hg : GlobOk C k) (hgp : ∀ g a, C.glob g = some a → pureA a = true) (hpr : PrimOk C k.w) {f : FuncId} {args : List A} {us : List Value} {x : A} {σ1 : St} {fuel : Nat}
    (h : call C fuel f (stripL args) σ0 = some (.ret x, σ1)) (ha : pureL (stripL args) = true) (hx : pureA (strip x) = true) (hr : RelL k args us) : Calls C.P f us.toArray k.w (OutPost w0 k (.ret (strip x)) σ) := by
  have same : ∀ c n, k.frz c = some n → ∃ n', n ≤ n' ∧ k.fresh.frz c = some n' := fun c n h => ⟨n, Nat.le_refl _, h⟩
  refine (call_good (drOk hm) hpr fuel f (stripL args) σ0 (.ret x) σ1 k.fresh us h hI.fresh (fun g a e => (hg g a e).pure same (fun _ _ _ _ _ => rfl) (hgp g a e)) (hr.strip.pure same (fun _ _ _ _ _ => rfl) ha)).mono (fun e w' he => ?_)
  obtain ⟨k1, v, h1, h2, h3, h4, h5⟩ := he
  obtain ⟨g1, g2⟩ := hI.back h4
  exact ⟨k.back k1, v, h1, h2, g2, g1, h5.strip.pure (fun c n hf => ⟨n, Nat.le_refl _, back_frz hI h3 hf⟩) (fun _ _ _ _ _ => rfl) hx⟩
end
end Go.DM
namespace Go.DM
open Go Go.RowKit
/-- fewer blocks, fewer rights -/
structure Gc (σ σ1 : St) : Prop where
  next : σ1.next = σ.next
  nextT : σ1.nextT = σ.nextT
  blk : ∀ b x, σ1.blks.get b = some x → σ.blks.get b = some x
  tok : ∀ id e, σ1.toks.get id = some e → σ.toks.get id = some e
def K.keep (k : K) (σ1 : St) : K := { k with live := fun id => k.live id && (σ1.toks.get id).isSome }
theorem Inv.gc {w0 : World} {σ σ1 : St} {k : K} (h : Inv w0 σ k) (g : Gc σ σ1) : Inv w0 σ1 (k.keep σ1) ∧ k.le (k.keep σ1) := by
  have hl : ∀ id, (k.keep σ1).live id = true → k.live id = true := fun id h => by
    simp only [K.keep, Bool.and_eq_true] at h; exact h.1
  have hle : k.le (k.keep σ1) := K.le_of h _ rfl (fun _ _ h => h) (fun _ _ h => h) (fun _ _ h => h) (fun id _ _ e => hl id e) (fun x c h _ => ⟨x, h⟩) (fun _ _ _ => rfl) (fun _ _ h => h)
  refine ⟨⟨h.base, h.below, fun b x hx => ?_, fun b hb => h.next b (by rw [← g.next]; exact hb), h.dom, h.inj, h.frz, fun id e ht => ?_, fun id hi => h.tnext id (by rw [← g.nextT]; exact hi), h.odom,
    fun id id' e e' c h1 h2 => h.tinj id id' e e' c (g.tok _ _ h1) (g.tok _ _ h2), fun id c ho hv => ?_⟩, hle⟩
  · obtain ⟨c, o, h1, h2, h3, h4, h5⟩ := h.blk b x (g.blk _ _ hx)
    exact ⟨c, o, h1, h2, h3, h4, h5.mono hle⟩
  · obtain ⟨h1, h2⟩ := h.tok id e (g.tok _ _ ht)
    exact ⟨by simp only [K.keep, h1, ht]; rfl, h2⟩
  · simp only [K.keep, Bool.and_eq_true] at hv
    exact Option.isSome_iff_exists.1 hv.2
/-- rounds of a loop -/
inductive ExL (C : Cfg) (callF : CallF) (n : Nat) (a : Code) : Nat → Fr → St → X × Fr × St → Prop
  | of {k : Nat} {φ : Fr} {σ : St} {r : X × Fr × St} : exec C callF n k (.loop a) φ σ = some r → ExL C callF n a k φ σ r
  | gc {m : Nat} {φ : Fr} {σ σ1 : St} {r : X × Fr × St} : Gc σ σ1 → ExL C callF n a m φ σ1 r → ExL C callF n a m φ σ r
  | next {m k : Nat} {φ φ1 : Fr} {σ σ1 : St} {r : X × Fr × St} : exec C callF n k a φ σ = some (.normal, φ1, σ1) → ExL C callF n a m φ1 σ1 r → ExL C callF n a (m + 1) φ σ r
/-- a run in pieces -/
inductive ExG (C : Cfg) (callF : CallF) (n : Nat) : Code → Fr → St → X × Fr × St → Prop
  | of {k : Nat} {c : Code} {φ : Fr} {σ : St} {r : X × Fr × St} : exec C callF n k c φ σ = some r → ExG C callF n c φ σ r
  | gc {c : Code} {φ : Fr} {σ σ1 : St} {r : X × Fr × St} : Gc σ σ1 → ExG C callF n c φ σ1 r → ExG C callF n c φ σ r
  | seq {a b : Code} {φ φ1 : Fr} {σ σ1 : St} {r : X × Fr × St} : ExG C callF n a φ σ (.normal, φ1, σ1) → ExG C callF n b φ1 σ1 r → ExG C callF n (.seq a b) φ σ r
  | seqX {a b : Code} {φ φ1 : Fr} {σ σ1 : St} {x : X} : x ≠ .normal → ExG C callF n a φ σ (x, φ1, σ1) → ExG C callF n (.seq a b) φ σ (x, φ1, σ1)
  | loop {a : Code} {m : Nat} {φ : Fr} {σ : St} {r : X × Fr × St} : ExL C callF n a m φ σ r → ExG C callF n (.loop a) φ σ r
  | blockX {a : Code} {id : Nat} {φ φ1 : Fr} {σ σ1 : St} : ExG C callF n a φ σ (.exit id, φ1, σ1) → ExG C callF n (.block id a) φ σ (.normal, φ1, σ1)
  | blockN {a : Code} {id : Nat} {φ φ1 : Fr} {σ σ1 : St} {x : X} : x ≠ .exit id → ExG C callF n a φ σ (x, φ1, σ1) → ExG C callF n (.block id a) φ σ (x, φ1, σ1)
section
variable {C : Cfg} {w0 : World} {callF : CallF} {n : Nat}
theorem ends_exit {k : K} {x : X} {φ : Fr} {σ : St} {e : Exit} {a : Act} {w : World} (h : Ends w0 k n (x, φ, σ) e a w) : (e = .normal → x = .normal) ∧ (∀ j, e = .exit j → x = .exit j) := by
  cases x with
  | normal => obtain ⟨rfl, _⟩ := h; exact ⟨fun _ => rfl, fun j e => (by cases e)⟩
  | exit id => obtain ⟨rfl, _⟩ := h; exact ⟨fun e => (by cases e), fun j e => (by cases e; rfl)⟩
  | ret => obtain ⟨rfl, _⟩ := h; exact ⟨fun e => (by cases e), fun j e => (by cases e)⟩
  | pan x => obtain ⟨v, k', rfl, _⟩ := h; exact ⟨fun e => (by cases e), fun j e => (by cases e)⟩
theorem ExL.good (hd : DrOk C w0) (hc : CallOk C w0 callF) {a : Code} {m : Nat} {φ : Fr} {σ : St} {r : X × Fr × St} (h : ExL C callF n a m φ σ r) : ∀ {k : K} {act : Act}, Inv w0 σ k → GlobOk C k → FrRel k n φ act →
    ∀ (Q : Exit → Act → World → Prop), (∀ e a' w', Ends w0 k n r e a' w' → Q e a' w') → Code.rounds C.P a Q m act k.w := by
  induction h with
  | @of k φ σ r h => intro k' act hI hg hr Q hQ; exact (exec_good hd hc k).2 a φ σ k' act r h hI hg hr Q hQ
  | gc g _ ih =>
    intro k act hI hg hr Q hQ
    obtain ⟨h1, h2⟩ := hI.gc g
    exact ih h1 (hg.mono h2) (hr.mono h2) Q (fun e a' w' he => hQ e a' w' (he.mono h2))
  | @next m kk φ φ1 σ σ1 r h _ ih =>
    intro k act hI hg hr Q hQ
    rw [rounds_succ]
    refine (exec_good hd hc kk).1 a φ σ k act _ h hI hg hr _ (fun e a' w' he => ?_)
    obtain ⟨rfl, k', rfl, g1, g2, g3⟩ := he
    exact ih g2 (hg.mono g1) g3 Q (fun e a' w' he => hQ e a' w' (he.mono g1))
theorem ExG.good (hd : DrOk C w0) (hc : CallOk C w0 callF) {c : Code} {φ : Fr} {σ : St} {r : X × Fr × St} (h : ExG C callF n c φ σ r) : ∀ {k : K} {act : Act}, Inv w0 σ k → GlobOk C k → FrRel k n φ act →
    ∀ (Q : Exit → Act → World → Prop), (∀ e a' w', Ends w0 k n r e a' w' → Q e a' w') → c.wp C.P Q act k.w := by
  induction h with
  | @of k c φ σ r h => intro k' act hI hg hr Q hQ; exact (exec_good hd hc k).1 c φ σ k' act r h hI hg hr Q hQ
  | gc g _ ih =>
    intro k act hI hg hr Q hQ
    obtain ⟨h1, h2⟩ := hI.gc g
    exact ih h1 (hg.mono h2) (hr.mono h2) Q (fun e a' w' he => hQ e a' w' (he.mono h2))
  | seq _ _ ih1 ih2 =>
    intro k act hI hg hr Q hQ
    refine wp_seq (ih1 hI hg hr _ (fun e a' w' he => ?_))
    obtain ⟨rfl, k', rfl, g1, g2, g3⟩ := he
    exact ih2 g2 (hg.mono g1) g3 Q (fun e a' w' he => hQ e a' w' (he.mono g1))
  | seqX hx _ ih =>
    intro k act hI hg hr Q hQ
    refine wp_seq (ih hI hg hr _ (fun e a' w' he => ?_))
    have hq := hQ e a' w' he
    cases e with
    | normal => exact absurd ((ends_exit he).1 rfl) hx
    | _ => exact hq
  | @loop a m φ σ r h => intro k act hI hg hr Q hQ; exact wp_loop_rounds m (h.good hd hc hI hg hr Q hQ)
  | blockX _ ih =>
    intro k act hI hg hr Q hQ
    refine wp_block (ih hI hg hr _ (fun e a' w' he => ?_))
    obtain ⟨rfl, he⟩ := he
    simp only [Exit.inBlock, if_true]
    exact hQ _ _ _ ⟨rfl, he⟩
  | @blockN a id φ φ1 σ σ1 x hx _ ih =>
    intro k act hI hg hr Q hQ
    refine wp_block (ih hI hg hr _ (fun e a' w' he => ?_))
    have hq := hQ e a' w' he
    cases e with
    | exit j =>
      have := (ends_exit he).2 j rfl
      have hj : j ≠ id := by rintro rfl; exact hx this
      simp only [Exit.inBlock, if_neg hj]
      exact hq
    | _ => exact hq
/-- what a call comes to at one place -/
def CallPt (C : Cfg) (w0 : World) (f : FuncId) (args : List A) (σ : St) (out : Out) (σ' : St) : Prop := ∀ (k : K) (us : List Value), Inv w0 σ k → GlobOk C k → RelL k args us → Calls C.P f us.toArray k.w (OutPost w0 k out σ')
theorem CallPt.gc {f : FuncId} {args : List A} {σ σ' σ1 : St} {x : A} (h : CallPt C w0 f args σ (.ret x) σ') (g : Gc σ' σ1) : CallPt C w0 f args σ (.ret x) σ1 := by
  intro k us hI hg hr
  refine (h k us hI hg hr).mono (fun e w he => ?_)
  obtain ⟨k', v, h1, h2, h3, h4, h5⟩ := he
  obtain ⟨g1, g2⟩ := h4.gc g
  exact ⟨k'.keep σ1, v, h1, h2, h3.trans g2, g1, h5.mono g2⟩
theorem callPt_of (hd : DrOk C w0) (hc : CallOk C w0 callF) {f : FuncId} {fn : Func} {c : Code} (hf : C.P.funcs[f]? = some fn) (hb : fn.body = some c) {args : List A} (hl : args.length ≤ fn.ntmps) {σ σ2 : St} {x : X} {φ : Fr} {l : List A}
    (h : ExG C callF fn.ntmps c ⟨argFr 0 args, []⟩ σ (x, φ, σ2)) (hx : x = .normal ∨ x = .ret) (hds : φ.ds = []) (hres : resA C φ σ2 fn.results.toList = some l) : CallPt C w0 f args σ (.ret (oneOrTup l)) σ2 := by
  intro k us hI hg hr
  refine calls_of_wp_defers hf hb (h.good hd hc hI hg (enter_good hr hl) _ (fun e a' w' he => ?_))
  have fin : ∀ (k' : K), k'.w = w' → k.le k' → Inv w0 σ2 k' → FrRel k' fn.ntmps φ a' → Leaves C.P fn a'.tmps (OutPost w0 k (.ret (oneOrTup l)) σ2) a'.defers .returning w' := by
    rintro k' rfl g1 g2 g3
    refine leave_good (p'' := none) hd hc (fuel := 0) [] a'.defers σ2 σ2 none k' .returning rfl g2 (hg.mono g1) (by have := g3.ds; rw [hds] at this; exact this) rfl (fun k2 u2 e1 e2 e3 => ?_)
    have : u2 = .returning := e3
    subst this
    obtain ⟨v, q1, q2⟩ := results_good (C := C) e2 (fun t => (g3.slot t).mono e1) hres
    exact ⟨v, q1, k2, v, rfl, rfl, g1.trans e1, e2, q2⟩
  rcases hx with rfl | rfl
  · obtain ⟨rfl, k', h1, g1, g2, g3⟩ := he; exact fin k' h1 g1 g2 g3
  · obtain ⟨rfl, k', h1, g1, g2, g3⟩ := he; exact fin k' h1 g1 g2 g3
end
/-- a call, the calls in it being given -/
noncomputable def call1 (C : Cfg) (callF : CallF) (k : Nat) (f : FuncId) (args : List A) (σ : St) : Option (Out × St) :=
    match C.prim f with
    | some g => match g args σ with
      | some (x, σ') => some (.ret x, σ')
      | none => none
    | none => match C.P.funcs[f]? with
      | some fn => match fn.body with
        | some c => if args.length ≤ fn.ntmps then
            match exec C callF fn.ntmps (k + 1) c ⟨argFr 0 args, []⟩ σ with
            | some (.normal, φ, σ') | some (.ret, φ, σ') => match leave C callF (k + 1) φ.ds σ' none with
              | some (σ'', none) => match resA C φ σ'' fn.results.toList with
                | some l => some (.ret (oneOrTup l), σ'')
                | none => none
              | _ => none
            | some (.pan x, φ, σ') => match leave C callF (k + 1) φ.ds σ' (some x) with
              | some (σ'', none) => match resA C φ σ'' fn.results.toList with
                | some l => some (.ret (oneOrTup l), σ'')
                | none => none
              | some (σ'', some y) => some (.pan y, σ'')
              | none => none
            | _ => none
          else none
        | none => none
      | none => none
section
variable {C : Cfg} {w0 : World} {callF : CallF} {n : Nat}
theorem call1_good (hd : DrOk C w0) (hpr : PrimOk C w0) (hc : CallOk C w0 callF) (fuel : Nat) : CallOk C w0 (call1 C callF fuel) := by
    intro f args σ out σ' k us h hI hg hr
    simp only [call1] at h
    split at h
    · rename_i g hgp
      split at h
      · rename_i x σ2 h1
        cases h
        exact hpr f g args σ _ x k us hgp h1 hI hg hr
      · cases h
    split at h
    case h_2 => cases h
    rename_i fn hf
    split at h
    case h_2 => cases h
    rename_i c hb
    split at h
    case isFalse => cases h
    rename_i hl
    have fin : ∀ (φ : Fr) (σ2 : St) (p : Option A), (match leave C callF (fuel + 1) φ.ds σ2 p with
        | some (σ'', none) => match resA C φ σ'' fn.results.toList with
          | some l => some (Out.ret (oneOrTup l), σ'')
          | none => none
        | some (σ'', some y) => some (.pan y, σ'')
        | none => none) = some (out, σ') → ∀ (k' : K) (a : Act) (u : FrameMode), k.le k' → Inv w0 σ2 k' → FrRel k' fn.ntmps φ a → PSet k' p u → Leaves C.P fn a.tmps (OutPost w0 k out σ') a.defers u k'.w := by
      intro φ σ2 p h k' a u g1 g2 g3 g4
      split at h
      · rename_i σ3 hlv
        refine leave_good hd hc φ.ds a.defers σ2 σ3 p none k' u hlv g2 (hg.mono g1) g3.ds g4 (fun k2 u2 e1 e2 e3 => ?_)
        have : u2 = .returning := e3
        subst this
        split at h
        · rename_i l hres
          cases h
          obtain ⟨v, q1, q2⟩ := results_good (C := C) e2 (fun t => (g3.slot t).mono e1) hres
          exact ⟨v, q1, k2, v, rfl, rfl, g1.trans e1, e2, q2⟩
        · cases h
      · rename_i σ3 y hlv
        cases h
        refine leave_good hd hc φ.ds a.defers σ2 σ' p (some y) k' u hlv g2 (hg.mono g1) g3.ds g4 (fun k2 u2 e1 e2 e3 => ?_)
        obtain ⟨v, rfl, hv⟩ := e3
        exact ⟨k2, v, rfl, rfl, g1.trans e1, e2, hv⟩
      · cases h
    have weak : ∀ (φ : Fr) (σ2 : St), (match leave C callF (fuel + 1) φ.ds σ2 none with
        | some (σ'', none) => match resA C φ σ'' fn.results.toList with
          | some l => some (Out.ret (oneOrTup l), σ'')
          | none => none
        | _ => none) = some (out, σ') → (match leave C callF (fuel + 1) φ.ds σ2 none with
        | some (σ'', none) => match resA C φ σ'' fn.results.toList with
          | some l => some (Out.ret (oneOrTup l), σ'')
          | none => none
        | some (σ'', some y) => some (.pan y, σ'')
        | none => none) = some (out, σ') := by
      intro φ σ2 h
      split at h
      · rename_i σ3 hlv; rw [hlv]; exact h
      · cases h
    refine calls_of_wp_defers hf hb ?_
    split at h
    · rename_i φ σ2 h1
      refine (exec_good hd hc (fuel + 1)).1 c _ σ k _ _ h1 hI hg (enter_good hr hl) _ (fun e a' w' he => ?_)
      obtain ⟨rfl, k', rfl, g1, g2, g3⟩ := he
      exact fin φ σ2 none (weak φ σ2 h) k' a' .returning g1 g2 g3 rfl
    · rename_i φ σ2 h1
      refine (exec_good hd hc (fuel + 1)).1 c _ σ k _ _ h1 hI hg (enter_good hr hl) _ (fun e a' w' he => ?_)
      obtain ⟨rfl, k', rfl, g1, g2, g3⟩ := he
      exact fin φ σ2 none (weak φ σ2 h) k' a' .returning g1 g2 g3 rfl
    · rename_i x φ σ2 h1
      refine (exec_good hd hc (fuel + 1)).1 c _ σ k _ _ h1 hI hg (enter_good hr hl) _ (fun e a' w' he => ?_)
      obtain ⟨v, k', rfl, rfl, g1, g2, g3, g4⟩ := he
      exact fin φ σ2 (some x) h k' a' _ g1 g2 g3 ⟨v, rfl, g4⟩
    · cases h
/-- a table of calls, each at one place -/
structure CallFact where
  f : FuncId
  args : List A
  σ : St
  x : A
  σ' : St
def blkB : Blk → Blk → Bool
  | .cells cs e, .cells cs' e' => beqs cs cs' && Nat.beq e e'
  | _, _ => false
def trB {α : Type} (b : α → α → Bool) : Tr α → Tr α → Bool
  | .nil, .nil => true
  | .node l v r, .node l' v' r' => (match v, v' with | none, none => true | some x, some y => b x y | _, _ => false) && (trB b l l' && trB b r r')
  | _, _ => false
def stB (σ τ : St) : Bool := Nat.beq σ.next τ.next && (Nat.beq σ.nextT τ.nextT && (trB blkB σ.blks τ.blks && trB Nat.beq σ.toks τ.toks))
theorem trB_eq {α : Type} {b : α → α → Bool} (hb : ∀ x y, b x y = true → x = y) : ∀ {t u : Tr α}, trB b t u = true → t = u
  | .nil, .nil, _ => rfl
  | .nil, .node .., h => by cases h
  | .node .., .nil, h => by cases h
  | .node l v r, .node l' v' r', h => by
    simp only [trB, Bool.and_eq_true] at h
    obtain ⟨h1, h2, h3⟩ := h
    rw [trB_eq hb h2, trB_eq hb h3]
    cases v <;> cases v' <;> first | rfl | (cases h1; done) | (rw [hb _ _ h1])
theorem blkB_eq : ∀ x y, blkB x y = true → x = y
  | .cells cs e, .cells cs' e', h => by
    simp only [blkB, Bool.and_eq_true] at h
    rw [beqs_eq _ _ h.1, Nat.eq_of_beq_eq_true h.2]
  | .cells .., .siter .., h => by cases h
  | .cells .., .map .., h => by cases h
  | .siter .., _, h => by cases h
  | .map .., _, h => by cases h
theorem stB_eq {σ τ : St} (h : stB σ τ = true) : σ = τ := by
  simp only [stB, Bool.and_eq_true] at h
  obtain ⟨h1, h2, h3, h4⟩ := h
  cases σ; cases τ
  simp only at h1 h2 h3 h4
  rw [Nat.eq_of_beq_eq_true h1, Nat.eq_of_beq_eq_true h2, trB_eq blkB_eq h3, trB_eq (fun x y h => Nat.eq_of_beq_eq_true h) h4]
def callT (T : CallFact) (callF : CallF) : CallF := fun f args σ => bif Nat.beq f T.f && (beqs args T.args && stB σ T.σ) then some (.ret T.x, T.σ') else callF f args σ
theorem callT_ok {T : CallFact} (hT : CallPt C w0 T.f T.args T.σ (.ret T.x) T.σ') (hc : CallOk C w0 callF) : CallOk C w0 (callT T callF) := by
  intro f args σ out σ' k us h hI hg hr
  unfold callT at h
  cases hb : Nat.beq f T.f && (beqs args T.args && stB σ T.σ) with
  | false => rw [hb] at h; exact hc f args σ out σ' k us h hI hg hr
  | true =>
    rw [hb] at h
    simp only [Bool.and_eq_true] at hb
    cases h
    have e1 := Nat.eq_of_beq_eq_true hb.1
    have e2 := beqs_eq _ _ hb.2.1
    have e3 := stB_eq hb.2.2
    subst e1; subst e2; subst e3
    exact hT k us hI hg hr
/-- a closed call, wherever it is made -/
theorem closed_pt {σ : St} {k : K} (hI : Inv w0 σ k) (hg : GlobOk C k) (hgp : ∀ g a, C.glob g = some a → pureA a = true) {f : FuncId} {args : List A} {us : List Value} {x : A} {σ1 : St}
    (h : CallPt C k.w f (stripL args) σ0 (.ret x) σ1) (ha : pureL (stripL args) = true) (hx : pureA (strip x) = true) (hr : RelL k args us) : Calls C.P f us.toArray k.w (OutPost w0 k (.ret (strip x)) σ) := by
  have same : ∀ c n, k.frz c = some n → ∃ n', n ≤ n' ∧ k.fresh.frz c = some n' := fun c n h => ⟨n, Nat.le_refl _, h⟩
  refine (h k.fresh us hI.fresh (fun g a e => (hg g a e).pure same (fun _ _ _ _ _ => rfl) (hgp g a e)) (hr.strip.pure same (fun _ _ _ _ _ => rfl) ha)).mono (fun e w' he => ?_)
  obtain ⟨k1, v, h1, h2, h3, h4, h5⟩ := he
  obtain ⟨g1, g2⟩ := hI.back h4
  exact ⟨k.back k1, v, h1, h2, g2, g1, h5.strip.pure (fun c n hf => ⟨n, Nat.le_refl _, back_frz hI h3 hf⟩) (fun _ _ _ _ _ => rfl) hx⟩
/-- one more function by hand: at these data -/
def Cfg.add (C : Cfg) (f : FuncId) (lit : List A) (x : A) : Cfg := { C with prim := fun h => bif Nat.beq h f then some (fun args σ => bif beqs (stripL args) lit then some (x, σ) else none) else C.prim h }
/-- the functions by hand are right in all worlds of a kind -/
def PrimsOk (C : Cfg) (G : World → Prop) : Prop := ∀ w, G w → PrimOk C w
theorem PrimsOk.add {G : World → Prop} (hG : ∀ w w', G w → Below w.heap.size w w' → G w') (hp : PrimsOk C G) (hgp : ∀ g a, C.glob g = some a → pureA a = true) {f : FuncId} {lit : List A} {x : A} {σ1 : St}
    (h : ∀ w, G w → CallPt C w f lit σ0 (.ret x) σ1) (ha : pureL lit = true) (hx : pureA (strip x) = true) : PrimsOk (C.add f lit (strip x)) G := by
  intro w hw f' g args σ σ' y k us hf hg hI hgl hr
  simp only [Cfg.add] at hf
  cases hb : Nat.beq f' f with
  | false =>
    rw [hb] at hf
    exact hp w hw f' g args σ σ' y k us hf hg hI hgl hr
  | true =>
    rw [hb] at hf
    have e1 := Nat.eq_of_beq_eq_true hb
    subst e1
    cases hf
    have hg : (bif beqs (stripL args) lit then some (strip x, σ) else none) = some (y, σ') := hg
    cases hq : beqs (stripL args) lit with
    | false => rw [hq] at hg; cases hg
    | true =>
      rw [hq] at hg
      cases hg
      have e2 := beqs_eq _ _ hq
      subst e2
      exact closed_pt (C := C) hI hgl hgp (h k.w (hG w k.w hw hI.below)) ha hx hr
end
end Go.DM
