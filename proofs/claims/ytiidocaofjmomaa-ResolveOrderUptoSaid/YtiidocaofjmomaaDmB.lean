/- This text proves the D-machine's operations sound against the model's: places, slices, append, literals. No condition. -/
import Derived.Test.YtiidocaofjmomaaDmA
namespace Go.DM
open Go Go.RowKit

section
variable {P : Program} {w0 : World} {σ σ' : St} {k : K}

theorem ofVal1_ne {x : Value} {a : A} (h : ofVal1 x = some a) : a ≠ .junk := by
  rintro rfl
  unfold ofVal1 at h
  split at h
  · split at h <;> cases h
  · split at h <;> cases h
  · unfold ofScal at h; split at h <;> cases h
theorem zeroOf_good {t : TypeId} {cs : List A} (h : zeroOf P t = some cs) : ∃ i z us, P.info? t = some i ∧ i.zero = some z ∧ z.cells = us.toArray ∧ RelL k cs us := by
  unfold zeroOf at h
  split at h
  · rename_i i hi
    split at h
    · rename_i z hz
      split at h
      · rename_i a ha
        cases h
        exact ⟨i, z, z.cells.toList, hi, hz, by simp, (ofVal1_rel ha).cells (ofVal1_ne ha)⟩
      · cases h
    · cases h
  · cases h
theorem zeroA_good {t : TypeId} {a : A} (h : zeroA P t = some a) : ∃ i z, P.info? t = some i ∧ i.zero = some z ∧ Rel k a z := by
  unfold zeroA at h
  split at h
  · rename_i i hi
    split at h
    · rename_i z hz
      exact ⟨i, z, hi, hz, ofVal1_rel h⟩
    · cases h
  · cases h
theorem run_zeroValue' {w : World} {t : TypeId} {i : TypeInfo} {z : Value} (hi : P.info? t = some i) (hz : i.zero = some z) : (zeroValue t).run P w = .ok z w := by
  simp [zeroValue, typeInfo, hi, hz]
theorem sizeOfT_some {t : TypeId} {n : Nat} (h : sizeOfT P t = some n) : ∃ i, P.info? t = some i ∧ i.size = n := by
  unfold sizeOfT at h
  cases hi : P.info? t with
  | none => simp [hi] at h
  | some i => simp [hi] at h; exact ⟨i, rfl, h⟩
theorem run_sizeOfT {w : World} {t : TypeId} {n : Nat} (h : sizeOfT P t = some n) : (sizeOf t).run P w = .ok n w := by
  obtain ⟨i, h1, h2⟩ := sizeOfT_some h
  rw [run_sizeOf' h1, h2]

/-- a new block of the machine's own, by its cells -/
theorem new_good (hI : Inv w0 σ k) {cs : List A} {us : List Value} (e : TypeId) (h : RelL k cs us) :
    ∃ k', (newRow e us.toArray).run P k.w = .ok ⟨k.w.heap.size, 0, none⟩ k'.w ∧ Rel k' (.ptr σ.next 0) (.pointer (some ⟨k.w.heap.size, 0, none⟩)) ∧ Inv w0 (σ.push (.cells cs e)) k' ∧ k.le k' := by
  obtain ⟨h1, h2, h3⟩ := hI.push (x := .cells cs e) (o := .cells us.toArray e) (.of h)
  exact ⟨_, by simp [newRow, K.push], .ptr h3, h1, h2⟩

theorem Rel.spShift {cs : List A} {o c x : Nat} {ap : Ap} (h : Rel k (.sp cs o ap) (.pointer (some ⟨c, x, none⟩))) (d : Nat) : Rel k (.sp cs (o + d) .no) (.pointer (some ⟨c, x + d, none⟩)) := by
  cases h with
  | sp u a b e f g =>
    rw [Nat.add_assoc]
    exact .sp u a b e f trivial
theorem Rel.spInv {cs : List A} {o : Nat} {ap : Ap} {u : Value} (h : Rel k (.sp cs o ap) u) : ∃ c x, u = .pointer (some ⟨c, x, none⟩) := by
  cases h; exact ⟨_, _, rfl⟩
theorem Rel.slInv {sz : Nat} {cs : List A} {ap : Ap} {u : Value} (h : Rel k (.sl sz cs ap) u) : ∃ a cap, u = .slice (some a) (cs.length / sz) cap := by
  cases h with
  | sl u a b e f g => exact ⟨_, _, rfl⟩
  | @sl0 _ cap ad hz => exact ⟨ad, cap, by simp⟩
theorem Rel.slInv' {sz : Nat} {cs : List A} {ap : Ap} {u : Value} (h : Rel k (.sl sz cs ap) u) (hne : cs ≠ []) : ∃ c i cap, u = .slice (some ⟨c, i, none⟩) (cs.length / sz) cap ∧ Rel k (.sp cs 0 .no) (.pointer (some ⟨c, i, none⟩)) := by
  cases h with
  | sl u a b e f g => exact ⟨_, _, _, rfl, .sp (o := 0) u a b e f trivial⟩
  | sl0 hz => exact absurd rfl hne

theorem fieldOp_good {s : TypeId} {x a : A} {u : Value} {f : Nat} (hx : Rel k x u) (h : fieldOp P s x f = some a) : ∃ v, (Instr.fieldAt s u f).run P k.w = .ok v k.w ∧ Rel k a v := by
  unfold fieldOp at h
  split at h
  · rename_i fs hu
    split at h
    · rename_i fd hf
      split at h
      · rename_i n hn
        split at h
        · cases h
        · rename_i hn0
          have hp : ∀ c i, (fieldPlace ⟨c, i, none⟩ fd).run P k.w = .ok ⟨c, i + fd.offset, none⟩ k.w := fun c i => by
            simp [fieldPlace, run_sizeOfT hn, hn0, addr_add]
          split at h
          · cases h
            cases hx with
            | ptr hb => exact ⟨_, by simp [Instr.fieldAt, run_underlying hu, hf, Instr.sureAddr, hp], .ptr hb⟩
          · cases h
            obtain ⟨c, x, rfl⟩ := hx.spInv
            exact ⟨_, by simp [Instr.fieldAt, run_underlying hu, hf, Instr.sureAddr, hp], hx.spShift fd.offset⟩
          · cases h
      · cases h
    · cases h
  · cases h

theorem rel_v_inv {x u : Value} (h : Rel k (.v x) u) : u = x := by cases h; rfl
theorem ms_slice {_len _cap _c _o : Nat} : True := trivial

theorem indexAddrOp_good {t : TypeId} {x i a : A} {u iv : Value} (hx : Rel k x u) (hi : Rel k i iv) (h : indexAddrOp P t x i = some a) : ∃ v, (Instr.indexAt t u iv).run P k.w = .ok v k.w ∧ Rel k a v := by
  unfold indexAddrOp at h
  split at h
  · rename_i kd n e hu
    rw [rel_v_inv hi]
    split at h
    · rename_i sz hs
      split at h
      · split at h
        · rename_i hc
          obtain ⟨hsz', hz, h0, h1⟩ := hc
          subst hsz'
          cases h
          obtain ⟨c, i, cap, rfl, hx'⟩ := hx.slInv' (fun e => by rw [e] at h1; simp at h1; omega)
          refine ⟨_, ?_, by simpa using hx'.spShift (n.toNat * _)⟩
          simp only [Instr.indexAt, asIntOf, Sem.run_bind, Sem.run_pure, run_underlying hu, Result.andThen_ok]
          rw [if_pos ⟨h0, h1⟩]
          simp [run_sizeOfT hs, addr_add]
        · cases h
      · split at h
        · rename_i hc
          obtain ⟨h0, h1⟩ := hc
          cases h
          obtain ⟨c, cap', rfl, hb, _, _⟩ := hx.msInv
          · refine ⟨_, ?_, .ptr hb⟩
            simp [Instr.indexAt, asIntOf, run_underlying hu, run_sizeOfT hs, h0, h1, addr_add]
        · cases h
      · cases h
    · cases h
  · rename_i kd n len e hu
    rw [rel_v_inv hi]
    split at h
    · rename_i sz hs
      split at h
      · rename_i hc
        obtain ⟨h0, h1⟩ := hc
        split at h
        · cases h
          cases hx with
          | ptr hb =>
            refine ⟨_, ?_, .ptr hb⟩
            simp [Instr.indexAt, Instr.sureAddr, asIntOf, run_underlying hu, run_sizeOfT hs, h0, h1, addr_add]
        · cases h
          obtain ⟨c, y, rfl⟩ := hx.spInv
          refine ⟨_, ?_, hx.spShift (n.toNat * sz)⟩
          simp [Instr.indexAt, Instr.sureAddr, asIntOf, run_underlying hu, run_sizeOfT hs, h0, h1, addr_add]
        · cases h
      · cases h
    · cases h
  · cases h

theorem partA_good {t : TypeId} {cs : List A} {us : List Value} {off : Nat} {a : A} (hr : RelL k cs us) (h : partA P t cs off = some a) : ∃ v, (part t us.toArray off).run P k.w = .ok v k.w ∧ Rel k a v := by
  unfold partA at h
  split at h
  · rename_i i ha hi
    split at h
    · rename_i hb
      cases h
      refine ⟨.agg ((us.drop off).take i.size).toArray, ?_, relL_toArray ((hr.drop off).take i.size)⟩
      simp [part, run_isAgg' ha, run_sizeOf' hi, List.extract_eq_take_drop]
    · cases h
  · rename_i ha
    obtain ⟨u, h1, h2⟩ := hr.get h
    exact ⟨u, by simp [part, run_isAgg' ha, h1], h2⟩
  · cases h
theorem fieldVal_good {t : TypeId} {x a : A} {u : Value} {f : Nat} (hx : Rel k x u) (h : fieldVal P t x f = some a) : ∃ v, (Instr.field t u f).run P k.w = .ok v k.w ∧ Rel k a v := by
  unfold fieldVal at h
  split at h
  · rename_i fs cs hu
    split at h
    · rename_i fd hf
      cases hx with
      | agg h1 h2 =>
        obtain ⟨v, g1, g2⟩ := partA_good (P := P) (k := k) ⟨h1, h2⟩ h
        exact ⟨v, by simp [Instr.field, run_underlying hu, hf, asAgg, g1], g2⟩
    · cases h
  · cases h
theorem indexVal_good {t : TypeId} {x i a : A} {u iv : Value} (hx : Rel k x u) (hi : Rel k i iv) (h : indexVal P t x i = some a) : ∃ v, (Instr.index t u iv).run P k.w = .ok v k.w ∧ Rel k a v := by
  unfold indexVal at h
  split at h
  · rename_i kd n len e cs hu
    rw [rel_v_inv hi]
    split at h
    · rename_i sz hs
      split at h
      · rename_i hc
        obtain ⟨h0, h1⟩ := hc
        cases hx with
        | agg g1 g2 =>
          obtain ⟨v, g3, g4⟩ := partA_good (P := P) (k := k) ⟨g1, g2⟩ h
          exact ⟨v, by simp [Instr.index, asIntOf, run_underlying hu, run_sizeOfT hs, h0, h1, g3], g4⟩
      · cases h
    · cases h
  · cases h

/-- a block of the machine's own turned in part -/
theorem Inv.storeRow (hI : Inv w0 σ k) {b c o : Nat} {cs xs : List A} {vs : List Value} {e : TypeId} (hc : σ.cells b = some (cs, e)) (hb : k.blk b = some c) (hx : RelL k xs vs) (ho : o + xs.length ≤ cs.length) :
    ∃ (us : List Value) (e' : TypeId), k.w.heap[c]? = some (.cells us.toArray e' (0, 0)) ∧ cs.length ≤ us.length ∧ w0.heap.size ≤ c ∧
      Inv w0 (σ.put b (.cells (splice cs o xs) e)) (k.wd (k.w.setRow c (us.take o ++ vs ++ us.drop (o + vs.length)).toArray)) ∧ k.le (k.wd (k.w.setRow c (us.take o ++ vs ++ us.drop (o + vs.length)).toArray)) := by
  obtain ⟨_, hg, us, ws, e', h4, h5, h6, h7⟩ := hI.cellsAt hc hb
  have hl := hx.1
  have hl2 := h5.1
  have e1 : (us ++ ws).take o = us.take o := List.take_append_of_le_length (by omega)
  have e2 : (us ++ ws).drop (o + vs.length) = us.drop (o + vs.length) ++ ws := List.drop_append_of_le_length (by omega)
  refine ⟨us ++ ws, e', h4, by rw [List.length_append]; omega, h6, ?_⟩
  rw [e1, e2, ← List.append_assoc]
  have hsp := RelL.splice h5 hx o
  refine hI.setRow hg hb h4 ⟨_, ws, e', rfl, h7, hsp⟩ ?_
  simp only [List.length_append, List.length_take, List.length_drop]
  omega
theorem storeOp_good (hI : Inv w0 σ k) {t : TypeId} {a x : A} {u v : Value} (ha : Rel k a u) (hx : Rel k x v) (h : storeOp P t a x σ = some σ') :
    ∃ k', (Instr.storeAt t u v).run P k.w = .ok () k'.w ∧ Inv w0 σ' k' ∧ k.le k' := by
  unfold storeOp at h
  split at h
  · rename_i b o
    split at h
    · rename_i cs e n hc hn
      split at h
      · rename_i hq
        obtain ⟨h1, h2, h3⟩ := hq
        cases h
        cases ha with
        | ptr hb =>
          rename_i c
          have hxc := hx.cells (allOne_ne_junk h2)
          have hlen : v.cells.toList.length = n := by rw [← hxc.1, h1]
          obtain ⟨us, e', h4, h5, _, g1, g2⟩ := hI.storeRow hc hb hxc (by rw [h1]; exact h3)
          have hrun := run_stores P c e' 0 0 v.cells.toList o 0 us k.w h4 (by rw [hlen]; omega) (allOne_mem hxc h2) (.inl rfl)
          refine ⟨_, ?_, g1, g2⟩
          simp only [Nat.add_zero] at hrun
          have hsz : v.cells.size = n := by simpa using hlen
          simp [Instr.storeAt, Instr.sureAddr, storeVar, run_sizeOfT hn, hsz, hrun, K.wd]
      · cases h
    · cases h
  · cases h

theorem asNat_some {a : A} {n : Nat} (h : asNat a = some n) : ∃ kd i, a = .v (.int kd i) ∧ 0 ≤ i ∧ i.toNat = n := by
  unfold asNat at h
  split at h
  · rename_i kd i
    split at h
    · rename_i h0; cases h; exact ⟨kd, i, rfl, h0, rfl⟩
    · cases h
  · cases h

def OptRel (k : K) : Option A → Option Value → Prop
  | none, none => True
  | some a, some u => Rel k a u
  | _, _ => False

theorem run_bound {w : World} {kd : IntKind} {i : Int} {y : Nat} {code : BoundsCode} (h0 : 0 ≤ i) (h1 : i.toNat ≤ y) : (Instr.sliceBound (.int kd i) y code).run P w = .ok i.toNat w := by
  have : i ≤ (y : Int) := by omega
  simp [Instr.sliceBound, asIntOf, h0, this]

theorem bounds_good {w : World} {n cap : Nat} {lo hi : Option A} {lv hv : Option Value} {l h : Nat} {isS : Bool} (hl : OptRel k lo lv) (hh : OptRel k hi hv) (hn : n ≤ cap) (hb : bounds n lo hi = some (l, h)) :
    (Instr.sliceBounds isS n cap lv hv none).run P w = .ok (l, h, cap) w ∧ l ≤ h ∧ h ≤ n := by
  have step : ∀ (x : Option A) (xv : Option Value) (d y : Nat), OptRel k x xv → (match x with | none => some d | some a => asNat a) = some y → (xv = none ∧ y = d) ∨ ∃ kd i, xv = some (.int kd i) ∧ 0 ≤ i ∧ i.toNat = y := by
    intro x xv d y hx hm
    cases x with
    | none => cases xv with
      | none => simp at hm; exact .inl ⟨rfl, hm.symm⟩
      | some _ => exact absurd hx id
    | some a => cases xv with
      | none => exact absurd hx id
      | some v =>
        simp only at hm
        obtain ⟨kd, i, rfl, h0, h1⟩ := asNat_some hm
        obtain rfl := rel_v_inv hx
        exact .inr ⟨kd, i, rfl, h0, h1⟩
  unfold bounds at hb
  split at hb
  · cases hb
  · rename_i h' hhv
    split at hb
    · rename_i hle
      split at hb
      · cases hb
      · rename_i l' hlv
        split at hb
        · rename_i hlh
          cases hb
          refine ⟨?_, hlh, hle⟩
          rcases step lo lv 0 l hl hlv with ⟨rfl, rfl⟩ | ⟨kd, i, rfl, h0, h1⟩ <;> rcases step hi hv n h hh hhv with ⟨rfl, e2⟩ | ⟨kd', i', rfl, h0', h1'⟩
          · subst e2; simp [Instr.sliceBounds]
          · subst h1'; simp [Instr.sliceBounds, run_bound h0' (show i'.toNat ≤ cap by omega)]
          · subst e2; subst h1; simp [Instr.sliceBounds, run_bound h0 hlh]
          · subst h1'; subst h1; simp [Instr.sliceBounds, run_bound h0' (show i'.toNat ≤ cap by omega), run_bound h0 hlh]
        · cases hb
    · cases hb

theorem mul_le_of_div {m sz x : Nat} (h : m = m / sz * sz) (hx : x ≤ m / sz) : x * sz ≤ m := by
  rw [h]; exact Nat.mul_le_mul_right _ hx

theorem sliceOp_good (hI : Inv w0 σ k) {t : TypeId} {x a : A} {u : Value} {lo hi : Option A} {lv hv : Option Value} (hx : Rel k x u) (hl : OptRel k lo lv) (hh : OptRel k hi hv) (h : sliceOp P t x lo hi σ = some (a, σ')) :
    ∃ k' v, (Instr.sliceAt t u lv hv none).run P k.w = .ok v k'.w ∧ Rel k' a v ∧ Inv w0 σ' k' ∧ k.le k' := by
  unfold sliceOp at h
  split at h
  · rename_i e sz cs ap hu
    split at h
    · rename_i hsz
      obtain ⟨hs, hz⟩ := hsz
      split at h
      · rename_i l h' hb
        cases h
        cases hx with
        | @sl _ _ _ c i n cap f h1 h2 h3 h4 h5 h6 h7 h8 =>
          obtain ⟨g1, g2, g3⟩ := bounds_good (P := P) (w := k.w) (isS := true) hl hh h7 hb
          have hm := mul_le_of_div h6 g3
          have hlm : l * sz ≤ h' * sz := Nat.mul_le_mul_right _ g2
          have hlen : ((cs.drop (l * sz)).take ((h' - l) * sz)).length = (h' - l) * sz := by
            rw [List.length_take, List.length_drop, Nat.sub_mul]; omega
          have hdiv : ((cs.drop (l * sz)).take ((h' - l) * sz)).length / sz = h' - l := by rw [hlen, Nat.mul_div_cancel _ hz]
          have hrun : (Instr.sliceAt t (.slice (some ⟨c, i, none⟩) (cs.length / sz) cap) lv hv none).run P k.w = .ok (.slice (if cap = l then some ⟨c, i, none⟩ else some ⟨c, i + l * sz, none⟩) (h' - l) (cap - l)) k.w := by
            simp only [Instr.sliceAt, Sem.run_bind, run_underlying hu, Result.andThen_ok, Instr.slice]
            rw [g1]
            simp [run_sizeOfT hs, addr_add]
          have hsub : ∀ (j : Nat) (a : A), ((cs.drop (l * sz)).take ((h' - l) * sz))[j]? = some a → cs[l * sz + j]? = some a := by
            intro j a ha
            rw [List.getElem?_take] at ha
            split at ha
            · rwa [List.getElem?_drop] at ha
            · cases ha
          by_cases hcl : cap = l
          · have e0 : h' - l = 0 := by omega
            have hnil : (cs.drop (l * sz)).take ((h' - l) * sz) = [] := by rw [e0]; simp
            rw [if_pos hcl] at hrun
            refine ⟨k, _, hrun, ?_, hI, K.le.refl k⟩
            rw [hnil]
            have hc0 : cap - l = 0 := by omega
            rw [e0, hc0]
            have h00 : ([] : List A).length / sz = 0 := by simp
            rw [← h00]
            refine .sl (fun _ => undef) h1 (by simp; omega) (fun j a ha => by simp at ha) (fun j a ha => by simp at ha) hz (by simp) (by simp) ?_
            split
            · cases ap with
              | no => trivial
              | ex => exact ⟨by simp, h8.2⟩
              | gr id => exact ⟨h8.1, fun _ => .inl (by simp)⟩
            · trivial
          · rw [if_neg hcl] at hrun
            refine ⟨k, _, hrun, ?_, hI, K.le.refl k⟩
            rw [show (h' - l : Nat) = ((cs.drop (l * sz)).take ((h' - l) * sz)).length / sz from hdiv.symm]
            rw [hdiv]
            have key : Rel k (.sl sz ((cs.drop (l * sz)).take ((h' - l) * sz)) (if h' = cs.length / sz then ap else .no)) (.slice (some ⟨c, i + l * sz, none⟩) (((cs.drop (l * sz)).take ((h' - l) * sz)).length / sz) (cap - l)) := by
              refine .sl (fun j => f (l * sz + j)) h1 (by rw [hlen, Nat.sub_mul]; omega) (fun j a ha => ?_) (fun j a ha => h4 _ a (hsub j a ha)) hz (by rw [hdiv]; exact hlen) (by rw [hdiv]; omega) ?_
              · rw [Nat.add_assoc]; exact h3 _ a (hsub j a ha)
              · split
                · rename_i hfull
                  cases ap with
                  | no => trivial
                  | ex => exact ⟨by rw [hdiv, h8.1]; omega, h8.2⟩
                  | gr id =>
                    refine ⟨h8.1, fun hlv => (h8.2 hlv).imp (fun e => by rw [hdiv]; omega) ?_⟩
                    rintro ⟨e1, cs1, e', fr, e2, e3⟩
                    refine ⟨?_, cs1, e', fr, e2, ?_⟩
                    · rw [e1, hlen, Nat.sub_mul, hfull, ← h6]; congr 1; rw [hfull, ← h6] at hlm; omega
                    · rw [e3, Nat.sub_mul]
                      have : l * sz ≤ cap * sz := Nat.mul_le_mul_right _ (by omega)
                      omega
                · trivial
            rw [hdiv] at key
            exact key
        | @sl0 _ cap ad hz0 =>
          obtain ⟨g1, g2, g3⟩ := bounds_good (P := P) (w := k.w) (isS := true) (n := ([] : List A).length / sz) (cap := cap) hl hh (by simp) hb
          have z0 : ([] : List A).length / sz = 0 := by simp
          rw [z0] at g1 g3
          obtain rfl : h' = 0 := by omega
          obtain rfl : l = 0 := by omega
          refine ⟨k, .slice (some (if cap = 0 then ad else ad.add 0)) 0 cap, ?_, by simpa using Rel.sl0 hz, hI, K.le.refl k⟩
          simp only [Instr.sliceAt, Sem.run_bind, run_underlying hu, Result.andThen_ok, Instr.slice]
          rw [g1]
          by_cases hc : cap = 0
          · simp [run_sizeOfT hs, hc]
          · simp [run_sizeOfT hs, hc]
      · cases h
    · cases h
  · rename_i e b o len cap hu
    split at h
    · rename_i sz l h' hs hb
      split at h
      · rename_i hcx
        split at h
        case isFalse => cases h
        rename_i hq
        obtain ⟨hz, hsz, hlt⟩ := hq
        cases h
        obtain ⟨c, cap', rfl, hbk, hlc, ⟨hlt2, _⟩ | ⟨sz0, arr, e0, fr0, he0, hh0, hs0⟩⟩ := hx.msInv
        · omega
        obtain rfl : sz = sz0 := by omega
        obtain ⟨g1, g2, g3⟩ := bounds_good (P := P) (w := k.w) (isS := true) hl hh hlc hb
        refine ⟨k, .slice (some ⟨c, o + l * sz, none⟩) (h' - l) (cap' - l), ?_, ?_, hI, K.le.refl k⟩
        · simp only [Instr.sliceAt, Sem.run_bind, run_underlying hu, Result.andThen_ok, Instr.slice]
          rw [g1]
          simp [run_sizeOfT hs, addr_add, show cap' ≠ l by omega]
        · rw [hsz]
          refine .mv hbk (by omega) hh0 ?_
          rw [← hs0, Nat.sub_mul, Nat.add_assoc, Nat.add_sub_cancel' (Nat.mul_le_mul_right _ (by omega))]
      rename_i hcx
      split at h
      · rename_i hq
        obtain ⟨hz, rfl, rfl, rfl⟩ := hq
        split at h
        · rename_i cs e' hc
          split at h
          · rename_i hq
            obtain ⟨rfl, hex, hlen⟩ := hq
            cases h
            cases hx with
            | mv _ _ _ _ => exact absurd (Nat.le_add_right _ _) hcx
            | ms hbk hlc hlx =>
              rename_i c
              obtain ⟨g1, _, _⟩ := bounds_good (P := P) (w := k.w) (isS := true) hl hh hlc hb
              obtain ⟨_, hg, us, h4, h5, _⟩ := hI.cellsEx hc hbk hex
              obtain ⟨i1, i2⟩ := hI.seal_ hg hbk hex
              refine ⟨_, .slice (some ⟨c, 0, none⟩) 0 cap, ?_, ?_, i1, i2⟩
              · simp only [Instr.sliceAt, Sem.run_bind, run_underlying hu, Result.andThen_ok, Instr.slice]
                rw [g1]
                simp [run_sizeOfT hs, addr_add, K.seal_]
              · have h00 : ([] : List A).length / sz = 0 := by simp
                have : Rel (k.seal_ c σ.nextT) (.sl sz [] (.gr σ.nextT)) (.slice (some ⟨c, 0, none⟩) (([] : List A).length / sz) cap) := by
                  refine .sl (n := 0) (fun _ => undef) (by simp [K.seal_]) (by simp) (fun j a ha => by simp at ha) (fun j a ha => by simp at ha) hz (by simp) (by simp) ⟨by simp [K.seal_], fun _ => .inr ⟨by simp [K.seal_], us.toArray, e', (0, 0), h4, ?_⟩⟩
                  simp [← h5.1, hlen]
                rw [h00] at this
                exact this
          · cases h
        · cases h
      · split at h
        · rename_i hq
          obtain ⟨hz, hlt⟩ := hq
          cases h
          cases hx with
          | mv _ _ _ _ => exact absurd (Nat.le_add_right _ _) hcx
          | ms hbk hlc hlx =>
            rename_i c
            obtain ⟨g1, g2, g3⟩ := bounds_good (P := P) (w := k.w) (isS := true) hl hh hlc hb
            refine ⟨k, .slice (some ⟨c, o + l * sz, none⟩) (h' - l) (cap - l), ?_, .ms hbk (by omega) (by omega), hI, K.le.refl k⟩
            simp only [Instr.sliceAt, Sem.run_bind, run_underlying hu, Result.andThen_ok, Instr.slice]
            rw [g1]
            simp [run_sizeOfT hs, addr_add, show cap ≠ l by omega]
        · cases h
    · cases h
  · rename_i e id len hu
    split at h
    · rename_i hs hb
      cases h
      cases hx with
      | raw h1 h2 h3 h4 =>
        rename_i c cap
        obtain ⟨g1, _, _⟩ := bounds_good (P := P) (w := k.w) (isS := true) hl hh h2 hb
        obtain ⟨m, hm⟩ := h4
        refine ⟨k, .slice (some ⟨c, 0, none⟩) 0 cap, ?_, ?_, hI, K.le.refl k⟩
        · simp only [Instr.sliceAt, Sem.run_bind, run_underlying hu, Result.andThen_ok, Instr.slice]
          rw [g1]
          simp [run_sizeOfT hs, addr_add]
        · refine .sl (sz := 1) (cs := []) (fun _ => undef) hm (by simp) (fun j a ha => by simp at ha) (fun j a ha => by simp at ha) (by omega) (by simp) (by simp) ⟨h1, fun hlv => .inr ?_⟩
          obtain ⟨q1, cs, e', fr, q2, q3⟩ := h3 hlv
          exact ⟨by simpa using q1, cs, e', fr, q2, by simpa using q3⟩
    · cases h
  · rename_i n e b o hu
    split at h
    · rename_i sz l h' hs hb
      split at h
      · rename_i hq
        obtain ⟨hz, hnx, hlt⟩ := hq
        cases h
        cases hx with
        | ptr hbk =>
          rename_i c
          obtain ⟨g1, g2, g3⟩ := bounds_good (P := P) (w := k.w) (isS := false) hl hh (Nat.le_refl n) hb
          refine ⟨k, .slice (some ⟨c, o + l * sz, none⟩) (h' - l) (n - l), ?_, .ms hbk (by omega) (by omega), hI, K.le.refl k⟩
          simp only [Instr.sliceAt, Instr.sureAddr, Sem.run_bind, run_underlying hu, Result.andThen_ok, Sem.run_pure]
          rw [g1]
          simp [run_sizeOfT hs, addr_add, show n ≠ l by omega]
      · cases h
    · cases h
  · cases h
end
end Go.DM
namespace Go.DM
open Go Go.RowKit

theorem growBy_le (newLen : Nat) : ∀ (r c : Nat), c ≤ 2 * newLen + 1024 → Builtin.growBy newLen r c ≤ 2 * newLen + 1024
  | 0, c, h => h
  | r + 1, c, h => by
    unfold Builtin.growBy
    split
    · exact h
    · exact growBy_le newLen r _ (by omega)
theorem nextslicecap_le {need cap : Nat} (h : cap < need) : Builtin.nextslicecap need cap ≤ 2 * need + 1024 := by
  unfold Builtin.nextslicecap
  split
  · omega
  · split
    · omega
    · exact growBy_le _ _ _ (by omega)

section
variable {P : Program} {w0 : World} {σ σ' : St} {k : K}

theorem bytesOf_rel (s : ByteArray) : RelL k (bytesOf s) (s.data.toList.map fun b => .int .u8 b.toNat) := by
  refine ⟨by simp [bytesOf], fun j a u ha hu => ?_⟩
  simp only [bytesOf, List.getElem?_map, Option.map_eq_some_iff] at ha hu
  obtain ⟨b, h1, rfl⟩ := ha
  obtain ⟨b', h2, rfl⟩ := hu
  rw [h1] at h2; cases h2
  exact rel_int

theorem appended_good (hI : Inv w0 σ k) {sz : Nat} (hz : 0 < sz) {x : A} {u : Value} {new : List A} (hx : Rel k x u) (h : appended σ sz x = some new) :
    ∃ (n : Nat) (us : List Value), (∀ w, (Builtin.lenOf u).run P w = .ok n w) ∧ (Builtin.firstCells sz n u).run P k.w = .ok us.toArray k.w ∧ RelL k new us ∧ new.length = n * sz := by
  unfold appended at h
  split at h
  · cases h
    obtain rfl := rel_v_inv hx
    exact ⟨0, [], fun w => rfl, rfl, RelL.nil k, by simp⟩
  · rename_i s
    split at h
    · rename_i hs
      cases h
      obtain rfl := rel_v_inv hx
      refine ⟨s.size, s.data.toList.map fun b => .int .u8 b.toNat, fun w => rfl, ?_, bytesOf_rel s, by simp [bytesOf, hs]⟩
      simp only [Builtin.firstCells, Sem.run_pure]
      congr 1
      have : s.extract 0 s.size = s := ByteArray.extract_zero_size
      rw [this]
      apply Array.ext'
      simp
    · cases h
  · rename_i sz' cs ap
    split at h
    · rename_i hs
      subst hs
      cases h
      cases hx with
      | @sl _ _ _ c i n cap f h1 h2 h3 h4 h5 h6 h7 h8 =>
        obtain ⟨us, g1, g2⟩ := CellsAt.load (P := P) (k := k) (c := c) (i := i) (cs := new) (fun j a ha => ⟨_, h3 j a ha, h4 j a ha⟩)
        refine ⟨new.length / sz', us, fun w => rfl, ?_, g1, h6⟩
        simp only [Builtin.firstCells]
        rw [← h6]; exact g2
      | sl0 h5 => exact ⟨0, [], fun w => rfl, by simp only [Builtin.firstCells, Nat.zero_mul, loadCells, loadCellsFrom]; rfl, RelL.nil k, by simp⟩
    · cases h
  · rename_i b o len cap
    split at h
    · rename_i cs e hc
      split at h
      · rename_i hle
        cases h
        obtain ⟨c, cap', rfl, hb, _, _⟩ := hx.msInv
        · obtain ⟨g, _⟩ := hI.cellsAt hc hb
          obtain ⟨us, g1, g2⟩ := (g.sub o (len * sz)).load (P := P)
          have hlen : ((cs.drop o).take (len * sz)).length = len * sz := by rw [List.length_take, List.length_drop]; omega
          refine ⟨len, us, fun w => rfl, ?_, g1, hlen⟩
          simp only [Builtin.firstCells]
          rw [hlen, Nat.zero_add] at g2; exact g2
      · cases h
    · cases h
  · cases h

theorem Rel.slFull {sz : Nat} {cs : List A} {ap : Ap} {a : Option Addr} {len cap : Nat} (h : Rel k (.sl sz cs ap) (.slice a len cap)) (hne : cs ≠ [] ∨ ap ≠ .no) : ∃ (c i n : Nat) (f : Nat → Value), a = some ⟨c, i, none⟩ ∧ len = cs.length / sz ∧ k.frz c = some n ∧ i + cs.length ≤ n ∧
    (∀ (j : Nat) (a : A), cs[j]? = some a → k.w.cell? ⟨c, i + j, none⟩ = some (f j)) ∧ (∀ (j : Nat) (a : A), cs[j]? = some a → Rel k a (f j)) ∧ 0 < sz ∧ cs.length = len * sz ∧ len ≤ cap ∧ ApRel k c i cs.length sz cap ap := by
  cases h with
  | sl f q1 q2 q3 q4 q5 q6 q7 q8 => exact ⟨_, _, _, f, rfl, rfl, q1, q2, q3, q4, q5, q6, q7, q8⟩
  | sl0 hz => rcases hne with hne | hne <;> exact absurd rfl hne

/-- an append that makes a new row: the run -/
theorem append_new_run (hI : Inv w0 σ k) {ats : Array TypeId} {ty t t' e : TypeId} {d' : TypeDesc} {i : TypeInfo} {z : Value} {sv xv : Value} {s x : A} {old new : List A} {sLen sCap : Nat} {base : Option Addr} (h0 : ats[0]? = some t) (h1 : ats[1]? = some t')
    (hu : P.underlying t = some (.slice e)) (hu' : P.underlying t' = some d') (hd' : ∀ kd, d' ≠ .int kd) (hi : P.info? e = some i) (hz : i.zero = some z) (hzs : z.cells.size = i.size) (hsz : 0 < i.size) (hby : 0 < i.bytes)
    (hsv : sv = .slice base sLen sCap) (ho : appended σ i.size s = some old) (hs : Rel k s sv) (hol : old.length = sLen * i.size) (hn : appended σ i.size x = some new) (hx : Rel k x xv) (hbig : sCap < sLen + new.length / i.size)
    (hroom : (2 * (sLen + new.length / i.size) + 1024) * i.bytes ≤ 281474976710656) :
    ∃ (n cap : Nat) (us us' : List Value), new.length / i.size = n ∧ new.length = n * i.size ∧ RelL (k.wd k.w.drew) new us ∧ RelL (k.wd k.w.drew) old us' ∧ sLen + n ≤ cap ∧ (us' ++ us).length = (sLen + n) * i.size ∧
      (us'.toArray ++ us.toArray ++ Builtin.zeroCells z.cells (cap - (sLen + n))).size = cap * i.size ∧
      (Builtin.append_ ats ty #[sv, xv]).run P k.w = .ok (.slice (some ⟨k.w.heap.size, 0, none⟩) (sLen + n) cap) ((k.w.drew).alloc (.cells (us'.toArray ++ us.toArray ++ Builtin.zeroCells z.cells (cap - (sLen + n))) e)) := by
  obtain ⟨hI1, hle1⟩ := hI.drew
  obtain ⟨n, us, l1, f1, r1, e1⟩ := appended_good (P := P) hI1 hsz (hx.mono hle1) hn
  obtain ⟨n', us', l1', f1', r1', e1'⟩ := appended_good (P := P) hI1 hsz (hs.mono hle1) ho
  have hnn : new.length / i.size = n := by rw [e1, Nat.mul_div_cancel _ hsz]
  have hn' : n' = sLen := by
    have := l1' k.w
    rw [hsv] at this
    simp [Builtin.lenOf] at this
    exact this.symm
  subst hn'
  rw [hnn] at hbig hroom
  have hcap : Builtin.nextslicecap (n' + n) sCap * i.bytes ≤ 281474976710656 := Nat.le_trans (Nat.mul_le_mul_right _ (nextslicecap_le hbig)) hroom
  obtain ⟨cap, hcut, hcapge⟩ : ∃ cap, (Question.appendCap (n' + n) sCap e).cut (k.w.tape k.w.drawn (Question.appendCap (n' + n) sCap e)) = cap ∧ n' + n ≤ cap := ⟨_, rfl, by simp [Question.cut]⟩
  have hlen : (us' ++ us).length = (n' + n) * i.size := by
    rw [List.length_append, ← r1'.1, ← r1.1, e1', e1, Nat.add_mul]
  have hrun : (Builtin.append_ ats ty #[sv, xv]).run P k.w = .ok (.slice (some ⟨k.w.heap.size, 0, none⟩) (n' + n) cap) ((k.w.drew).alloc (.cells (us'.toArray ++ us.toArray ++ Builtin.zeroCells z.cells (cap - (n' + n))) e)) := by
    have f2 : (Builtin.firstCells i.size n' sv).run P k.w.drew = .ok us'.toArray k.w.drew := f1'
    have f3 : (Builtin.firstCells i.size n xv).run P k.w.drew = .ok us.toArray k.w.drew := f1
    subst hsv
    have hm : (match d' with | .int _ => true | _ => false) = false := by
      cases d' <;> first | rfl | exact absurd rfl (hd' _)
    have hz1 : ¬ ((n' + n : Nat) : Int) > IntKind.i64.max ∨ ¬ i.bytes = 0 := .inr (by omega)
    have hb0 : ¬ i.bytes = 0 := by omega
    have hc1 : ¬ (Builtin.nextslicecap (n' + n) sCap * i.bytes > 2 ^ 48) := by
      have : (2 : Nat) ^ 48 = 281474976710656 := by decide
      omega
    have hq : (Question.appendCap (n' + n) sCap e).forced = false := rfl
    simp only [Builtin.append_, h0, h1, List.getElem?_toArray, List.getElem?_cons_zero, List.getElem?_cons_succ, Sem.run_bind, run_underlying hu, run_underlying hu', Result.andThen_ok, run_sizeOf' hi, Sem.run_pure]
    simp only [Bool.false_eq_true, if_false, Sem.run_bind, l1, Result.andThen_ok, Sem.run_ite]
    rw [if_neg (by omega)]
    simp only [run_typeInfo' hi, Result.andThen_ok, hb0, or_self, and_false, if_false]
    rw [if_neg hc1]
    simp only [Sem.run_bind, Result.andThen_ok, run_choose, hq, Bool.false_eq_true, if_false, hcut, run_askRoom, World.drew_eq, f2, f3, Bool.not_false, if_true, run_zeroValue' hi hz, newRow, run_newObj, Sem.run_pure, World.alloc_eq]
    rfl
  have hall : (us'.toArray ++ us.toArray ++ Builtin.zeroCells z.cells (cap - (n' + n))).size = cap * i.size := by
    rw [Array.size_append, Array.size_append, size_zeroCells, hzs, Nat.sub_mul]
    have h2 : us'.length + us.length = (n' + n) * i.size := by rw [← List.length_append]; exact hlen
    have h3 : (n' + n) * i.size ≤ cap * i.size := Nat.mul_le_mul_right _ hcapge
    simp only [List.size_toArray]
    omega
  exact ⟨n, cap, us, us', hnn, e1, r1, r1', hcapge, hlen, hall, hrun⟩

/-- an append that makes a new row -/
theorem append_new (hI : Inv w0 σ k) {ats : Array TypeId} {ty t t' e : TypeId} {d' : TypeDesc} {i : TypeInfo} {z : Value} {sv xv : Value} {s x : A} {old new : List A} {sLen sCap : Nat} {base : Option Addr} (h0 : ats[0]? = some t) (h1 : ats[1]? = some t')
    (hu : P.underlying t = some (.slice e)) (hu' : P.underlying t' = some d') (hd' : ∀ kd, d' ≠ .int kd) (hi : P.info? e = some i) (hz : i.zero = some z) (hzs : z.cells.size = i.size) (hsz : 0 < i.size) (hby : 0 < i.bytes)
    (hsv : sv = .slice base sLen sCap) (ho : appended σ i.size s = some old) (hs : Rel k s sv) (hol : old.length = sLen * i.size) (hn : appended σ i.size x = some new) (hx : Rel k x xv) (hbig : sCap < sLen + new.length / i.size)
    (hroom : (2 * (sLen + new.length / i.size) + 1024) * i.bytes ≤ 281474976710656) :
    ∃ k' v, (Builtin.append_ ats ty #[sv, xv]).run P k.w = .ok v k'.w ∧ Rel k' (.sl i.size (old ++ new) (.gr σ.nextT)) v ∧ Inv w0 (σ.tok e) k' ∧ k.le k' := by
  obtain ⟨n, cap, us, us', hnn, e1, r1, r1', hcapge, hlen, hall, hrun⟩ := append_new_run (ty := ty) hI h0 h1 hu hu' hd' hi hz hzs hsz hby hsv ho hs hol hn hx hbig hroom
  obtain ⟨hI1, hle1⟩ := hI.drew
  obtain ⟨hI2, hle2⟩ := hI1.layTok (us := us'.toArray ++ us.toArray ++ Builtin.zeroCells z.cells (cap - (sLen + n))) (e := e) (lo := 0) (hi := 0) (n := (old ++ new).length) (by
    rw [hall, List.length_append, hol, e1, ← Nat.add_mul]; exact Nat.mul_le_mul_right _ hcapge) (.inl rfl)
  refine ⟨_, _, hrun, ?_, hI2, hle1.trans hle2⟩
  have hr : RelL _ (old ++ new) (us' ++ us) := (r1'.append r1).mono hle2
  have hml : (old ++ new).length = (sLen + n) * i.size := by rw [hr.1]; exact hlen
  have hdiv : (old ++ new).length / i.size = sLen + n := by rw [hml, Nat.mul_div_cancel _ hsz]
  have hblk : (k.w.drew.alloc (.cells (us'.toArray ++ us.toArray ++ Builtin.zeroCells z.cells (cap - (sLen + n))) e)).heap[k.w.heap.size]? = some (.cells (us'.toArray ++ us.toArray ++ Builtin.zeroCells z.cells (cap - (sLen + n))) e (0, 0)) := heap_alloc_same k.w.drew _
  suffices key : Rel ((k.wd k.w.drew).layTok (Obj.cells (us'.toArray ++ us.toArray ++ Builtin.zeroCells z.cells (cap - (sLen + n))) e (0, 0)) (old ++ new).length σ.nextT) (.sl i.size (old ++ new) (.gr σ.nextT)) (.slice (some ⟨k.w.heap.size, 0, none⟩) ((old ++ new).length / i.size) cap) by
    rw [hdiv] at key; exact key
  refine .sl (n := (old ++ new).length) (fun j => (us' ++ us).getD j undef) (if_pos rfl) (by omega) (fun j a ha => ?_) (fun j a ha => ?_) hsz (by rw [hdiv]; exact hml) (by rw [hdiv]; exact hcapge) ⟨if_pos rfl, fun _ => .inr ⟨?_, _, _, _, hblk, ?_⟩⟩
  · have hj : j < (us' ++ us).length := by rw [← hr.1]; exact lt_of_get ha
    rw [Nat.zero_add]
    refine (cell_get hblk).trans ?_
    rw [← Array.getElem?_toList]
    simp only [Array.toList_append]
    rw [List.getElem?_append_left hj]
    simp [List.getD, List.getElem?_eq_getElem hj]
  · obtain ⟨u, g1, g2⟩ := hr.get ha
    simp only [List.getD, g1, Option.getD_some]
    exact g2
  · rw [Nat.zero_add]; exact if_pos rfl
  · rw [Nat.zero_add]; exact hall

/-- an append in place -/
theorem append_place (hI : Inv w0 σ k) {ats : Array TypeId} {ty t t' e : TypeId} {d' : TypeDesc} {i : TypeInfo} {xv : Value} {x : A} {new cs : List A} {id c o len cap : Nat} (h0 : ats[0]? = some t) (h1 : ats[1]? = some t')
    (hu : P.underlying t = some (.slice e)) (hu' : P.underlying t' = some d') (hd' : ∀ kd, d' ≠ .int kd) (hi : P.info? e = some i) (hsz : 0 < i.size) (hone : allOne new = true)
    (hs : Rel k (.sl i.size cs (.gr id)) (.slice (some ⟨c, o, none⟩) len cap)) (hn : appended σ i.size x = some new) (hx : Rel k x xv) (hfit : len + new.length / i.size ≤ cap) (hlt : len < cap) (ht : σ.toks.get id = some e) :
    ∃ k' v, (Builtin.append_ ats ty #[.slice (some ⟨c, o, none⟩) len cap, xv]).run P k.w = .ok v k'.w ∧ Rel k' (.sl i.size (cs ++ new) (.gr σ.nextT)) v ∧ Inv w0 ((σ.untok id).tok e) k' ∧ k.le k' := by
  obtain ⟨n, us, l1, f1, r1, e1⟩ := appended_good (P := P) hI hsz hx hn
  have hnn : new.length / i.size = n := by rw [e1, Nat.mul_div_cancel _ hsz]
  rw [hnn] at hfit
  obtain ⟨hl, c', fz, csv, lo, hi', g1, g2, g3, g4, g5⟩ := hI.tok id e ht
  obtain ⟨c0, i0, m, f, q0, hlen, q1, q2, q3, q4, q5, q6, q7, q8⟩ := hs.slFull (.inr (by simp))
  cases q0
  · obtain ⟨p1, p2⟩ := q8
    rw [g1] at p1; cases p1
    rcases p2 hl with p2 | ⟨p2, cs2, e2, fr2, p3, p4⟩
    · rw [← hlen] at p2; omega
    rw [g3] at p2; cases p2
    rw [g4] at p3; cases p3
    have hm : cs.length = len * i.size := q6
    have hspace : (len + n) * i.size ≤ cap * i.size := Nat.mul_le_mul_right _ hfit
    have hul : us.length = n * i.size := by rw [← r1.1]; exact e1
    rw [Nat.add_mul] at hspace
    have hst := run_stores P c e lo hi' us (o + len * i.size) 0 csv.toList k.w (by simpa using g4) (by simp only [Array.length_toList]; omega) (allOne_mem r1 hone) (by rw [hm] at g5; simpa using g5)
    simp only [Nat.add_zero] at hst
    have hmx : (match d' with | .int _ => true | _ => false) = false := by
      cases d' <;> first | rfl | exact absurd rfl (hd' _)
    have hrun : (Builtin.append_ ats ty #[.slice (some ⟨c, o, none⟩) len cap, xv]).run P k.w = .ok (.slice (some ⟨c, o, none⟩) (len + n) cap) (k.w.setRow c (csv.toList.take (o + len * i.size) ++ us ++ csv.toList.drop (o + len * i.size + us.length)).toArray) := by
      simp only [Builtin.append_, h0, h1, List.getElem?_toArray, List.getElem?_cons_zero, List.getElem?_cons_succ, Sem.run_bind, run_underlying hu, run_underlying hu', Result.andThen_ok, run_sizeOf' hi, Sem.run_pure]
      simp only [Bool.false_eq_true, if_false, Sem.run_bind, l1, Result.andThen_ok, Sem.run_ite]
      rw [if_pos (by omega)]
      simp only [Bool.not_false, if_true, f1, Result.andThen_ok, addr_add, hst, Sem.run_pure]
    have hsize : (csv.toList.take (o + len * i.size) ++ us ++ csv.toList.drop (o + len * i.size + us.length)).length = csv.size := by
      simp only [List.length_append, List.length_take, List.length_drop, Array.length_toList]; omega
    obtain ⟨hI2, hle2⟩ := hI.grow (n' := o + cs.length + new.length) ht g1 g3 (by omega) g4 g5 g2 (us := (csv.toList.take (o + len * i.size) ++ us ++ csv.toList.drop (o + len * i.size + us.length)).toArray) (by simpa using hsize) (by
      simp only [List.size_toArray, hsize]; rw [e1, p4]; omega) (fun j hj => by
      rw [hm] at hj
      simp only [List.getElem?_toArray]
      rw [List.append_assoc, List.getElem?_append_left (by simp only [List.length_take, Array.length_toList]; omega), List.getElem?_take, if_pos hj]
      simp)
    refine ⟨_, _, hrun, ?_, hI2, hle2⟩
    have hblk : (k.w.setRow c (csv.toList.take (o + len * i.size) ++ us ++ csv.toList.drop (o + len * i.size + us.length)).toArray).heap[c]? = some (.cells (csv.toList.take (o + len * i.size) ++ us ++ csv.toList.drop (o + len * i.size + us.length)).toArray e (lo, hi')) := setRow_heap _ _ _ _ _ _ g4
    have hml : (cs ++ new).length = (len + n) * i.size := by rw [List.length_append, hm, e1, Nat.add_mul]
    have hdiv : (cs ++ new).length / i.size = len + n := by rw [hml, Nat.mul_div_cancel _ hsz]
    have hr2 := r1.mono hle2
    suffices key : Rel (k.grow c (o + cs.length + new.length) id σ.nextT (csv.toList.take (o + len * i.size) ++ us ++ csv.toList.drop (o + len * i.size + us.length)).toArray) (.sl i.size (cs ++ new) (.gr σ.nextT)) (.slice (some ⟨c, o, none⟩) ((cs ++ new).length / i.size) cap) by
      rw [hdiv] at key; exact key
    refine .sl (n := o + cs.length + new.length) (fun j => if j < cs.length then f j else us.getD (j - cs.length) undef) (if_pos rfl) (by rw [List.length_append]; omega) (fun j a ha => ?_) (fun j a ha => ?_) hsz (by rw [hdiv]; exact hml) (by rw [hdiv]; exact hfit) ⟨if_pos rfl, fun _ => .inr ⟨?_, _, _, _, hblk, ?_⟩⟩
    · refine (cell_get hblk).trans ?_
      simp only [List.getElem?_toArray]
      by_cases hj : j < cs.length
      · rw [List.getElem?_append_left hj] at ha
        simp only [if_pos hj]
        rw [List.append_assoc, List.getElem?_append_left (by simp only [List.length_take, Array.length_toList]; omega), List.getElem?_take, if_pos (by omega), ← q3 j a ha]
        rw [cell_get g4]; simp
      · simp only [if_neg hj]
        have hj2 : j - cs.length < us.length := by have := lt_of_get ha; rw [List.length_append] at this; rw [hul]; omega
        have hx1 : (csv.toList.take (o + len * i.size)).length = o + len * i.size := by
          simp only [List.length_take, Array.length_toList]; omega
        rw [List.append_assoc, List.getElem?_append_right (by omega), hx1, List.getElem?_append_left (by omega)]
        simp only [List.getD]
        rw [show o + j - (o + len * i.size) = j - cs.length by omega, List.getElem?_eq_getElem hj2]
        rfl
    · by_cases hj : j < cs.length
      · rw [List.getElem?_append_left hj] at ha
        simp only [if_pos hj]
        exact (q4 j a ha).mono hle2
      · rw [List.getElem?_append_right (by omega)] at ha
        simp only [if_neg hj]
        obtain ⟨u, w1, w2⟩ := hr2.get ha
        simp only [List.getD, w1, Option.getD_some]
        exact w2
    · show (if c = c then _ else _) = _
      rw [if_pos rfl, List.length_append, Nat.add_assoc]
    · simp only [List.size_toArray, hsize]; exact p4

/-- an append of nothing -/
theorem append_none (hI : Inv w0 σ k) {ats : Array TypeId} {ty t t' e : TypeId} {d' : TypeDesc} {i : TypeInfo} {sv xv : Value} {s x : A} (h0 : ats[0]? = some t) (h1 : ats[1]? = some t')
    (hu : P.underlying t = some (.slice e)) (hu' : P.underlying t' = some d') (hd' : ∀ kd, d' ≠ .int kd) (hi : P.info? e = some i) (hsz : 0 < i.size) (hn : appended σ i.size x = some []) (hx : Rel k x xv) (hs : Rel k s sv)
    (hsl : ∃ b l c, sv = .slice b l c ∧ l ≤ c) :
    (Builtin.append_ ats ty #[sv, xv]).run P k.w = .ok sv k.w := by
  obtain ⟨n, us, l1, f1, r1, e1⟩ := appended_good (P := P) hI hsz hx hn
  have hn0 : n = 0 := by
    rcases Nat.eq_zero_or_pos n with h | h
    · exact h
    · have := Nat.mul_pos h hsz; simp at e1; omega
  subst hn0
  have hus : us = [] := r1.inv_nil
  subst hus
  obtain ⟨b, l, c, rfl, hlc⟩ := hsl
  have hmx : (match d' with | .int _ => true | _ => false) = false := by
    cases d' <;> first | rfl | exact absurd rfl (hd' _)
  simp only [Builtin.append_, h0, h1, List.getElem?_toArray, List.getElem?_cons_zero, List.getElem?_cons_succ, Sem.run_bind, run_underlying hu, run_underlying hu', Result.andThen_ok, run_sizeOf' hi, Sem.run_pure]
  simp only [Bool.false_eq_true, if_false, Sem.run_bind, l1, Result.andThen_ok, Sem.run_ite]
  rw [if_pos (by omega)]
  simp only [Bool.not_false, if_true, f1, Result.andThen_ok]
  cases b with
  | none => simp
  | some a => simp [storeCells]
end
end Go.DM
namespace Go.DM
open Go Go.RowKit

section
variable {P : Program} {w0 : World} {σ σ' : St} {k : K}

theorem zero_size {_e : TypeId} {i : TypeInfo} {z : Value} (hz : i.zero = some z) {n : Nat} (h : (i.zero.map (·.cells.size)) = some n) : z.cells.size = n := by
  simpa [hz] using h

theorem appendOp_good (hI : Inv w0 σ k) {ats : Array TypeId} {ty t t' : TypeId} {d' : TypeDesc} {sv xv : Value} {s x a : A} (h0 : ats[0]? = some t) (h1 : ats[1]? = some t')
    (hu' : P.underlying t' = some d') (hd' : ∀ kd, d' ≠ .int kd) (hs : Rel k s sv) (hx : Rel k x xv) (h : appendOp P t s x σ = some (a, σ')) :
    ∃ k' v, (Builtin.append_ ats ty #[sv, xv]).run P k.w = .ok v k'.w ∧ Rel k' a v ∧ Inv w0 σ' k' ∧ k.le k' := by
  unfold appendOp at h
  split at h
  case h_2 => cases h
  rename_i e hu
  split at h
  case h_2 => cases h
  rename_i i hi
  split at h
  case h_2 => cases h
  rename_i new hn
  split at h
  case isFalse => cases h
  rename_i hsz
  split at h
  · rename_i hnil
    subst hnil
    split at h
    · rename_i hsl
      cases h
      have hshape : ∃ b l c, sv = .slice b l c ∧ l ≤ c := by
        cases hs with
        | v hv => 
          unfold isSl at hsl
          split at hsl
          · rename_i heq; cases heq; exact ⟨none, 0, 0, rfl, Nat.le_refl _⟩
          · rename_i heq; cases heq
          · rename_i heq; cases heq
          · cases hsl
        | sl u q1 q2 q3 q4 q5 q6 q7 q8 => exact ⟨_, _, _, rfl, q7⟩
        | sl0 hz => exact ⟨_, _, _, rfl, Nat.zero_le _⟩
        | ms hb hl _ => exact ⟨_, _, _, rfl, hl⟩
        | mv hb hl _ _ => exact ⟨_, _, _, rfl, hl⟩
        | _ => simp [isSl] at hsl
      exact ⟨k, sv, append_none hI h0 h1 hu hu' hd' hi hsz hn hx hs hshape, hs, hI, K.le.refl k⟩
    · cases h
  · rename_i hne
    split at h
    case isFalse => cases h
    rename_i hc
    obtain ⟨hone, hzs, hzc, hby⟩ := hc
    obtain ⟨z, hz⟩ := Option.isSome_iff_exists.1 hzs
    have hz2 : z.cells.size = i.size := by simpa [hz] using hzc
    obtain ⟨n, us, l1, f1, r1, e1⟩ := appended_good (P := P) hI hsz hx hn
    have hnpos : 0 < new.length / i.size := by
      rcases Nat.eq_zero_or_pos n with h' | h'
      · subst h'; exact absurd (List.eq_nil_of_length_eq_zero (by simpa using e1)) hne
      · rw [e1, Nat.mul_div_cancel _ hsz]; exact h'
    split at h
    · split at h
      · rename_i hroom
        cases h
        obtain rfl := rel_v_inv hs
        obtain ⟨k', v, g1, g2, g3, g4⟩ := append_new (ty := ty) (old := []) hI h0 h1 hu hu' hd' hi hz hz2 hsz hby (base := none) (sLen := 0) (sCap := 0) rfl rfl hs (by simp) hn hx (by omega) (by simpa using hroom)
        exact ⟨k', v, g1, g2, g3, g4⟩
      · cases h
    · rename_i sz cs ap
      split at h
      case isFalse => cases h
      rename_i hq
      obtain ⟨rfl, hroom⟩ := hq
      obtain ⟨b, len, cap, rfl⟩ : ∃ b len cap, sv = .slice b len cap := by obtain ⟨c, cap, h⟩ := hs.slInv; exact ⟨_, _, _, h⟩
      have hne : cs ≠ [] ∨ ap ≠ .no := by
        cases ap with
        | no => cases h
        | ex => exact .inr (by simp)
        | gr id => exact .inr (by simp)
      obtain ⟨c, j, m, f, rfl, hlen, q1, q2, q3, q4, q5, q6, q7, q8⟩ := hs.slFull hne
      have hdiv : (cs.length + new.length) / i.size = len + new.length / i.size := by
        rw [q6, e1, ← Nat.add_mul, Nat.mul_div_cancel _ hsz, Nat.mul_div_cancel _ hsz]
      rw [hdiv] at hroom
      have hold : appended σ i.size (.sl i.size cs ap) = some cs := by simp [appended]
      split at h
      · cases h
        have : cap = len := by rw [hlen]; exact q8.1
        obtain ⟨k', v, g1, g2, g3, g4⟩ := append_new (ty := ty) hI h0 h1 hu hu' hd' hi hz hz2 hsz hby rfl hold hs q6 hn hx (by omega) hroom
        exact ⟨k', v, g1, g2, g3, g4⟩
      · rename_i id
        split at h
        · rename_i hlv
          cases h
          by_cases hfit : len + new.length / i.size ≤ cap
          · exact append_place hI h0 h1 hu hu' hd' hi hsz hone hs hn hx hfit (by omega) hlv
          · obtain ⟨hI1, hle1⟩ := hI.drop id
            have ha : ∀ y, appended (σ.untok id) i.size y = appended σ i.size y := fun y => rfl
            obtain ⟨k', v, g1, g2, g3, g4⟩ := append_new (ty := ty) hI1 h0 h1 hu hu' hd' hi hz hz2 hsz hby rfl (by rw [ha]; exact hold) (hs.mono hle1) q6 (by rw [ha]; exact hn) (hx.mono hle1) (by omega) hroom
            exact ⟨k', v, g1, g2, g3, hle1.trans g4⟩
        · cases h
      · cases h
    · rename_i b o len cap
      split at h
      · rename_i cs e' hc
        split at h
        · rename_i hq
          obtain ⟨rfl, hcx, hfit, hroom⟩ := hq
          cases h
          cases hs with
          | mv _ _ _ _ => exact absurd hcx (by omega)
          | ms hb hl hlx =>
            rename_i c
            have hold : appended σ i.size (.ms b o len len) = some ((cs.drop o).take (len * i.size)) := by
              simp only [appended, hc]; rw [if_pos hfit]
            have hol : ((cs.drop o).take (len * i.size)).length = len * i.size := by rw [List.length_take, List.length_drop]; omega
            obtain ⟨k', v, g1, g2, g3, g4⟩ := append_new (ty := ty) (s := .ms b o len len) hI h0 h1 hu hu' hd' hi hz hz2 hsz hby rfl hold (.ms hb hl hlx) hol hn hx (by omega) hroom
            exact ⟨k', v, g1, g2, g3, g4⟩
        · cases h
      · cases h
    · cases h

/-- append to a slice that is a block -/
theorem appendM_good (hI : Inv w0 σ k) {ats : Array TypeId} {ty t t' : TypeId} {d' : TypeDesc} {sv xv : Value} {s x a : A} (h0 : ats[0]? = some t) (h1 : ats[1]? = some t')
    (hu' : P.underlying t' = some d') (hd' : ∀ kd, d' ≠ .int kd) (hs : Rel k s sv) (hx : Rel k x xv) (h : appendM P t s x σ = some (a, σ')) :
    ∃ k' v, (Builtin.append_ ats ty #[sv, xv]).run P k.w = .ok v k'.w ∧ Rel k' a v ∧ Inv w0 σ' k' ∧ k.le k' := by
  unfold appendM at h
  split at h
  case h_2 => cases h
  rename_i e hu
  split at h
  case h_2 => cases h
  rename_i i hi
  split at h
  case h_2 => cases h
  rename_i new hn
  split at h
  case isFalse => cases h
  rename_i hsz
  split at h
  · rename_i hnil
    subst hnil
    split at h
    · rename_i hsl
      cases h
      have hshape : ∃ b l c, sv = .slice b l c ∧ l ≤ c := by
        cases hs with
        | v hv => 
          unfold isSl at hsl
          split at hsl
          · rename_i heq; cases heq; exact ⟨none, 0, 0, rfl, Nat.le_refl _⟩
          · rename_i heq; cases heq
          · rename_i heq; cases heq
          · cases hsl
        | sl u q1 q2 q3 q4 q5 q6 q7 q8 => exact ⟨_, _, _, rfl, q7⟩
        | sl0 hz => exact ⟨_, _, _, rfl, Nat.zero_le _⟩
        | ms hb hl _ => exact ⟨_, _, _, rfl, hl⟩
        | mv hb hl _ _ => exact ⟨_, _, _, rfl, hl⟩
        | _ => simp [isSl] at hsl
      exact ⟨k, sv, append_none hI h0 h1 hu hu' hd' hi hsz hn hx hs hshape, hs, hI, K.le.refl k⟩
    · cases h
  · rename_i hne
    split at h
    case isFalse => cases h
    rename_i hc
    obtain ⟨hone, hzs, hzc, hby⟩ := hc
    obtain ⟨z, hz⟩ := Option.isSome_iff_exists.1 hzs
    have hz2 : z.cells.size = i.size := by simpa [hz] using hzc
    obtain ⟨n, us, l1, f1, r1, e1⟩ := appended_good (P := P) hI hsz hx hn
    have hnn : new.length / i.size = n := by rw [e1, Nat.mul_div_cancel _ hsz]
    have hnpos : 0 < n := by
      rcases Nat.eq_zero_or_pos n with h' | h'
      · subst h'; exact absurd (List.eq_nil_of_length_eq_zero (by simpa using e1)) hne
      · exact h'
    have begun : ∀ {base : Option Addr}, sv = .slice base 0 0 → appended σ i.size s = some [] → (if (2 * (new.length / i.size) + 1024) * i.bytes ≤ 281474976710656 then some (A.ms σ.next 0 (new.length / i.size) (capX + i.size), σ.push (.cells new (offX + e))) else none) = some (a, σ') →
        ∃ k' v, (Builtin.append_ ats ty #[sv, xv]).run P k.w = .ok v k'.w ∧ Rel k' a v ∧ Inv w0 σ' k' ∧ k.le k' := by
      intro base hsv hap h
      split at h
      · rename_i hroom
        cases h
        obtain ⟨n2, cap, us2, us', hnn2, e2, r2, r2', hcapge, hlen, hall, hrun⟩ := append_new_run (ty := ty) (old := []) hI h0 h1 hu hu' hd' hi hz hz2 hsz hby (base := base) (sLen := 0) (sCap := 0) hsv hap hs (by simp) hn hx (by omega) (by simpa using hroom)
        obtain rfl : us' = [] := r2'.inv_nil
        simp only [Nat.zero_add] at hcapge hall hrun
        obtain ⟨hI1, hle1⟩ := hI.drew
        obtain ⟨q1, q2, q3⟩ := hI1.push (x := .cells new (offX + e)) (o := .cells (([] : List Value).toArray ++ us2.toArray ++ Builtin.zeroCells z.cells (cap - n2)) e)
          ⟨us2, (Builtin.zeroCells z.cells (cap - n2)).toList, e, by congr 1; apply Array.ext'; simp, fun h => absurd h (Nat.not_lt.2 (Nat.le_add_right _ _)), r2⟩
        refine ⟨_, _, hrun, ?_, q1, hle1.trans q2⟩
        rw [hnn2]
        exact .mv q3 hcapge (heap_alloc_same k.w.drew _) ((Nat.zero_add _).trans hall.symm)
      · cases h
    split at h
    · obtain rfl := rel_v_inv hs
      exact begun rfl rfl h
    · rename_i sz
      split at h
      case isFalse => cases h
      rename_i hq
      obtain ⟨rfl, hroom⟩ := hq
      obtain ⟨b, len, cap, rfl⟩ : ∃ b len cap, sv = .slice b len cap := by obtain ⟨c, cap, h⟩ := hs.slInv; exact ⟨_, _, _, h⟩
      obtain ⟨c, j, m, f, rfl, hlen, q1, q2, q3, q4, q5, q6, q7, q8⟩ := hs.slFull (.inr (by simp))
      have hl0 : len = 0 := by simpa using hlen
      have hc0 : cap = 0 := by have := q8.1; simpa using this
      subst hl0
      subst hc0
      exact begun rfl (by simp [appended]) (by rw [if_pos hroom]; exact h)
    · rename_i b len cap
      split at h
      · rename_i cs e' hc
        split at h
        · rename_i hq
          obtain ⟨rfl, rfl, hfit, hroom⟩ := hq
          cases h
          obtain ⟨c, cap', rfl, hb, hlc, ⟨hlt, _⟩ | ⟨sz0, arr, e0, fr0, he0, hh0, hs0⟩⟩ := hs.msInv
          · omega
          obtain rfl : i.size = sz0 := by omega
          obtain ⟨_, hg, vs, ws, e2, h4, h5, h6, _⟩ := hI.cellsAt hc hb
          rw [h4] at hh0
          obtain rfl : (vs ++ ws).toArray = arr := by injection hh0 with g1; injection g1
          simp only [Nat.zero_add, List.size_toArray] at hs0
          have hroom0 := hroom
          rw [hnn] at hroom ⊢
          have hrl : RelL k (cs.take (len * i.size)) (vs.take (len * i.size)) := h5.take _
          have hvl : cs.length = vs.length := h5.1
          have hul : us.length = n * i.size := by rw [← r1.1]; exact e1
          by_cases hfit2 : len + n ≤ cap'
          · have hspace : (len + n) * i.size ≤ cap' * i.size := Nat.mul_le_mul_right _ hfit2
            rw [Nat.add_mul] at hspace
            have hst := run_stores P c e2 0 0 us (len * i.size) 0 (vs ++ ws) k.w h4 (by omega) (allOne_mem r1 hone) (.inl rfl)
            simp only [Nat.add_zero] at hst
            have hmx : (match d' with | .int _ => true | _ => false) = false := by
              cases d' <;> first | rfl | exact absurd rfl (hd' _)
            have hrun : (Builtin.append_ ats ty #[.slice (some ⟨c, 0, none⟩) len cap', xv]).run P k.w = .ok (.slice (some ⟨c, 0, none⟩) (len + n) cap') (k.w.setRow c ((vs ++ ws).take (len * i.size) ++ us ++ (vs ++ ws).drop (len * i.size + us.length)).toArray) := by
              simp only [Builtin.append_, h0, h1, List.getElem?_toArray, List.getElem?_cons_zero, List.getElem?_cons_succ, Sem.run_bind, run_underlying hu, run_underlying hu', Result.andThen_ok, run_sizeOf' hi, Sem.run_pure]
              simp only [Bool.false_eq_true, if_false, Sem.run_bind, l1, Result.andThen_ok, Sem.run_ite]
              rw [if_pos (by omega)]
              simp only [Bool.not_false, if_true, f1, Result.andThen_ok, addr_add, Nat.zero_add, hst, Sem.run_pure]
            have etake : (vs ++ ws).take (len * i.size) = vs.take (len * i.size) := List.take_append_of_le_length (by omega)
            have hlen2 : ((vs ++ ws).take (len * i.size) ++ us ++ (vs ++ ws).drop (len * i.size + us.length)).length = (vs ++ ws).length := by
              simp only [List.length_append, List.length_take, List.length_drop] at hs0 ⊢; omega
            obtain ⟨q1, q2, q3⟩ := hI.regrow (cs' := cs.take (len * i.size) ++ new) (us' := (vs ++ ws).take (len * i.size) ++ us ++ (vs ++ ws).drop (len * i.size + us.length)) hg hb h4
              ⟨vs.take (len * i.size) ++ us, (vs ++ ws).drop (len * i.size + us.length), e2, by rw [etake], fun h => absurd h (Nat.not_lt.2 (Nat.le_add_right _ _)), hrl.append r1⟩ hlen2
            refine ⟨_, _, hrun, ?_, q1, q2⟩
            exact .mv q3 hfit2 (setRow_heap _ _ _ _ _ _ h4) (by rw [List.size_toArray, hlen2, ← hs0, Nat.zero_add])
          · have hold : appended σ i.size (.ms b 0 len (capX + i.size)) = some (cs.take (len * i.size)) := by
              simp only [appended, hc]; rw [if_pos (by omega)]; simp
            have hol : (cs.take (len * i.size)).length = len * i.size := by rw [List.length_take]; omega
            obtain ⟨n2, cap2, us2, us', hnn2, e2', r2, r2', hcapge, hlen, hall, hrun⟩ := append_new_run (ty := ty) hI h0 h1 hu hu' hd' hi hz hz2 hsz hby rfl hold hs hol hn hx (by omega) hroom0
            obtain ⟨hI1, hle1⟩ := hI.drew
            obtain ⟨q1, q2, q3⟩ := (hI1.kill b).push (x := .cells (cs.take (len * i.size) ++ new) (offX + e)) (o := .cells (us'.toArray ++ us2.toArray ++ Builtin.zeroCells z.cells (cap2 - (len + n2))) e)
              ⟨us' ++ us2, (Builtin.zeroCells z.cells (cap2 - (len + n2))).toList, e, by congr 1; apply Array.ext'; simp, fun h => absurd h (Nat.not_lt.2 (Nat.le_add_right _ _)), r2'.append r2⟩
            obtain rfl : n2 = n := by omega
            refine ⟨_, _, hrun, ?_, q1, hle1.trans q2⟩
            exact .mv q3 (by omega) (heap_alloc_same k.w.drew _) ((Nat.zero_add _).trans hall.symm)
        · split at h
          · rename_i hq
            obtain ⟨rfl, hlt0, hfit, hroom⟩ := hq
            cases h
            obtain ⟨c, cap', rfl, hb, hlc, ⟨_, rfl⟩ | ⟨sz0, arr, e0, fr0, he0, hh0, hs0⟩⟩ := hs.msInv
            · have hroom0 := hroom
              rw [hnn] at hroom ⊢
              have hold : appended σ i.size (.ms b 0 cap' cap') = some (cs.take (cap' * i.size)) := by
                simp only [appended, hc]; rw [if_pos (by omega)]; simp
              have hol : (cs.take (cap' * i.size)).length = cap' * i.size := by rw [List.length_take]; omega
              obtain ⟨n2, cap2, us2, us', hnn2, e2', r2, r2', hcapge, hlen, hall, hrun⟩ := append_new_run (ty := ty) hI h0 h1 hu hu' hd' hi hz hz2 hsz hby rfl hold hs hol hn hx (by omega) hroom0
              obtain ⟨hI1, hle1⟩ := hI.drew
              obtain ⟨q1, q2, q3⟩ := hI1.push (x := .cells (cs.take (cap' * i.size) ++ new) (offX + e)) (o := .cells (us'.toArray ++ us2.toArray ++ Builtin.zeroCells z.cells (cap2 - (cap' + n2))) e)
                ⟨us' ++ us2, (Builtin.zeroCells z.cells (cap2 - (cap' + n2))).toList, e, by congr 1; apply Array.ext'; simp, fun h => absurd h (Nat.not_lt.2 (Nat.le_add_right _ _)), r2'.append r2⟩
              obtain rfl : n2 = n := by omega
              refine ⟨_, _, hrun, ?_, q1, hle1.trans q2⟩
              exact .mv q3 (by omega) (heap_alloc_same k.w.drew _) ((Nat.zero_add _).trans hall.symm)
            · omega
          · cases h
      · cases h
    · exact appendOp_good hI h0 h1 hu' hd' hs hx h

/-- append of noughts to none -/
theorem appendZ_good (hI : Inv w0 σ k) {ats : Array TypeId} {ty t t' : TypeId} {kd : IntKind} {sv xv : Value} {s x a : A} (h0 : ats[0]? = some t) (h1 : ats[1]? = some t')
    (hu' : P.underlying t' = some (.int kd)) (hs : Rel k s sv) (hx : Rel k x xv) (h : appendZ P t s x σ = some (a, σ')) :
    ∃ k' v, (Builtin.append_ ats ty #[sv, xv]).run P k.w = .ok v k'.w ∧ Rel k' a v ∧ Inv w0 σ' k' ∧ k.le k' := by
  unfold appendZ at h
  split at h
  case h_2 => cases h
  rename_i n e hn hu
  split at h
  case h_2 => cases h
  rename_i i hi
  split at h
  case isFalse => cases h
  rename_i hq
  obtain ⟨hsz, hn0, hnx, hzs, hzc, hby, hroom⟩ := hq
  cases h
  obtain rfl := rel_v_inv hs
  obtain ⟨kd2, n2, rfl, hp0, hp1⟩ := asNat_some hn
  obtain rfl := rel_v_inv hx
  obtain ⟨z, hz⟩ := Option.isSome_iff_exists.1 hzs
  have hz2 : z.cells.size = i.size := by simpa [hz] using hzc
  obtain ⟨hI1, hle1⟩ := hI.drew
  obtain ⟨cap, hcut, hcapge⟩ : ∃ cap, (Question.appendCap n 0 e).cut (k.w.tape k.w.drawn (Question.appendCap n 0 e)) = cap ∧ n ≤ cap := ⟨_, rfl, by simp [Question.cut]⟩
  have w2 : IntKind.i64.wrap n2 = (n : Int) := by rw [IntKind.wrap_i64]; omega
  have hrun : (Builtin.append_ ats ty #[.slice none 0 0, .int kd2 n2]).run P k.w = .ok (.slice (some ⟨k.w.heap.size, 0, none⟩) n cap) ((k.w.drew).alloc (.cells (#[] ++ Builtin.zeroCells z.cells n ++ Builtin.zeroCells z.cells (cap - n)) e)) := by
    have hq : (Question.appendCap n 0 e).forced = false := rfl
    have hb : ¬ ((n : Int) * (i.bytes : Int) > 2 ^ 48) := by
      have : ((n * i.bytes : Nat) : Int) ≤ 140737488355328 := by
        have : n * i.bytes ≤ (2 * n + 1024) * i.bytes := Nat.mul_le_mul_right _ (by omega)
        omega
      rw [Int.natCast_mul] at this
      have h2 : (2 : Int) ^ 48 = 281474976710656 := by decide
      omega
    have hc1 : ¬ (Builtin.nextslicecap n 0 * i.bytes > 2 ^ 48) := by
      have : (2 : Nat) ^ 48 = 281474976710656 := by decide
      have h3 : Builtin.nextslicecap n 0 = n := by unfold Builtin.nextslicecap; rw [if_pos (by omega)]
      rw [h3]
      have : n * i.bytes ≤ (2 * n + 1024) * i.bytes := Nat.mul_le_mul_right _ (by omega)
      omega
    have hz1 : ¬ ((n : Int) > IntKind.i64.max) := by
      have : IntKind.i64.max = 9223372036854775807 := by decide
      omega
    have hns : ¬ (n * i.size = 0) := by rw [hsz]; omega
    simp only [Builtin.append_, h0, h1, List.getElem?_toArray, List.getElem?_cons_zero, List.getElem?_cons_succ, Sem.run_bind, run_underlying hu, run_underlying hu', Result.andThen_ok, run_sizeOf' hi, Sem.run_pure, asInt, asIntOf]
    simp only [if_true, Sem.run_ite, Sem.run_bind, Result.andThen_ok, Sem.run_pure, w2, Int.toNat_natCast, Nat.zero_add]
    rw [if_neg (by omega)]
    simp only [run_typeInfo' hi, Result.andThen_ok]
    rw [if_neg hb, if_neg (by omega), if_neg (fun c => hz1 c.1), if_neg hc1]
    simp only [Sem.run_bind, run_choose, hq, Bool.false_eq_true, if_false, hcut, Result.andThen_ok, run_askRoom, World.drew_eq, Builtin.firstCells, Sem.run_pure, Bool.not_true, if_neg hns, run_zeroValue' hi hz, newRow, run_newObj, World.alloc_eq]
    rfl
  have hall : (#[] ++ Builtin.zeroCells z.cells n ++ Builtin.zeroCells z.cells (cap - n)).size = cap := by
    rw [Array.size_append, Array.size_append, size_zeroCells, size_zeroCells, hz2, hsz]
    simp only [List.size_toArray, List.length_nil]
    omega
  obtain ⟨g1, g2⟩ := hI1.layTok (us := #[] ++ Builtin.zeroCells z.cells n ++ Builtin.zeroCells z.cells (cap - n)) (e := e) (lo := 0) (hi := 0) (n := 0) (Nat.zero_le _) (.inl rfl)
  refine ⟨_, _, hrun, ?_, g1, hle1.trans g2⟩
  exact .raw (if_pos rfl) hcapge (fun _ => ⟨if_pos rfl, _, _, _, heap_alloc_same k.w.drew _, hall⟩) ⟨0, if_pos rfl⟩

/-- the first elements of a source -/
theorem appended_take (hI : Inv w0 σ k) {sz : Nat} (hz : 0 < sz) {x : A} {u : Value} {new : List A} (hx : Rel k x u) (h : appended σ sz x = some new) (m : Nat) (hm : m ≤ new.length / sz) :
    ∃ us, (Builtin.firstCells sz m u).run P k.w = .ok us k.w ∧ RelL k (new.take (m * sz)) us.toList := by
  have hms : m * sz ≤ new.length := Nat.le_trans (Nat.mul_le_mul_right _ hm) (Nat.div_mul_le_self _ _)
  unfold appended at h
  split at h
  · cases h
    obtain rfl := rel_v_inv hx
    exact ⟨#[], rfl, by simpa using RelL.nil k⟩
  · rename_i s
    split at h
    · rename_i hs
      cases h
      obtain rfl := rel_v_inv hx
      subst hs
      refine ⟨_, rfl, ?_⟩
      have e : (Array.map (fun b : UInt8 => Value.int .u8 b.toNat) (s.extract 0 m).data).toList = (s.data.toList.map fun b => Value.int .u8 b.toNat).take m := by
        rw [Array.toList_map, ByteArray.data_extract, Array.toList_extract]
        simp [List.extract_eq_take_drop, List.map_take]
      rw [e, Nat.mul_one]
      exact (bytesOf_rel s).take m
    · cases h
  · rename_i sz' cs ap
    split at h
    · rename_i hs
      subst hs
      cases h
      cases hx with
      | @sl _ _ _ c i n cap f h1 h2 h3 h4 h5 h6 h7 h8 =>
        obtain ⟨us, g1, g2⟩ := CellsAt.load (P := P) (k := k) (c := c) (i := i + 0) (CellsAt.sub (cs := new) (fun j a ha => ⟨_, h3 j a ha, h4 j a ha⟩) 0 (m * sz'))
        have hl : ((new.drop 0).take (m * sz')).length = m * sz' := by rw [List.length_take, List.length_drop]; omega
        rw [hl] at g2
        exact ⟨us.toArray, by simpa [Builtin.firstCells] using g2, by simpa using g1⟩
      | sl0 hz0 =>
        obtain rfl : m = 0 := by simpa using hm
        exact ⟨#[], by simp only [Builtin.firstCells, Nat.zero_mul, loadCells, loadCellsFrom]; rfl, by simpa using RelL.nil k⟩
    · cases h
  · rename_i b o len cap
    split at h
    · rename_i cs e hc
      split at h
      · rename_i hle
        cases h
        obtain ⟨c, cap', rfl, hb, _, _⟩ := hx.msInv
        · obtain ⟨g, _⟩ := hI.cellsAt hc hb
          have hlen : ((cs.drop o).take (len * sz)).length = len * sz := by rw [List.length_take, List.length_drop]; omega
          rw [hlen] at hms
          obtain ⟨us, g1, g2⟩ := (g.sub o (m * sz)).load (P := P)
          have hl : ((cs.drop o).take (m * sz)).length = m * sz := by rw [List.length_take, List.length_drop]; omega
          rw [hl, Nat.zero_add] at g2
          refine ⟨us.toArray, by simpa [Builtin.firstCells] using g2, ?_⟩
          rw [List.take_take, Nat.min_eq_left hms]
          exact g1
      · cases h
    · cases h
  · cases h

theorem copyOp_good (hI : Inv w0 σ k) {ats : Array TypeId} {ty t : TypeId} {dv sv : Value} {d s a : A} (h0 : ats[0]? = some t) (hd : Rel k d dv) (hs : Rel k s sv) (h : copyOp P t d s σ = some (a, σ')) :
    ∃ k' v, (Builtin.copy_ ats ty #[dv, sv]).run P k.w = .ok v k'.w ∧ Rel k' a v ∧ Inv w0 σ' k' ∧ k.le k' := by
  unfold copyOp at h
  split at h
  case h_2 => cases h
  rename_i e hu
  split at h
  case h_2 => cases h
  rename_i i hi
  split at h
  case isFalse => cases h
  rename_i hsz
  split at h
  case h_2 => cases h
  rename_i new hn
  obtain ⟨n, us, l1, f1, r1, e1⟩ := appended_good (P := P) hI hsz hs hn
  have hnn : new.length / i.size = n := by rw [e1, Nat.mul_div_cancel _ hsz]
  have hpre : ∀ base dLen cap, dv = .slice base dLen cap → (Builtin.copy_ ats ty #[dv, sv]).run P k.w = (((Builtin.firstCells i.size (min n dLen) sv).run P k.w).andThen fun cells w' => ((match base with | some a => storeCells a cells.toList | none => pure ()).run P w').andThen fun _ w'' => .ok (goInt (min n dLen : Nat)) w'') := by
    rintro base dLen cap rfl
    simp only [Builtin.copy_, h0, List.getElem?_toArray, List.getElem?_cons_zero, List.getElem?_cons_succ, Sem.run_bind, run_underlying hu, Result.andThen_ok, run_sizeOf' hi, l1]
    cases base <;> simp [Nat.min_def] <;> rfl
  split at h
  · rename_i b o len cap
    split at h
    case h_2 => cases h
    rename_i cs e' hc
    split at h
    case isFalse => cases h
    rename_i hq
    obtain ⟨hone, hfit⟩ := hq
    cases h
    obtain ⟨c, cap', rfl, hb, _, _⟩ := hd.msInv
    · rw [hnn]
      obtain ⟨us', g1, g2⟩ := appended_take (P := P) hI hsz hs hn (min n len) (by rw [hnn]; exact Nat.min_le_left _ _)
      have hml : min n len * i.size ≤ len * i.size := Nat.mul_le_mul_right _ (Nat.min_le_right _ _)
      have hnl : min n len * i.size ≤ new.length := by rw [e1]; exact Nat.mul_le_mul_right _ (Nat.min_le_left _ _)
      have hul : us'.toList.length = min n len * i.size := by rw [← g2.1, List.length_take]; omega
      have hone' : allOne (new.take (min n len * i.size)) = true := List.all_eq_true.2 (fun x hx => (List.all_eq_true.1 hone) x (List.mem_of_mem_take hx))
      obtain ⟨vs, e2, h4, h5, _, q1, q2⟩ := hI.storeRow (o := o) hc hb g2 (by rw [g2.1, hul]; omega)
      have hst := run_stores P c e2 0 0 us'.toList o 0 vs k.w h4 (by rw [hul]; omega) (allOne_mem g2 hone') (.inl rfl)
      refine ⟨_, .int .i64 (min n len : Nat), ?_, rel_int, q1, q2⟩
      rw [hpre _ _ _ rfl, g1]
      simp only [Result.andThen_ok, hst, Nat.add_zero, K.wd, goInt]
  · cases h
    obtain rfl := rel_v_inv hd
    obtain ⟨us', g1, g2⟩ := appended_take (P := P) hI hsz hs hn 0 (Nat.zero_le _)
    refine ⟨k, .int .i64 0, ?_, rel_int, hI, K.le.refl k⟩
    rw [hpre _ _ _ rfl]
    simp only [Nat.min_zero, g1, Result.andThen_ok, Sem.run_pure, goInt]
    rfl
  · rename_i sz cs ap
    split at h
    · rename_i hnil
      subst hnil
      cases h
      obtain ⟨c, cap, rfl⟩ := hd.slInv
      have hn0 : n = 0 := by
        rcases Nat.eq_zero_or_pos n with h | h
        · exact h
        · have := Nat.mul_pos h hsz; simp at e1; omega
      subst hn0
      obtain ⟨us', g1, g2⟩ := appended_take (P := P) hI hsz hs hn 0 (Nat.zero_le _)
      have : us' = #[] := by
        have := g2.1
        simp at this
        exact Array.eq_empty_of_size_eq_zero this.symm
      subst this
      refine ⟨k, .int .i64 0, ?_, rel_int, hI, K.le.refl k⟩
      rw [hpre _ _ _ rfl]
      simp only [Nat.zero_min, g1, Result.andThen_ok, storeCells, Sem.run_pure, goInt]
      rfl
    · cases h
  · cases h

theorem eqA_good {t : TypeId} {x y : A} {u v : Value} {b : Bool} (hx : Rel k x u) (hy : Rel k y v) (h : eqA P t x y = some b) :
    (∀ op p q, (eqGuard op t p q u v).run P k.w = .ok () k.w) ∧ (binOp .eql t u v).run P k.w = .ok (.bool b) k.w ∧ (binOp .neq t u v).run P k.w = .ok (.bool !b) k.w := by
  have fin : ∀ (hq : (∀ op p q, (eqGuard op t p q u v).run P k.w = .ok () k.w)) (h1 : binOp .eql t u v = (do pure (.bool (← Op.equal t u v)))) (h2 : binOp .neq t u v = (do pure (.bool (!(← Op.equal t u v))))) (h3 : ∀ d, (Op.equalIn (d + 1) t u v).run P k.w = .ok b k.w), _ :=
    fun hq h1 h2 h4 => have h3 : (Op.equal t u v).run P k.w = .ok b k.w := h4 9999; (⟨hq, by rw [h1]; simp [h3], by rw [h2]; simp [h3]⟩ : (∀ op p q, (eqGuard op t p q u v).run P k.w = .ok () k.w) ∧ (binOp .eql t u v).run P k.w = .ok (.bool b) k.w ∧ (binOp .neq t u v).run P k.w = .ok (.bool !b) k.w)
  unfold eqA at h
  split at h
  · rename_i hu; cases h
    obtain ⟨c, cap, rfl⟩ := hx.slInv
    obtain rfl := rel_v_inv hy
    exact fin (fun op p q => by simp [go_sem]) rfl rfl (fun d => by simp [Op.equalIn, run_underlying hu])
  · rename_i hu; cases h
    obtain ⟨c, cap, rfl⟩ := hy.slInv
    obtain rfl := rel_v_inv hx
    exact fin (fun op p q => by simp [go_sem]) rfl rfl (fun d => by simp [Op.equalIn, run_underlying hu])
  · rename_i hu; cases h
    obtain rfl := rel_v_inv hy
    cases hx <;>
    exact fin (fun op p q => by simp [go_sem]) rfl rfl (fun d => by simp [Op.equalIn, run_underlying hu])
  · rename_i hu; cases h
    obtain rfl := rel_v_inv hy
    cases hx
    exact fin (fun op p q => by simp [go_sem]) rfl rfl (fun d => by simp [Op.equalIn, run_underlying hu])
  · rename_i hu; cases h
    obtain rfl := rel_v_inv hx
    cases hy
    exact fin (fun op p q => by simp [go_sem]) rfl rfl (fun d => by simp [Op.equalIn, run_underlying hu])
  · rename_i e b1 o1 b2 o2 hu
    split at h
    · rename_i hbb
      subst hbb
      split at h
      · rename_i n hn
        split at h
        · cases h
        · rename_i hn0
          cases h
          cases hx with
          | ptr h1 => cases hy with
            | ptr h2 =>
              rw [h1] at h2; cases h2
              refine fin (fun op p q => by simp [go_sem]) rfl rfl (fun d => ?_)
              by_cases e : o1 = o2
              · subst e; simp [Op.equalIn, run_underlying hu, run_sizeOfT hn, sameAddr]
              · have hb : ∀ c, ((⟨c, o1, none⟩ : Addr) == ⟨c, o2, none⟩) = (o1 == o2) := fun c => by rw [Bool.eq_iff_iff]; simpa using e
                simp [Op.equalIn, run_underlying hu, run_sizeOfT hn, hn0, sameAddr, hb]
      · cases h
    · cases h
  · rename_i hu; cases h
    obtain rfl := rel_v_inv hy
    cases hx
    exact fin (fun op p q => by simp [go_sem]) rfl rfl (fun d => by simp [Op.equalIn, run_underlying hu])
  · rename_i hu; cases h
    obtain rfl := rel_v_inv hx
    cases hy
    exact fin (fun op p q => by simp [go_sem]) rfl rfl (fun d => by simp [Op.equalIn, run_underlying hu])
  · rename_i hu; cases h
    obtain rfl := rel_v_inv hy
    cases hx
    exact fin (fun op p q => by simp [go_sem]) rfl rfl (fun d => by simp [Op.equalIn, run_underlying hu])
  · rename_i hu; cases h
    obtain rfl := rel_v_inv hy
    cases hx
    exact fin (fun op p q => by simp [go_sem]) rfl rfl (fun d => by simp [Op.equalIn, run_underlying hu])
  · rename_i hu; cases h
    obtain rfl := rel_v_inv hx
    cases hy
    exact fin (fun op p q => by simp [go_sem]) rfl rfl (fun d => by simp [Op.equalIn, run_underlying hu])
  · cases h
end
end Go.DM
namespace Go.DM
open Go Go.RowKit

section
variable {P : Program} {w0 : World} {σ σ' : St} {k : K}

theorem fold_set : ∀ (vs us : List Value) (off j : Nat), off + j + vs.length ≤ us.length →
    (vs.zipIdx j).foldl (fun (cs : Array Value) (x : Value × Nat) => cs.setIfInBounds (off + x.2) x.1) us.toArray = (us.take (off + j) ++ vs ++ us.drop (off + j + vs.length)).toArray
  | [], us, off, j, _ => by simp
  | v :: vs, us, off, j, h => by
    simp only [List.zipIdx_cons, List.foldl_cons]
    have e : (us.toArray.setIfInBounds (off + j) v) = (us.set (off + j) v).toArray := by simp
    rw [e, fold_set vs (us.set (off + j) v) off (j + 1) (by simp at h ⊢; omega)]
    have hlen : off + j < us.length := by simp at h; omega
    have e1 : off + (j + 1) = off + j + 1 := by omega
    have h1 : List.take (off + j + 1) (us.set (off + j) v) = us.take (off + j) ++ [v] := by
      rw [List.take_succ_eq_append_getElem (by simp; exact hlen)]
      simp [List.take_set]
      rw [List.set_eq_of_length_le (by rw [List.length_take]; exact Nat.min_le_left _ _)]
    rw [e1, h1, List.drop_set]
    simp only [List.length_cons]
    rw [if_pos (by omega)]
    simp only [List.append_assoc, List.cons_append, List.nil_append]
    rw [show off + j + 1 + vs.length = off + j + (vs.length + 1) by omega]

def PartsRel (k : K) (l : List (Nat × A)) (m : List (Nat × Value)) : Prop := l.length = m.length ∧ ∀ (j : Nat) (x : Nat × A) (y : Nat × Value), l[j]? = some x → m[j]? = some y → y.1 = x.1 ∧ Rel k x.2 y.2
theorem PartsRel.tail {x : Nat × A} {y : Nat × Value} {l : List (Nat × A)} {m : List (Nat × Value)} (h : PartsRel k (x :: l) (y :: m)) : y.1 = x.1 ∧ Rel k x.2 y.2 ∧ PartsRel k l m :=
  ⟨(h.2 0 x y rfl rfl).1, (h.2 0 x y rfl rfl).2, by simpa using h.1, fun j a b ha hb => h.2 (j + 1) a b (by simpa using ha) (by simpa using hb)⟩

theorem lay_fill {place : Nat → Option (Nat × Nat)} : ∀ {l : List (Nat × A)} {m : List (Nat × Value)} {cs cs' : List A} {us : List Value}, RelL k cs us → PartsRel k l m → (∀ x ∈ l, x.2 ≠ .junk) → lay place cs l = some cs' →
    ∃ us', Instr.fill place us.toArray m = some us'.toArray ∧ RelL k cs' us'
  | [], m, cs, cs', us, hr, hp, _, h => by
    simp only [lay] at h; cases h
    have : m = [] := List.eq_nil_of_length_eq_zero (by simpa using hp.1.symm)
    subst this
    exact ⟨us, rfl, hr⟩
  | (i, x) :: l, m, cs, cs', us, hr, hp, hj, h => by
    match m, hp with
    | (i', v) :: m, hp =>
      obtain ⟨h1, h2, h3⟩ := hp.tail
      simp only at h1 h2
      subst h1
      simp only [lay] at h
      split at h
      · cases h
      · rename_i off size hpl
        split at h
        · rename_i hq
          obtain ⟨q1, q2⟩ := hq
          have hc := h2.cells (hj (i', x) (by simp))
          have hl : v.cells.toList.length = size := by rw [← hc.1]; exact q1
          have hl' : v.cells.size = size := by simpa using hl
          obtain ⟨us', g1, g2⟩ := lay_fill (place := place) (RelL.splice hr hc off) h3 (fun y hy => hj y (by simp [hy])) h
          refine ⟨us', ?_, g2⟩
          simp only [Instr.fill, hpl]
          rw [if_neg (by
            simp only [hl', List.size_toArray, ← hr.1]
            simp; omega)]
          rw [← g1]
          congr 1
          have := fold_set v.cells.toList us off 0 (by rw [hl, ← hr.1]; simpa using q2)
          simp only [Nat.add_zero] at this
          rw [← this, ← Array.foldl_toList]
          simp
        · cases h

theorem run_places' (w : World) : ∀ {fs : List Field} {ps : List (Nat × Nat)}, places P fs = some ps → (fs.mapM fun f => do pure (f.offset, ← sizeOf f.type) : Sem (List (Nat × Nat))).run P w = .ok ps w
  | [], ps, h => by simp only [places] at h; cases h; rfl
  | f :: fs, ps, h => by
    simp only [places] at h
    split at h
    · rename_i n l h1 h2
      cases h
      have := run_places' w h2
      simp only [List.mapM_cons, Sem.run_bind, run_sizeOfT h1, Result.andThen_ok, Sem.run_pure, this]
    · cases h

theorem buildOp_good {t : TypeId} {l : List (Nat × A)} {m : Array (Nat × Value)} {a : A} (hp : PartsRel k l m.toList) (hj : ∀ x ∈ l, x.2 ≠ .junk) (h : buildOp P t l = some a) : ∃ v, (Instr.build t m).run P k.w = .ok v k.w ∧ Rel k a v := by
  unfold buildOp at h
  split at h
  · rename_i fs z hu hz
    obtain ⟨i, zv, us, g1, g2, g3, g4⟩ := zeroOf_good (k := k) hz
    split at h
    · rename_i ps hps
      split at h
      · rename_i cs hl
        cases h
        obtain ⟨us', f1, f2⟩ := lay_fill (k := k) g4 hp hj hl
        refine ⟨.agg us'.toArray, ?_, relL_toArray f2⟩
        have hmap : (fs.mapM fun f => do pure (f.offset, ← sizeOf f.type) : Sem (Array (Nat × Nat))).run P k.w = .ok ps.toArray k.w := by
          rw [Array.mapM_eq_mapM_toList, Sem.run_map, run_places' k.w hps]
          rfl
        simp only [Instr.build, Sem.run_bind, run_zeroValue' g1 g2, Result.andThen_ok, run_underlying hu, hmap]
        have hf : Instr.fill (fun x => ps.toArray[x]?) zv.cells m.toList = some us'.toArray := by
          rw [g3, ← f1]
          congr 1
          funext x
          simp
        rw [hf]
        rfl
      · cases h
    · cases h
  · rename_i n e z hu hz
    obtain ⟨i, zv, us, g1, g2, g3, g4⟩ := zeroOf_good (k := k) hz
    split at h
    · rename_i sz hs
      split at h
      · rename_i cs hl
        cases h
        obtain ⟨us', f1, f2⟩ := lay_fill (k := k) g4 hp hj hl
        refine ⟨.agg us'.toArray, ?_, relL_toArray f2⟩
        simp only [Instr.build, Sem.run_bind, run_zeroValue' g1 g2, Result.andThen_ok, run_underlying hu, run_sizeOfT hs]
        rw [g3, f1]
        rfl
      · cases h
    · cases h
  · cases h

theorem length_rep (z : List A) : ∀ n, (rep n z).length = n * z.length
  | 0 => by simp [rep]
  | n + 1 => by rw [rep, List.length_append, length_rep z n, Nat.add_mul]; omega
theorem get_rep (z : List A) : ∀ n j, j < n * z.length → (rep n z)[j]? = z[j % z.length]?
  | 0, j, h => by simp at h
  | n + 1, j, h => by
    rw [rep]
    by_cases hj : j < z.length
    · rw [List.getElem?_append_left hj, Nat.mod_eq_of_lt hj]
    · rw [List.getElem?_append_right (by omega), get_rep z n (j - z.length) (by rw [Nat.add_mul] at h; omega)]
      congr 1
      exact (Nat.mod_eq_sub_mod (by omega)).symm
theorem rep_rel {z : List A} {us : List Value} (h : RelL k z us) (n : Nat) : RelL k (rep n z) ((Array.range (n * z.length)).map (us.toArray[· % us.toArray.size]!)).toList := by
  refine ⟨by simp [length_rep], fun j a u ha hu => ?_⟩
  have hj := lt_of_get ha
  rw [length_rep] at hj
  rw [get_rep z n j hj] at ha
  have hzp : 0 < z.length := by
    rcases Nat.eq_zero_or_pos z.length with h0 | h0
    · rw [h0] at hj; omega
    · exact h0
  have hm : j % z.length < us.length := by rw [← h.1]; exact Nat.mod_lt _ hzp
  simp only [Array.getElem?_toList, Array.getElem?_map, Option.map_eq_some_iff] at hu
  obtain ⟨j', hj', rfl⟩ := hu
  have : j' = j := by
    have := Array.getElem?_eq_some_iff.1 hj'
    obtain ⟨q, rfl⟩ := this
    simp
  subst this
  refine h.2 _ a _ ha ?_
  simp only [List.size_toArray]
  rw [← h.1, getElem!_pos (c := us.toArray) (h := by simpa using hm)]
  simp [hm]

theorem buildSliceOp_run (k : K) {t : TypeId} {len : Nat} {l : List (Nat × A)} {m : Array (Nat × Value)} {a : A} (hp : PartsRel k l m.toList) (hj : ∀ x ∈ l, x.2 ≠ .junk) (h : buildSliceOp P t len l = some a) :
    ∃ (e : TypeId) (sz : Nat) (cs : List A) (us' : List Value), P.underlying t = some (.slice e) ∧ a = .sl sz cs .ex ∧ RelL k cs us' ∧ 0 < sz ∧ cs.length = len * sz ∧ (Instr.buildSlice t len m).run P k.w = .ok (.slice (some ⟨k.w.heap.size, 0, none⟩) len len) (k.w.alloc (.cells us'.toArray e)) := by
  unfold buildSliceOp at h
  split at h
  case h_2 => cases h
  rename_i e hu
  split at h
  case h_2 => cases h
  rename_i sz hs
  split at h
  case isFalse => cases h
  rename_i hc
  obtain ⟨hz, hbig⟩ := hc
  split at h
  case h_2 => cases h
  rename_i z hzz
  split at h
  case isFalse => cases h
  rename_i hlz
  split at h
  case h_2 => cases h
  rename_i cs hl
  cases h
  obtain ⟨zu, hzr, hzrun⟩ : ∃ zu : List Value, RelL k z zu ∧ ((len = 0 ∧ zu = []) ∨ (len ≠ 0 ∧ ∃ i zv, P.info? e = some i ∧ i.zero = some zv ∧ zv.cells = zu.toArray)) := by
    by_cases h0 : len = 0
    · rw [if_pos h0] at hzz; cases hzz
      exact ⟨[], RelL.nil k, .inl ⟨h0, rfl⟩⟩
    · rw [if_neg h0] at hzz
      obtain ⟨i, zv, us, g1, g2, g3, g4⟩ := zeroOf_good (k := k) hzz
      exact ⟨us, g4, .inr ⟨h0, i, zv, g1, g2, g3⟩⟩
  have hlen : len * z.length = len * sz := by
    rcases hlz with h0 | h0
    · rw [h0]; simp
    · rw [h0]
  have hr0 := rep_rel hzr len
  obtain ⟨us', f1, f2⟩ := lay_fill (k := k) hr0 hp hj hl
  have hcs : cs.length = len * sz := by
    have hlay : ∀ (l : List (Nat × A)) (c0 c1 : List A), lay (fun i => some (i * sz, sz)) c0 l = some c1 → c1.length = c0.length := by
      intro l
      induction l with
      | nil => intro c0 c1 h; simp only [lay] at h; cases h; rfl
      | cons x l ih =>
        intro c0 c1 h
        obtain ⟨i, x⟩ := x
        simp only [lay] at h
        split at h
        · rename_i hq
          rw [ih _ _ h]
          simp only [splice, List.length_append, List.length_take, List.length_drop]
          omega
        · cases h
    rw [hlay _ _ _ hl, length_rep]; exact hlen
  refine ⟨e, sz, cs, us', hu, rfl, f2, hz, hcs, ?_⟩
  have hb : ¬ len * sz > 2 ^ 24 := by
    have : (2 : Nat) ^ 24 = 16777216 := by decide
    omega
  simp only [Instr.buildSlice, Sem.run_bind, run_underlying hu, Result.andThen_ok, run_sizeOfT hs, Sem.run_ite]
  rw [if_neg hb]
  have hf : Instr.fill (fun i => some (i * sz, sz)) ((Array.range (len * sz)).map (zu.toArray[· % zu.toArray.size]!)) m.toList = some us'.toArray := by
    rw [← f1, hlen]
  rcases hzrun with ⟨h0, rfl⟩ | ⟨h0, i, zv, g5, g6, g7⟩
  · have hz0 : len * sz = 0 := by rw [h0, Nat.zero_mul]
    simp only [Sem.run_pure, Result.andThen_ok]
    rw [if_pos hz0, show (#[] : Array Value) = ([] : List Value).toArray from rfl, hf]
    simp [newRow]
  · have hz0 : ¬ len * sz = 0 := Nat.mul_ne_zero h0 (by omega)
    simp only [Sem.run_pure, Result.andThen_ok, run_zeroValue' g5 g6]
    rw [if_neg hz0, g7, hf]
    simp [newRow]
theorem buildSliceOp_good (hI : Inv w0 σ k) {t : TypeId} {len : Nat} {l : List (Nat × A)} {m : Array (Nat × Value)} {a : A} (hp : PartsRel k l m.toList) (hj : ∀ x ∈ l, x.2 ≠ .junk) (h : buildSliceOp P t len l = some a) :
    ∃ k' v, (Instr.buildSlice t len m).run P k.w = .ok v k'.w ∧ Rel k' a v ∧ Inv w0 σ k' ∧ k.le k' := by
  obtain ⟨e, sz, cs, us', hu, rfl, f2, hz, hcs, hrun⟩ := buildSliceOp_run k hp hj h
  obtain ⟨g1, g2, g3, g4⟩ := hI.lay (us := us'.toArray) (e := e) (fr := (0, 0)) (n := us'.length) (by simp)
  have hdiv : cs.length / sz = len := by rw [hcs, Nat.mul_div_cancel _ hz]
  refine ⟨_, .slice (some ⟨k.w.heap.size, 0, none⟩) len len, hrun, ?_, g1, g2⟩
  suffices key : Rel (k.lay (.cells us'.toArray e (0, 0)) us'.length) (.sl sz cs .ex) (.slice (some ⟨k.w.heap.size, 0, none⟩) (cs.length / sz) (cs.length / sz)) by
    rw [hdiv] at key; exact key
  have hr := f2.mono g2
  have hblk : (k.w.alloc (.cells us'.toArray e)).heap[k.w.heap.size]? = some (.cells us'.toArray e (0, 0)) := heap_alloc_same k.w _
  refine .sl (n := us'.length) (fun j => us'.getD j undef) g3 (by rw [hr.1]; omega) (fun j a ha => ?_) (fun j a ha => ?_) hz (by rw [hdiv]; exact hcs) (Nat.le_refl _) ⟨rfl, by rw [g2.base, hI.base]; exact hI.below.size, g4⟩
  · obtain ⟨u, w1, _⟩ := hr.get ha
    refine (cell_get hblk).trans ?_
    simp [List.getD, w1]
  · obtain ⟨u, w1, w2⟩ := hr.get ha
    simp only [List.getD, w1, Option.getD_some]
    exact w2
theorem buildSliceM_good (hI : Inv w0 σ k) {t : TypeId} {len : Nat} {l : List (Nat × A)} {m : Array (Nat × Value)} {a : A} {σ' : St} (hp : PartsRel k l m.toList) (hj : ∀ x ∈ l, x.2 ≠ .junk) (h : buildSliceM P t len l σ = some (a, σ')) :
    ∃ k' v, (Instr.buildSlice t len m).run P k.w = .ok v k'.w ∧ Rel k' a v ∧ Inv w0 σ' k' ∧ k.le k' := by
  unfold buildSliceM at h
  split at h
  case h_2 => cases h
  rename_i e hu
  split at h
  case h_2 => cases h
  rename_i sz cs ap hb
  split at h
  · cases h
    exact buildSliceOp_good hI hp hj hb
  split at h
  case isFalse => cases h
  rename_i hc
  cases h
  obtain ⟨e', sz', cs', us', hu', ha, f2, hz, hcs, hrun⟩ := buildSliceOp_run k hp hj hb
  rw [hu] at hu'
  cases hu'
  cases ha
  obtain ⟨q1, q2, q3⟩ := hI.push (x := .cells cs e) (o := .cells us'.toArray e) (.of f2)
  exact ⟨_, _, hrun, .ms q3 (Nat.le_refl _) hc, q1, q2⟩
end
end Go.DM
