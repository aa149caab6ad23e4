/- The D-machine: rules for ranges over strings, and one more library function by hand. No condition. -/
import Derived.Test.YtamnkpmfnphjlaaDoorDmF
import Derived.Shelf.Strings.Repeat
namespace Go.DM
open Go Go.RowKit

section
variable {C : Cfg} {n : Nat} {ops : Array Oper} {o : Oper} {l : List Oper} {F : List (Nat × A)} {σ : St} {L : List Res} {d : Nat} {Q : X → Fr → St → Prop}
theorem Eo.range {t : TypeId} {x : Operand} {s : ByteArray} (hp : Hp σ L) (hx : evL C F x = some (.v (.string s))) (ht' : C.P.underlying t = some .string) (hop : o.op = .range t x) (hw : wantedL ops F o = some true) (hd : o.dst = some d) (ht : Nat.ble (d + 1) n = true)
    (h : ∀ b σ', Hp σ' (.blk b (.siter s 0) :: L) → Eo C n ops l ((d, .ptr b 0) :: F) σ' Q) : Eo C n ops (o :: l) F σ Q :=
  Eo.val (x := .ptr σ.next 0) (σ' := σ.push (.siter s 0)) (by simp only [op, hop, hx, rangeOp, ht', wrapS]) hw hd ht (h _ _ (hp.push _))
theorem Eo.next {x : Operand} {b pos : Nat} {s : ByteArray} (hp : Hp σ L) (i : Nat) (hi : L[i]? = some (.blk b (.siter s pos))) (hx : evL C F x = some (.ptr b 0)) (hop : o.op = .next x true) (hw : wantedL ops F o = some true) (hd : o.dst = some d) (ht : Nat.ble (d + 1) n = true)
    (h1 : decide (pos < s.size) = true → ∀ σ', Hp σ' (L.set i (.blk b (.siter s (pos + (Utf8.decode s pos).2)))) → Eo C n ops l ((d, .tup [.v (.bool true), .v (.int .i64 (pos : Nat)), .v (.int .i32 (Utf8.decode s pos).1)]) :: F) σ' Q)
    (h2 : decide (pos < s.size) = false → Eo C n ops l ((d, .tup [.v (.bool false)]) :: F) σ Q) : Eo C n ops (o :: l) F σ Q := by
  have hg := hp.get hi
  by_cases hc : pos < s.size
  · exact Eo.val (x := .tup [.v (.bool true), .v (.int .i64 (pos : Nat)), .v (.int .i32 (Utf8.decode s pos).1)]) (σ' := σ.put b (.siter s (pos + (Utf8.decode s pos).2))) (by simp only [op, hop, hx, nextOp, hg, wrapS]; rw [if_pos hc]) hw hd ht (h1 (by simpa using hc) _ (hp.put hi))
  · exact Eo.val (x := .tup [.v (.bool false)]) (σ' := σ) (by simp only [op, hop, hx, nextOp, hg, wrapS]; rw [if_neg hc]) hw hd ht (h2 (by simpa using hc))
end

def repeatT (s : ByteArray) (c : Int) : Option ByteArray := if 0 ≤ c ∧ c ≤ 9223372036854775807 ∧ s.size * c.toNat ≤ 140737488355328 then some ⟨(Lib.repeatL s.data.toList c.toNat).toArray⟩ else none
def repeatG : List A → St → Option (A × St)
  | [.v (.string s), .v (.int .i64 c)], σ => (repeatT s c).map fun b => (.v (.string b), σ)
  | _, _ => none
theorem repeatT_ok {C : Cfg} {f : FuncId} {σ : St} {R : List Res} {s : ByteArray} {c : Int} (hf : C.prim f = some repeatG) (hp : Hp σ R) {r : ByteArray} (H : repeatT s c = some r) : Ca C f [.v (.string s), .v (.int .i64 c)] σ (fun x σ' => x = .v (.string r) ∧ Hp σ' R) :=
  Ca.prim hf (σ' := σ) (x := .v (.string r)) (by simp [repeatG, H]) ⟨rfl, hp⟩
end Go.DM
namespace Go.DM
open Go Go.RowKit

def isApp (o : Oper) : Bool := match o.op with
  | .call c => match c.callee with
    | .builtin .append => true
    | _ => false
  | _ => false
def isLoad (o : Oper) : Bool := match o.op with
  | .load .. => true
  | _ => false
def qaAt (ops : Array Oper) (k : Nat) : Bool := match ops[k]? with
  | some o => isQuiet o || isApp o
  | none => false
def drawSt2 (P : Program) (ops : Array Oper) (bef : Array Nat) : Bool :=
  (List.range ops.size).all fun j => match ops[j]? with
    | none => false
    | some o => strSlice P o && (List.range j).all fun i => match ops[i]? with
        | none => false
        | some p => bfr bef i j || (isQuiet p == isQuiet o) || statPure p || statPure o || ((isLoad p || isLoad o) && (List.range (j + 1)).all fun k => decide (k < i) || qaAt ops k)
theorem drawSt2_slice {P : Program} {ops : Array Oper} {bef : Array Nat} (h : drawSt2 P ops bef = true) {j : Nat} {o : Oper} (hj : ops[j]? = some o) : strSlice P o = true := by
  have hlt := (Array.getElem?_eq_some_iff.1 hj).1
  have := (List.all_eq_true.1 h) j (List.mem_range.2 hlt)
  simp only [hj, Bool.and_eq_true] at this
  exact this.1
theorem drawSt2_pair {P : Program} {ops : Array Oper} {bef : Array Nat} (h : drawSt2 P ops bef = true) {i j : Nat} {o p : Oper} (hij : i < j) (hi : ops[i]? = some p) (hj : ops[j]? = some o) (hq : isQuiet p ≠ isQuiet o) :
    bfr bef i j = true ∨ statPure p = true ∨ statPure o = true ∨ ((isLoad p = true ∨ isLoad o = true) ∧ ∀ k, i ≤ k → k ≤ j → qaAt ops k = true) := by
  have hlt := (Array.getElem?_eq_some_iff.1 hj).1
  have := (List.all_eq_true.1 h) j (List.mem_range.2 hlt)
  simp only [hj, Bool.and_eq_true] at this
  have := (List.all_eq_true.1 this.2) i (List.mem_range.2 hij)
  simp only [hi, Bool.or_eq_true, beq_iff_eq, Bool.and_eq_true] at this
  rcases this with (((h | h) | h) | h) | h
  · exact .inl h
  · exact absurd h hq
  · exact .inr (.inl h)
  · exact .inr (.inr (.inl h))
  · refine .inr (.inr (.inr ⟨h.1, fun k h1 h2 => ?_⟩))
    have := (List.all_eq_true.1 h.2) k (List.mem_range.2 (by omega))
    simp only [Bool.or_eq_true, decide_eq_true_eq] at this
    exact this.resolve_left (by omega)
section
variable {C : Cfg} {ρ : Operand → Option A} {o : Oper} {σ σ' : St}
theorem appendOp_blks {t : TypeId} {s x y : A} (h : appendOp C.P t s x σ = some (y, σ')) : σ'.blks = σ.blks := by
  unfold appendOp at h
  repeat' split at h
  all_goals first | (cases h; rfl) | (cases h; done)
theorem app_blks (ha : isApp o = true) {r : R} (h : op C ρ o σ = some r) : ∃ x s, r = .val x s ∧ s.blks = σ.blks := by
  unfold isApp at ha
  split at ha
  · rename_i c hop
    split at ha
    · rename_i hc
      simp only [op, hop, hc] at h
      unfold builtinOp at h
      split at h
      · split at h
        · split at h
          · cases h
          · unfold wrapS at h
            split at h
            · rename_i hh; cases h; exact ⟨_, _, rfl, appendOp_blks hh⟩
            · cases h
          · cases h
        · cases h
      all_goals first | (rename_i h1 _; cases h1; done) | skip
      all_goals (exfalso; simp_all)
    · cases ha
  · cases ha
theorem load_blks (hl : isLoad o = true) (hb : σ'.blks = σ.blks) : opQ C ρ o σ' = opQ C ρ o σ := by
  unfold isLoad at hl
  split at hl
  · rename_i t a hop
    unfold opQ
    simp only [hop, op]
    cases ρ a with
    | none => rfl
    | some x =>
      have : loadOp C.P t x σ' = loadOp C.P t x σ := by
        unfold loadOp St.cells
        rw [hb]
      simp only [this]
      cases loadOp C.P t x σ <;> rfl
  · cases hl
theorem load_quiet (h : isLoad o = true) : isQuiet o = true := by
  unfold isLoad at h
  split at h
  · rename_i t a hop; unfold isQuiet; rw [hop]
  · cases h
end
theorem sameA_of {C : Cfg} {φ : Fr} {o : Oper} {σ : St} {x : A} (h : opQ C (ev C φ) o σ = some x) : sameA C φ o σ x = true := by
  unfold sameA
  rw [h]
  simp [A.same_self]
theorem runDr_of2 {C : Cfg} {callF : CallF} {n : Nat} {ops : Array Oper} {bef : Array Nat} (hst : drawSt2 C.P ops bef = true) : ∀ (l : List Oper) (j : Nat) (φ : Fr) (σ : St) (past : List (Nat × St)) (pend : List (Nat × Fr × Oper × A)) (φ' : Fr) (σ' : St),
    (∀ i, l[i]? = ops[j + i]?) → (∀ p ∈ past, p.1 < j ∧ (∃ o, ops[p.1]? = some o ∧ isQuiet o = false) ∧ ((∀ k, p.1 ≤ k → k < j → qaAt ops k = true) → p.2.blks = σ.blks)) →
    (∀ p ∈ pend, p.1 < j ∧ ops[p.1]? = some p.2.2.1 ∧ isQuiet p.2.2.1 = true ∧ (isLoad p.2.2.1 = true → (∀ k, p.1 ≤ k → k < j → qaAt ops k = true) → opQ C (ev C p.2.1) p.2.2.1 σ = some p.2.2.2)) →
    runOps C callF n ops l φ σ = some (.normal, φ', σ') → runDr C callF n ops bef l j φ σ past pend = some (.normal, φ', σ')
  | [], j, φ, σ, past, pend, φ', σ', _, _, _, h => by simp only [runOps] at h; simp only [runDr]; exact h
  | o :: l, j, φ, σ, past, pend, φ', σ', hl, hpa, hpe, h => by
    have ho : ops[j]? = some o := by have := hl 0; simpa using this.symm
    have hl' : ∀ i, l[i]? = ops[j + 1 + i]? := fun i => by have := hl (i + 1); rw [List.getElem?_cons_succ] at this; rw [this]; congr 1; omega
    have hpa' : ∀ p ∈ past, p.1 < j + 1 ∧ (∃ o, ops[p.1]? = some o ∧ isQuiet o = false) ∧ ((∀ k, p.1 ≤ k → k < j + 1 → qaAt ops k = true) → p.2.blks = σ.blks) := fun p hp => ⟨Nat.lt_succ_of_lt (hpa p hp).1, (hpa p hp).2.1, fun h => (hpa p hp).2.2 fun k h1 h2 => h k h1 (by omega)⟩
    have hpe' : ∀ p ∈ pend, p.1 < j + 1 ∧ ops[p.1]? = some p.2.2.1 ∧ isQuiet p.2.2.1 = true ∧ (isLoad p.2.2.1 = true → (∀ k, p.1 ≤ k → k < j + 1 → qaAt ops k = true) → opQ C (ev C p.2.1) p.2.2.1 σ = some p.2.2.2) := fun p hp => ⟨Nat.lt_succ_of_lt (hpe p hp).1, (hpe p hp).2.1, (hpe p hp).2.2.1, fun hl h => (hpe p hp).2.2.2 hl fun k h1 h2 => h k h1 (by omega)⟩
    rw [runOps] at h
    rw [runDr]
    cases hw : wantedA ops φ o with
    | none => rw [hw] at h; cases h
    | some b =>
      rw [hw] at h
      cases b with
      | false =>
        simp only at h ⊢
        cases hp : putA n φ o.dst und with
        | none => rw [hp] at h; cases h
        | some φ3 => rw [hp] at h; exact runDr_of2 hst l (j + 1) _ _ _ _ _ _ hl' hpa' hpe' h
      | true =>
        simp only at h ⊢
        cases hop : op C (ev C φ) o σ with
        | none => rw [hop] at h; cases h
        | some r =>
          rw [hop] at h
          cases hq : isQuiet o with
          | true =>
            obtain ⟨x, rfl, hx⟩ := quiet_op hq (drawSt2_slice hst ho) hop
            simp only at h
            simp only [if_true, hx]
            have hsp : stableP C bef φ o j x past = true := by
              unfold stableP
              rw [List.all_eq_true]
              intro p hp
              obtain ⟨h1, ⟨p', h2, h3⟩, h4⟩ := hpa p hp
              simp only [Bool.or_eq_true]
              rcases drawSt2_pair hst h1 h2 ho (by rw [h3, hq]; simp) with hb | hb | hb | ⟨hb, hk⟩
              · exact .inl hb
              · have : isQuiet p' = true := by
                  unfold statPure at hb; unfold isQuiet
                  cases hop' : p'.op <;> simp only [hop'] at hb ⊢ <;> cases hb
                rw [h3] at this; cases this
              · right; unfold sameA; rw [statPure_pureQ hb]; rfl
              · right
                rcases hb with hb | hb
                · have := load_quiet hb; rw [h3] at this; cases this
                · have hbl := h4 fun k h1 h2 => hk k h1 (by omega)
                  exact sameA_of (by rw [load_blks hb hbl]; exact hx)
            rw [if_pos hsp]
            cases hp : putA n φ o.dst x with
            | none => rw [hp] at h; cases h
            | some φ3 =>
              rw [hp] at h
              refine runDr_of2 hst l (j + 1) _ _ _ _ _ _ hl' hpa' (fun p hp => ?_) h
              rcases List.mem_cons.1 hp with rfl | hp
              · exact ⟨Nat.lt_succ_self _, ho, hq, fun _ _ => hx⟩
              · exact hpe' p hp
          | false =>
            simp only [Bool.false_eq_true, if_false]
            have hqa : ∀ {y : A} {s : St}, loudStep C callF φ o σ = some (y, s) → qaAt ops j = true → s.blks = σ.blks := by
              intro y s hls hj
              unfold qaAt at hj
              rw [ho] at hj
              simp only [hq, Bool.false_or] at hj
              obtain ⟨x', s', rfl, hs'⟩ := app_blks hj hop
              unfold loudStep at hls
              rw [hop] at hls
              cases hls
              exact hs'
            have hsf : ∀ {y : A} {s : St}, loudStep C callF φ o σ = some (y, s) → stableF C bef j s pend = true := by
              intro y0 s hls
              unfold stableF
              rw [List.all_eq_true]
              intro p hp
              obtain ⟨h1, h2, h3, h4⟩ := hpe p hp
              obtain ⟨i, ψ, o', y⟩ := p
              simp only [Bool.or_eq_true]
              rcases drawSt2_pair hst h1 h2 ho (by simp only at h3; rw [h3, hq]; simp) with hb | hb | hb | ⟨hb, hk⟩
              · exact .inl hb
              · right; unfold sameA; rw [statPure_pureQ hb]; rfl
              · have : isQuiet o = true := by
                  unfold statPure at hb; unfold isQuiet
                  cases hop' : o.op <;> simp only [hop'] at hb ⊢ <;> cases hb
                rw [hq] at this; cases this
              · right
                rcases hb with hb | hb
                · have h5 := h4 hb fun k h1 h2 => hk k h1 (by omega)
                  have hbl := hqa hls (hk j (by simp only at h1; omega) (Nat.le_refl _))
                  exact sameA_of (by rw [load_blks hb hbl]; exact h5)
                · have := load_quiet hb; rw [hq] at this; cases this
            have next : ∀ (y : A) (s : St), (match putA n φ o.dst y with
                | some φ' => runOps C callF n ops l φ' s
                | none => none) = some (.normal, φ', σ') → loudStep C callF φ o σ = some (y, s) →
                (match loudStep C callF φ o σ with
                  | some (x, σ') => if stableF C bef j σ' pend then match putA n φ o.dst x with
                      | some φ' => runDr C callF n ops bef l (j + 1) φ' σ' ((j, σ) :: past) pend
                      | none => none
                    else none
                  | none => none) = some (.normal, φ', σ') := by
              intro y s h hls
              rw [hls]
              simp only
              rw [if_pos (hsf hls)]
              cases hp : putA n φ o.dst y with
              | none => rw [hp] at h; cases h
              | some φ3 =>
                rw [hp] at h
                refine runDr_of2 hst l (j + 1) _ _ _ _ _ _ hl' (fun p hp => ?_) (fun p hp => ?_) h
                · rcases List.mem_cons.1 hp with rfl | hp
                  · exact ⟨Nat.lt_succ_self _, ⟨o, ho, hq⟩, fun hk => (hqa hls (hk j (Nat.le_refl _) (Nat.lt_succ_self _))).symm⟩
                  · obtain ⟨g1, g2, g3⟩ := hpa' p hp
                    exact ⟨g1, g2, fun hk => (g3 hk).trans (hqa hls (hk j (by have := (hpa p hp).1; omega) (Nat.lt_succ_self _))).symm⟩
                · obtain ⟨g1, g2, g3, g4⟩ := hpe' p hp
                  exact ⟨g1, g2, g3, fun hld hk => by rw [load_blks hld (hqa hls (hk j (by have := (hpe p hp).1; omega) (Nat.lt_succ_self _)))]; exact g4 hld hk⟩
            cases r with
            | val y s => exact next y s h (by unfold loudStep; rw [hop])
            | skip s => exact next und s h (by unfold loudStep; rw [hop])
            | call f args s =>
              simp only at h
              cases hf : callF f args s with
              | none => rw [hf] at h; cases h
              | some q =>
                rw [hf] at h
                obtain ⟨out, s2⟩ := q
                cases out with
                | ret y => exact next y s2 h (by unfold loudStep; rw [hop]; simp only [hf])
                | pan y => simp only at h; cases h
            | pan y s => simp only at h; cases h
            | dfr f args s => have := op_dfr hop; rw [drawSt2_slice hst ho] at this; cases this
            | rcv s => cases h
theorem Ec.drawn2 {C : Cfg} {n : Nat} {F : List (Nat × A)} {σ : St} {Q : X → Fr → St → Prop} {id : Nat} {ops : Array Oper} (hd : (drawOk ops (Region.before ops) && drawSt2 C.P ops (Region.before ops)) = true) (h : Eo C n ops ops.toList F σ (fun x φ s => x = .normal ∧ Q x φ s)) : Ec C n (.region id ops true) F σ Q := by
  rw [Bool.and_eq_true] at hd
  obtain ⟨N, x, φ0, φ', σ', ⟨rfl, h1⟩, h2, h3⟩ := h
  have := runDr_of2 hd.2 ops.toList 0 (toFr F) σ [] [] φ' σ' (fun i => by simp) (fun p hp => by cases hp) (fun p hp => by cases hp) h3
  exact Ex.drawn hd.1 ⟨N, _, φ0, φ', σ', h1, h2, this⟩
end Go.DM
