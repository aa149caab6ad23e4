/- The D-machine: rules for ranges over strings, and one more library function by hand. No condition. -/
import Derived.Test.YtnkingoidodnlaaGreatDoorDmF
import Derived.Shelf.Strings.Repeat
import Derived.Lib.AtoiAll
import Derived.Lib.ItoaNum
namespace Go.DM
open Go Go.RowKit

section
variable {C : Cfg} {n : Nat} {ops : Array Oper} {o : Oper} {l : List Oper} {F : List (Nat × A)} {σ : St} {L : List Res} {d : Nat} {Q : X → Fr → St → Prop}
end

end Go.DM
namespace Go.DM
open Go Go.RowKit

def isApp (o : Oper) : Bool := match o.op with
 | .call c => match c.callee with
  | .builtin .append => true
  | _ => false
 | _ => false
def isLoad (o : Oper) : Bool := match o.op with
 | .load .. => true
 | _ => false
def qaAt (ops : Array Oper) (k : Nat) : Bool := match ops[k]? with
 | some o => isQuiet o || isApp o
 | none => false
def drawSt2 (P : Program) (ops : Array Oper) (bef : Array Nat) : Bool :=
 (List.range ops.size).all fun j => match ops[j]? with
  | none => false
  | some o => strSlice P o && (List.range j).all fun i => match ops[i]? with
    | none => false
    | some p => bfr bef i j || (isQuiet p == isQuiet o) || statPure p || statPure o || ((isLoad p || isLoad o) && (List.range (j + 1)).all fun k => decide (k < i) || qaAt ops k)
theorem drawSt2_slice {P : Program} {ops : Array Oper} {bef : Array Nat} (h : drawSt2 P ops bef = true) {j : Nat} {o : Oper} (hj : ops[j]? = some o) : strSlice P o = true := by
 have hlt := (Array.getElem?_eq_some_iff.1 hj).1
 have := (List.all_eq_true.1 h) j (List.mem_range.2 hlt)
 simp only [hj, Bool.and_eq_true] at this
 exact this.1
theorem drawSt2_pair {P : Program} {ops : Array Oper} {bef : Array Nat} (h : drawSt2 P ops bef = true) {i j : Nat} {o p : Oper} (hij : i < j) (hi : ops[i]? = some p) (hj : ops[j]? = some o) (hq : isQuiet p ≠ isQuiet o) :
  bfr bef i j = true ∨ statPure p = true ∨ statPure o = true ∨ ((isLoad p = true ∨ isLoad o = true) ∧ ∀ k, i ≤ k → k ≤ j → qaAt ops k = true) := by
 have hlt := (Array.getElem?_eq_some_iff.1 hj).1
 have := (List.all_eq_true.1 h) j (List.mem_range.2 hlt)
 simp only [hj, Bool.and_eq_true] at this
 have := (List.all_eq_true.1 this.2) i (List.mem_range.2 hij)
 simp only [hi, Bool.or_eq_true, beq_iff_eq, Bool.and_eq_true] at this
 rcases this with (((h | h) | h) | h) | h
 ·exact .inl h
 ·exact absurd h hq
 ·exact .inr (.inl h)
 ·exact .inr (.inr (.inl h))
 ·refine .inr (.inr (.inr ⟨h.1, fun k h1 h2 => ?_⟩))
  have := (List.all_eq_true.1 h.2) k (List.mem_range.2 (by omega))
  simp only [Bool.or_eq_true, decide_eq_true_eq] at this
  exact this.resolve_left (by omega)
section
variable {C : Cfg} {ρ : Operand → Option A} {o : Oper} {σ σ' : St}
theorem appendOp_blks {t : TypeId} {s x y : A} (h : Ey C.P t s x σ = some (y, σ')) : σ'.blks = σ.blks := by
 unfold Ey at h
 repeat' split at h
 all_goals first | (cases h; rfl) | (cases h; done)
theorem app_blks (ha : isApp o = true) {r : R} (h : op C ρ o σ = some r) : ∃ x s, r = .val x s ∧ s.blks = σ.blks := by
 unfold isApp at ha
 split at ha
 ·rename_i c hop
  split at ha
  ·rename_i hc
   simp only [op, hop, hc] at h
   unfold Fo at h
   split at h
   ·split at h
    ·split at h
     ·cases h
     ·unfold wrapS at h
      split at h
      ·rename_i hh; cases h; exact ⟨_, _, rfl, appendOp_blks hh⟩
      ·cases h
     ·cases h
    ·cases h
   all_goals first | (rename_i h1 _; cases h1; done) | skip
   all_goals (exfalso; simp_all)
  ·cases ha
 ·cases ha
theorem load_blks (hl : isLoad o = true) (hb : σ'.blks = σ.blks) : opQ C ρ o σ' = opQ C ρ o σ := by
 unfold isLoad at hl
 split at hl
 ·rename_i t a hop
  unfold opQ
  simp only [hop, op]
  cases ρ a with
  | none => rfl
  | some x =>
   have : loadOp C.P t x σ' = loadOp C.P t x σ := by
    unfold loadOp St.cells
    rw [hb]
   simp only [this]
   cases loadOp C.P t x σ <;> rfl
 ·cases hl
theorem load_quiet (h : isLoad o = true) : isQuiet o = true := by
 unfold isLoad at h
 split at h
 ·rename_i t a hop; unfold isQuiet; rw [hop]
 ·cases h
end
theorem sameA_of {C : Cfg} {φ : Fr} {o : Oper} {σ : St} {x : A} (h : opQ C (ev C φ) o σ = some x) : sameA C φ o σ x = true := by
 unfold sameA
 rw [h]
 simp [A.same_self]
theorem runDr_of2 {C : Cfg} {callF : CallF} {n : Nat} {ops : Array Oper} {bef : Array Nat} (hst : drawSt2 C.P ops bef = true) : ∀ (l : List Oper) (j : Nat) (φ : Fr) (σ : St) (past : List (Nat × St)) (pend : List (Nat × Fr × Oper × A)) (φ' : Fr) (σ' : St),
  (∀ i, l[i]? = ops[j + i]?) → (∀ p ∈ past, p.1 < j ∧ (∃ o, ops[p.1]? = some o ∧ isQuiet o = false) ∧ ((∀ k, p.1 ≤ k → k < j → qaAt ops k = true) → p.2.blks = σ.blks)) →
  (∀ p ∈ pend, p.1 < j ∧ ops[p.1]? = some p.2.2.1 ∧ isQuiet p.2.2.1 = true ∧ (isLoad p.2.2.1 = true → (∀ k, p.1 ≤ k → k < j → qaAt ops k = true) → opQ C (ev C p.2.1) p.2.2.1 σ = some p.2.2.2)) →
  Cn C callF n ops l φ σ = some (.normal, φ', σ') → runDr C callF n ops bef l j φ σ past pend = some (.normal, φ', σ')
 | [], j, φ, σ, past, pend, φ', σ', _, _, _, h => by simp only [Cn] at h; simp only [runDr]; exact h
 | o :: l, j, φ, σ, past, pend, φ', σ', hl, hpa, hpe, h => by
  have ho : ops[j]? = some o := by have := hl 0; simpa using this.symm
  have hl' : ∀ i, l[i]? = ops[j + 1 + i]? := fun i => by have := hl (i + 1); rw [List.getElem?_cons_succ] at this; rw [this]; congr 1; omega
  have hpa' : ∀ p ∈ past, p.1 < j + 1 ∧ (∃ o, ops[p.1]? = some o ∧ isQuiet o = false) ∧ ((∀ k, p.1 ≤ k → k < j + 1 → qaAt ops k = true) → p.2.blks = σ.blks) := fun p hp => ⟨Nat.lt_succ_of_lt (hpa p hp).1, (hpa p hp).2.1, fun h => (hpa p hp).2.2 fun k h1 h2 => h k h1 (by omega)⟩
  have hpe' : ∀ p ∈ pend, p.1 < j + 1 ∧ ops[p.1]? = some p.2.2.1 ∧ isQuiet p.2.2.1 = true ∧ (isLoad p.2.2.1 = true → (∀ k, p.1 ≤ k → k < j + 1 → qaAt ops k = true) → opQ C (ev C p.2.1) p.2.2.1 σ = some p.2.2.2) := fun p hp => ⟨Nat.lt_succ_of_lt (hpe p hp).1, (hpe p hp).2.1, (hpe p hp).2.2.1, fun hl h => (hpe p hp).2.2.2 hl fun k h1 h2 => h k h1 (by omega)⟩
  rw [Cn] at h
  rw [runDr]
  cases hw : B4 ops φ o with
  | none => rw [hw] at h; cases h
  | some b =>
   rw [hw] at h
   cases b with
   | false =>
    simp only at h ⊢
    cases hp : Du n φ o.dst und with
    | none => rw [hp] at h; cases h
    | some φ3 => rw [hp] at h; exact runDr_of2 hst l (j + 1) _ _ _ _ _ _ hl' hpa' hpe' h
   | true =>
    simp only at h ⊢
    cases hop : op C (ev C φ) o σ with
    | none => rw [hop] at h; cases h
    | some r =>
     rw [hop] at h
     cases hq : isQuiet o with
     | true =>
      obtain ⟨x, rfl, hx⟩ := quiet_op hq (drawSt2_slice hst ho) hop
      simp only at h
      simp only [if_true, hx]
      have hsp : F1 C bef φ o j x past = true := by
       unfold F1
       rw [List.all_eq_true]
       intro p hp
       obtain ⟨h1, ⟨p', h2, h3⟩, h4⟩ := hpa p hp
       simp only [Bool.or_eq_true]
       rcases drawSt2_pair hst h1 h2 ho (by rw [h3, hq]; simp) with hb | hb | hb | ⟨hb, hk⟩
       ·exact .inl hb
       ·have : isQuiet p' = true := by
         unfold statPure at hb; unfold isQuiet
         cases hop' : p'.op <;> simp only [hop'] at hb ⊢ <;> cases hb
        rw [h3] at this; cases this
       ·right; unfold sameA; rw [statPure_pureQ hb]; rfl
       ·right
        rcases hb with hb | hb
        ·have := load_quiet hb; rw [h3] at this; cases this
        ·have hbl := h4 fun k h1 h2 => hk k h1 (by omega)
         exact sameA_of (by rw [load_blks hb hbl]; exact hx)
      rw [if_pos hsp]
      cases hp : Du n φ o.dst x with
      | none => rw [hp] at h; cases h
      | some φ3 =>
       rw [hp] at h
       refine runDr_of2 hst l (j + 1) _ _ _ _ _ _ hl' hpa' (fun p hp => ?_) h
       rcases List.mem_cons.1 hp with rfl | hp
       ·exact ⟨Nat.lt_succ_self _, ho, hq, fun _ _ => hx⟩
       ·exact hpe' p hp
     | false =>
      simp only [Bool.false_eq_true, if_false]
      have hqa : ∀ {y : A} {s : St}, Cu C callF φ o σ = some (y, s) → qaAt ops j = true → s.blks = σ.blks := by
       intro y s hls hj
       unfold qaAt at hj
       rw [ho] at hj
       simp only [hq, Bool.false_or] at hj
       obtain ⟨x', s', rfl, hs'⟩ := app_blks hj hop
       unfold Cu at hls
       rw [hop] at hls
       cases hls
       exact hs'
      have hsf : ∀ {y : A} {s : St}, Cu C callF φ o σ = some (y, s) → Eh C bef j s pend = true := by
       intro y0 s hls
       unfold Eh
       rw [List.all_eq_true]
       intro p hp
       obtain ⟨h1, h2, h3, h4⟩ := hpe p hp
       obtain ⟨i, ψ, o', y⟩ := p
       simp only [Bool.or_eq_true]
       rcases drawSt2_pair hst h1 h2 ho (by simp only at h3; rw [h3, hq]; simp) with hb | hb | hb | ⟨hb, hk⟩
       ·exact .inl hb
       ·right; unfold sameA; rw [statPure_pureQ hb]; rfl
       ·have : isQuiet o = true := by
         unfold statPure at hb; unfold isQuiet
         cases hop' : o.op <;> simp only [hop'] at hb ⊢ <;> cases hb
        rw [hq] at this; cases this
       ·right
        rcases hb with hb | hb
        ·have h5 := h4 hb fun k h1 h2 => hk k h1 (by omega)
         have hbl := hqa hls (hk j (by simp only at h1; omega) (Nat.le_refl _))
         exact sameA_of (by rw [load_blks hb hbl]; exact h5)
        ·have := load_quiet hb; rw [hq] at this; cases this
      have next : ∀ (y : A) (s : St), (match Du n φ o.dst y with
        | some φ' => Cn C callF n ops l φ' s
        | none => none) = some (.normal, φ', σ') → Cu C callF φ o σ = some (y, s) →
        (match Cu C callF φ o σ with
         | some (x, σ') => if Eh C bef j σ' pend then match Du n φ o.dst x with
           | some φ' => runDr C callF n ops bef l (j + 1) φ' σ' ((j, σ) :: past) pend
           | none => none
          else none
         | none => none) = some (.normal, φ', σ') := by
       intro y s h hls
       rw [hls]
       simp only
       rw [if_pos (hsf hls)]
       cases hp : Du n φ o.dst y with
       | none => rw [hp] at h; cases h
       | some φ3 =>
        rw [hp] at h
        refine runDr_of2 hst l (j + 1) _ _ _ _ _ _ hl' (fun p hp => ?_) (fun p hp => ?_) h
        ·rcases List.mem_cons.1 hp with rfl | hp
         ·exact ⟨Nat.lt_succ_self _, ⟨o, ho, hq⟩, fun hk => (hqa hls (hk j (Nat.le_refl _) (Nat.lt_succ_self _))).symm⟩
         ·obtain ⟨g1, g2, g3⟩ := hpa' p hp
          exact ⟨g1, g2, fun hk => (g3 hk).trans (hqa hls (hk j (by have := (hpa p hp).1; omega) (Nat.lt_succ_self _))).symm⟩
        ·obtain ⟨g1, g2, g3, g4⟩ := hpe' p hp
         exact ⟨g1, g2, g3, fun hld hk => by rw [load_blks hld (hqa hls (hk j (by have := (hpe p hp).1; omega) (Nat.lt_succ_self _)))]; exact g4 hld hk⟩
      cases r with
      | val y s => exact next y s h (by unfold Cu; rw [hop])
      | skip s => exact next und s h (by unfold Cu; rw [hop])
      | call f args s =>
       simp only at h
       cases hf : callF f args s with
       | none => rw [hf] at h; cases h
       | some q =>
        rw [hf] at h
        obtain ⟨out, s2⟩ := q
        cases out with
        | ret y => exact next y s2 h (by unfold Cu; rw [hop]; simp only [hf])
        | pan y => simp only at h; cases h
      | pan y s => simp only at h; cases h
      | dfr f args s => have := op_dfr hop; rw [drawSt2_slice hst ho] at this; cases this
      | rcv s => cases h
theorem Fv {C : Cfg} {n : Nat} {F : List (Nat × A)} {σ : St} {Q : X → Fr → St → Prop} {id : Nat} {ops : Array Oper} (hd : (drawOk ops (Region.before ops) && drawSt2 C.P ops (Region.before ops)) = true) (h : Eo C n ops ops.toList F σ (fun x φ s => x = .normal ∧ Q x φ s)) : Ec C n (.region id ops true) F σ Q := by
 rw [Bool.and_eq_true] at hd
 obtain ⟨N, x, φ0, φ', σ', ⟨rfl, h1⟩, h2, h3⟩ := h
 have := runDr_of2 hd.2 ops.toList 0 (Dd F) σ [] [] φ' σ' (fun i => by simp) (fun p hp => by cases hp) (fun p hp => by cases hp) h3
 exact Ex.drawn hd.1 ⟨N, _, φ0, φ', σ', h1, h2, runDr_dq this⟩
end Go.DM
namespace Go.DM
open Go Go.RowKit

def CaO (C : Cfg) (f : FuncId) (args : List A) (σ : St) (K : Out → St → Prop) : Prop := ∃ out σ', Cl C f args σ out σ' ∧ K out σ'
def Fin (C : Cfg) (fn : Func) (K : Out → St → Prop) : X → Fr → St → Prop := fun e φ σ => φ.ds = [] ∧ match e with
 | .normal => ∃ l, resA C φ σ fn.results.toList = some l ∧ K (.ret (Cr l)) σ
 | .ret => ∃ l, resA C φ σ fn.results.toList = some l ∧ K (.ret (Cr l)) σ
 | .pan a => K (.pan a) σ
 | .exit _ => False
section
variable {C : Cfg} {n : Nat} {ops : Array Oper} {Q Q' : X → Fr → St → Prop} {F : List (Nat × A)} {σ σ' : St} {c a b : Code} {o : Oper} {l : List Oper} {d : Nat} {f : FuncId} {fn : Func} {args : List A} {K : Out → St → Prop}

theorem CaO.ca {K' : A → St → Prop} (h : CaO C f args σ K) (hp : ∀ a s, K (.pan a) s → False) (hr : ∀ x s, K (.ret x) s → K' x s) : Ca C f args σ K' := by
 obtain ⟨out, σ', h1, h2⟩ := h
 cases out with
 | ret x => exact ⟨x, σ', h1, hr _ _ h2⟩
 | pan a => exact (hp _ _ h2).elim
theorem CaO.enterL {G : List (Nat × A)} (hf : C.P.funcs[f]? = some fn) (hb : fn.body = some c) (hp : C.prim f = none) (hl : Nat.ble args.length fn.ntmps = true) (hG : Dd G = ⟨argFr 0 args, []⟩)
  (h : Ec C fn.ntmps c G σ (Fin C fn K)) : CaO C f args σ K := by
 unfold Ec at h
 rw [hG] at h
 obtain ⟨N, e, φ0, φ', σ', ⟨hds, h1⟩, h2, h3⟩ := h
 obtain ⟨ψ1, e1, e2⟩ := Ev (m := N + 1) (Fu (Nat.le_refl N)) (by omega) (Fr.le.refl _) h3
 have hle := h2.trans e2
 have hd : ψ1.ds = [] := by rw [hle.2, hds]
 have hl' := Nat.le_of_ble_eq_true hl
 cases e with
 | normal =>
  obtain ⟨xs, hres, hk⟩ := h1
  exact ⟨.ret (Cr xs), σ', Cl.of (k := N + 1) (by simp only [DM.call, hp, hf, hb, if_pos hl', e1, hd, leave, Hw hle hres]), hk⟩
 | ret =>
  obtain ⟨xs, hres, hk⟩ := h1
  exact ⟨.ret (Cr xs), σ', Cl.of (k := N + 1) (by simp only [DM.call, hp, hf, hb, if_pos hl', e1, hd, leave, Hw hle hres]), hk⟩
 | pan a => exact ⟨.pan a, σ', Cl.of (k := N + 1) (by simp only [DM.call, hp, hf, hb, if_pos hl', e1, hd, leave]), h1⟩
 | exit i => exact h1.elim

theorem Eo.panic {x : Operand} {t : TypeId} {a : A} (hop : o.op = .panic x) (hx : evL C F x = some (.ifc t a)) (hw : D3 ops F o = some true) (h : Q (.pan (.ifc t a)) (Dd F) σ) : Eo C n ops (o :: l) F σ Q := by
 refine ⟨0, _, Dd F, Dd F, σ, h, Fr.le.refl _, ?_⟩
 have hw' : B4 ops (Dd F) o = some true := by rw [D5]; exact hw
 simp only [Cn, hw', op, hop, Gg, hx]
theorem Fin.mk {xs : List A} (h : resL F fn.results.toList = some xs) (hk : K (.ret (Cr xs)) σ) : Fin C fn K .ret (Dd F) σ := ⟨rfl, xs, resL_resA h, hk⟩
theorem Fin.mkN {xs : List A} (h : resL F fn.results.toList = some xs) (hk : K (.ret (Cr xs)) σ) : Fin C fn K .normal (Dd F) σ := ⟨rfl, xs, resL_resA h, hk⟩
theorem Fin.mk' {xs : List A} (h : resA C (Dd F) σ fn.results.toList = some xs) (hk : K (.ret (Cr xs)) σ) : Fin C fn K .ret (Dd F) σ := ⟨rfl, xs, h, hk⟩
theorem Fin.pan {a : A} (hk : K (.pan a) σ) : Fin C fn K (.pan a) (Dd F) σ := ⟨rfl, hk⟩
end

def Fr.wds (φ : Fr) (D : List (FuncId × List A)) : Fr := { φ with ds := D }
theorem ev_wds (C : Cfg) (φ : Fr) (D : List (FuncId × List A)) : ev C (φ.wds D) = ev C φ := by funext o; cases o <;> rfl
theorem E4 (ops : Array Oper) (φ : Fr) (D : List (FuncId × List A)) (o : Oper) : B4 ops (φ.wds D) o = B4 ops φ o := rfl
theorem D4 {n : Nat} {φ φ' : Fr} {d : Option Tmp} {x : A} (h : Du n φ d x = some φ') (D : List (FuncId × List A)) : φ'.ds = φ.ds ∧ Du n (φ.wds D) d x = some (φ'.wds D) := by
 cases d with
 | none => simp only [Du] at h ⊢; cases h; exact ⟨rfl, rfl⟩
 | some t =>
  simp only [Du] at h ⊢
  split at h
  ·rename_i ht; cases h; exact ⟨rfl, by rw [if_pos ht]; rfl⟩
  ·cases h
theorem runOps_ds {C : Cfg} {callF : CallF} {n : Nat} {ops : Array Oper} : ∀ {l : List Oper} {φ φ' : Fr} {σ σ' : St} {x : X}, Cn C callF n ops l φ σ = some (x, φ', σ') →
  ∃ E, φ'.ds = E ++ φ.ds ∧ ∀ D, Cn C callF n ops l (φ.wds D) σ = some (x, φ'.wds (E ++ D), σ') := by
 intro l
 induction l with
 | nil => intro φ φ' σ σ' x h; simp only [Cn] at h; cases h; exact ⟨[], rfl, fun D => rfl⟩
 | cons o l ih =>
  intro φ φ' σ σ' x h
  simp only [Cn] at h
  split at h
  ·rename_i hw
   split at h
   ·rename_i y s ho
    split at h
    case h_2 => cases h
    rename_i φ3 hp
    obtain ⟨E, h1, h2⟩ := ih h
    refine ⟨E, by rw [h1, (D4 hp []).1], fun D => ?_⟩
    simp only [Cn, E4, hw, ev_wds, ho, (D4 hp D).2]
    exact h2 D
   ·rename_i s ho
    split at h
    case h_2 => cases h
    rename_i φ3 hp
    obtain ⟨E, h1, h2⟩ := ih h
    refine ⟨E, by rw [h1, (D4 hp []).1], fun D => ?_⟩
    simp only [Cn, E4, hw, ev_wds, ho, (D4 hp D).2]
    exact h2 D
   ·rename_i f args s ho
    split at h
    ·rename_i y s2 hcf
     split at h
     case h_2 => cases h
     rename_i φ3 hp
     obtain ⟨E, h1, h2⟩ := ih h
     refine ⟨E, by rw [h1, (D4 hp []).1], fun D => ?_⟩
     simp only [Cn, E4, hw, ev_wds, ho, hcf, (D4 hp D).2]
     exact h2 D
    ·rename_i y s2 hcf
     cases h
     exact ⟨[], rfl, fun D => by simp only [Cn, E4, hw, ev_wds, ho, hcf]; rfl⟩
    ·cases h
   ·rename_i f args s ho
    split at h
    case h_2 => cases h
    rename_i φ3 hp
    obtain ⟨E, h1, h2⟩ := ih h
    have hp0 := (D4 hp []).1
    refine ⟨E ++ [(f, args)], by rw [h1, hp0]; simp, fun D => ?_⟩
    have hp' : Du n ({ φ.wds D with ds := (f, args) :: (φ.wds D).ds } : Fr) o.dst und = some (φ3.wds ((f, args) :: D)) := (D4 hp ((f, args) :: D)).2
    simp only [Cn, E4, hw, ev_wds, ho, hp']
    rw [h2 ((f, args) :: D)]
    simp
   ·rename_i y s ho
    cases h
    exact ⟨[], rfl, fun D => by simp only [Cn, E4, hw, ev_wds, ho]; rfl⟩
   ·cases h
  ·rename_i hw
   split at h
   case h_2 => cases h
   rename_i φ3 hp
   obtain ⟨E, h1, h2⟩ := ih h
   refine ⟨E, by rw [h1, (D4 hp []).1], fun D => ?_⟩
   simp only [Cn, E4, hw, (D4 hp D).2]
   exact h2 D
  ·cases h
theorem loud_wds (C : Cfg) (callF : CallF) (φ : Fr) (D : List (FuncId × List A)) (o : Oper) (σ : St) : Cu C callF (φ.wds D) o σ = Cu C callF φ o σ := by
 unfold Cu
 rw [ev_wds]
theorem stableP_wds (C : Cfg) (bef : Array Nat) (φ : Fr) (D : List (FuncId × List A)) (o : Oper) (j : Nat) (x : A) (l : List (Nat × St)) : F1 C bef (φ.wds D) o j x l = F1 C bef φ o j x l := by
 unfold F1 sameA
 simp only [ev_wds]
theorem stableF_wds (C : Cfg) (bef : Array Nat) (i : Nat) (σ : St) (D : List (FuncId × List A)) (l : List (Nat × Fr × Oper × A)) : Eh C bef i σ (l.map fun p => (p.1, p.2.1.wds D, p.2.2)) = Eh C bef i σ l := by
 unfold Eh sameA
 rw [List.all_map]
 congr 1
theorem runDr_ds {C : Cfg} {callF : CallF} {n : Nat} {ops : Array Oper} {bef : Array Nat} : ∀ {l : List Oper} {j : Nat} {φ φ' : Fr} {σ σ' : St} {past : List (Nat × St)} {pend : List (Nat × Fr × Oper × A)} {x : X}, runDr C callF n ops bef l j φ σ past pend = some (x, φ', σ') →
  φ'.ds = φ.ds ∧ ∀ D, runDr C callF n ops bef l j (φ.wds D) σ past (pend.map fun p => (p.1, p.2.1.wds D, p.2.2)) = some (x, φ'.wds D, σ') := by
 intro l
 induction l with
 | nil => intro j φ φ' σ σ' past pend x h; simp only [runDr] at h; cases h; exact ⟨rfl, fun D => rfl⟩
 | cons o l ih =>
  intro j φ φ' σ σ' past pend x h
  simp only [runDr] at h
  split at h
  ·rename_i hw
   split at h
   ·rename_i hq
    split at h
    case h_2 => cases h
    rename_i y hy
    split at h
    case isFalse => cases h
    rename_i hs
    split at h
    case h_2 => cases h
    rename_i φ3 hp
    obtain ⟨h1, h2⟩ := ih h
    refine ⟨by rw [h1, (D4 hp []).1], fun D => ?_⟩
    simp only [runDr, E4, hw, hq, if_true, ev_wds, hy, stableP_wds, hs, (D4 hp D).2]
    exact h2 D
   ·rename_i hq
    split at h
    case h_2 => cases h
    rename_i y s hy
    split at h
    case isFalse => cases h
    rename_i hs
    split at h
    case h_2 => cases h
    rename_i φ3 hp
    obtain ⟨h1, h2⟩ := ih h
    refine ⟨by rw [h1, (D4 hp []).1], fun D => ?_⟩
    have hq' : isQuiet o = false := by simpa using hq
    simp only [runDr, E4, hw, hq', Bool.false_eq_true, if_false, loud_wds, hy, stableF_wds, hs, if_true, (D4 hp D).2]
    exact h2 D
  ·rename_i hw
   split at h
   case h_2 => cases h
   rename_i φ3 hp
   obtain ⟨h1, h2⟩ := ih h
   refine ⟨by rw [h1, (D4 hp []).1], fun D => ?_⟩
   simp only [runDr, E4, hw, (D4 hp D).2]
   exact h2 D
  ·cases h
theorem pan_wds (C : Cfg) (callF : CallF) (φ : Fr) (D : List (FuncId × List A)) (o : Oper) (σ : St) : panStep C callF (φ.wds D) o σ = panStep C callF φ o σ := by
 unfold panStep
 rw [ev_wds]
theorem junkF_wds : ∀ (l : List Oper) (φ : Fr) (D : List (FuncId × List A)), junkF l (φ.wds D) = (junkF l φ).wds D
 | [], _, _ => rfl
 | o :: l, φ, D => by
  show junkF l (junkO (φ.wds D) o) = (junkF l (junkO φ o)).wds D
  rw [← junkF_wds l]
  congr 1
  unfold junkO
  split <;> rfl
theorem runDv_wds {C : Cfg} {n : Nat} {ops : Array Oper} {bef : Array Nat} {p : Nat} : ∀ {l : List Oper} {j : Nat} {φ : Fr} {σ : St} {past : List (Nat × St)} {D : List (FuncId × List A)}, runDv C n ops bef p l j (φ.wds D) σ past = runDv C n ops bef p l j φ σ past
 | [], j, φ, σ, past, D => by simp only [runDv]
 | o :: l, j, φ, σ, past, D => by
  have put : ∀ x, Du n (φ.wds D) o.dst x = (Du n φ o.dst x).map (·.wds D) := by
   intro x
   cases hp : Du n φ o.dst x with
   | some φ3 => rw [(D4 hp D).2]; rfl
   | none =>
    cases hp2 : Du n (φ.wds D) o.dst x with
    | none => rfl
    | some φ3 =>
     have := (D4 hp2 φ.ds).2
     rw [show (φ.wds D).wds φ.ds = φ from rfl, hp] at this; cases this
  simp only [runDv, E4, ev_wds, stableP_wds, put]
  congr 1
  ·cases hp : Du n φ o.dst .junk with
   | none => rfl
   | some φ3 => exact runDv_wds
  ·cases hw : B4 ops φ o with
   | none => rfl
   | some t =>
    cases t with
    | true =>
     simp only
     congr 1
     ·cases hx : opQ C (ev C φ) o σ with
      | none => rfl
      | some x =>
       simp only
       congr 1
       cases hp : Du n φ o.dst x with
       | none => rfl
       | some φ3 => exact runDv_wds
     ·congr 1
      cases hp : Du n φ o.dst .junk with
      | none => rfl
      | some φ3 => exact runDv_wds
    | false =>
     simp only
     cases hp : Du n φ o.dst und with
     | none => rfl
     | some φ3 => exact runDv_wds
theorem runDq_ds {C : Cfg} {callF : CallF} {n : Nat} {ops : Array Oper} {bef : Array Nat} : ∀ {l : List Oper} {j : Nat} {φ φ' : Fr} {σ σ' : St} {past : List (Nat × St)} {pend : List (Nat × Fr × Oper × A)} {x : X}, G3 C callF n ops bef l j φ σ past pend = some (x, φ', σ') →
  φ'.ds = φ.ds ∧ ∀ D, G3 C callF n ops bef l j (φ.wds D) σ past (pend.map fun p => (p.1, p.2.1.wds D, p.2.2)) = some (x, φ'.wds D, σ') := by
 intro l
 induction l with
 | nil => intro j φ φ' σ σ' past pend x h; simp only [G3] at h; cases h; exact ⟨rfl, fun D => rfl⟩
 | cons o l ih =>
  intro j φ φ' σ σ' past pend x h
  simp only [G3] at h
  split at h
  ·rename_i hw
   split at h
   ·rename_i hq
    split at h
    case h_2 => cases h
    rename_i y hy
    split at h
    case isFalse => cases h
    rename_i hs
    split at h
    case h_2 => cases h
    rename_i φ3 hp
    obtain ⟨h1, h2⟩ := ih h
    refine ⟨by rw [h1, (D4 hp []).1], fun D => ?_⟩
    simp only [G3, E4, hw, hq, if_true, ev_wds, hy, stableP_wds, hs, (D4 hp D).2]
    exact h2 D
   ·rename_i hq
    have hq' : isQuiet o = false := by simpa using hq
    split at h
    ·rename_i y s hy
     split at h
     case isFalse => cases h
     rename_i hs
     split at h
     case h_2 => cases h
     rename_i φ3 hp
     obtain ⟨h1, h2⟩ := ih h
     refine ⟨by rw [h1, (D4 hp []).1], fun D => ?_⟩
     simp only [G3, E4, hw, hq', Bool.false_eq_true, if_false, loud_wds, hy, stableF_wds, hs, if_true, (D4 hp D).2]
     exact h2 D
    ·rename_i hy
     split at h
     case h_2 => cases h
     rename_i v s hv
     split at h
     case h_2 => cases h
     rename_i φ3 hp
     split at h
     case isFalse => cases h
     rename_i hdv
     cases h
     refine ⟨junkF_ds _ _, fun D => ?_⟩
     simp only [G3, E4, hw, hq', Bool.false_eq_true, if_false, loud_wds, hy, pan_wds, hv, (D4 hp D).2, runDv_wds, hdv, if_true, junkF_wds]
  ·rename_i hw
   split at h
   case h_2 => cases h
   rename_i φ3 hp
   obtain ⟨h1, h2⟩ := ih h
   refine ⟨by rw [h1, (D4 hp []).1], fun D => ?_⟩
   simp only [G3, E4, hw, (D4 hp D).2]
   exact h2 D
  ·cases h
theorem lateTail_ds {C : Cfg} {n : Nat} {p : LateP} {φ φ' : Fr} {σ σ' : St} {x : X} (h : G4 C n p φ σ = some (x, φ', σ')) : φ'.ds = φ.ds ∧ ∀ D, G4 C n p (φ.wds D) σ = some (x, φ'.wds D, σ') := by
 unfold G4 at h
 split at h
 case h_2 => cases h
 rename_i s z ti v x' h1 h2 h3 h4 h5
 split at h
 case h_2 => cases h
 rename_i a y σ3 hv
 cases h
 refine ⟨rfl, fun D => ?_⟩
 unfold G4
 have e : ∀ t, (φ.wds D).s.get t = φ.s.get t := fun _ => rfl
 simp only [e, h1, h2, h3, h4, h5, hv]
 rfl
theorem runOpen_ds {C : Cfg} {callF : CallF} {n : Nat} {ops : Array Oper} {φ φ' : Fr} {σ σ' : St} {x : X} (h : Jf C callF n ops φ σ = some (x, φ', σ')) : φ'.ds = φ.ds ∧ ∀ D, Jf C callF n ops (φ.wds D) σ = some (x, φ'.wds D, σ') := by
 unfold Jf at h
 split at h
 ·rename_i hd
  obtain ⟨h1, h2⟩ := runDq_ds h
  exact ⟨h1, fun D => by unfold Jf; rw [if_pos hd]; exact h2 D⟩
 ·rename_i hd
  unfold runLate at h
  split at h
  case h_2 => cases h
  rename_i p hp
  split at h
  case isFalse => cases h
  rename_i hst
  split at h
  case h_2 => cases h
  rename_i φ1 σ1 hrun
  obtain ⟨h1, h2⟩ := runDr_ds hrun
  obtain ⟨g1, g2⟩ := lateTail_ds h
  refine ⟨g1.trans h1, fun D => ?_⟩
  unfold Jf
  rw [if_neg hd]
  unfold runLate
  rw [hp]
  simp only [if_pos hst]
  have := h2 D
  simp only [List.map_nil] at this
  rw [this]
  exact g2 D
theorem exec_ds {C : Cfg} {callF : CallF} {n : Nat} : ∀ {k : Nat} {c : Code} {φ φ' : Fr} {σ σ' : St} {x : X}, Dg C callF n k c φ σ = some (x, φ', σ') →
  ∃ E, φ'.ds = E ++ φ.ds ∧ ∀ D, Dg C callF n k c (φ.wds D) σ = some (x, φ'.wds (E ++ D), σ') := by
 intro k
 induction k with
 | zero => intro c φ φ' σ σ' x h; simp only [Dg] at h; cases h
 | succ k ih =>
  intro c φ φ' σ σ' x h
  cases c with
  | skip => simp only [Dg] at h; cases h; exact ⟨[], rfl, fun D => rfl⟩
  | region id ops open_ =>
   cases open_ with
   | false =>
    simp only [Dg] at h
    obtain ⟨E, h1, h2⟩ := runOps_ds h
    exact ⟨E, h1, fun D => by simp only [Dg]; exact h2 D⟩
   | true =>
    simp only [Dg] at h
    obtain ⟨h1, h2⟩ := runOpen_ds h
    exact ⟨[], h1, fun D => by simp only [Dg]; exact h2 D⟩
  | seq a b =>
   simp only [Dg] at h
   split at h
   ·rename_i φ1 σ1 ha
    obtain ⟨E, h1, h2⟩ := ih ha
    obtain ⟨E', g1, g2⟩ := ih h
    exact ⟨E' ++ E, by rw [g1, h1]; simp, fun D => by simp only [Dg, h2 D, g2 (E ++ D)]; simp⟩
   ·rename_i hne
    obtain ⟨E, h1, h2⟩ := ih h
    refine ⟨E, h1, fun D => ?_⟩
    simp only [Dg, h2 D]
    cases x with
    | normal => exact (hne _ _ h).elim
    | _ => rfl
  | cond t a b =>
   simp only [Dg] at h
   split at h
   ·rename_i v hv
    obtain ⟨E, h1, h2⟩ := ih h
    exact ⟨E, h1, fun D => by simp only [Dg, ev_wds, hv]; exact h2 D⟩
   ·cases h
  | block id a =>
   simp only [Dg] at h
   split at h
   ·rename_i j φ1 σ1 ha
    obtain ⟨E, h1, h2⟩ := ih ha
    split at h
    ·rename_i hj
     cases h
     exact ⟨E, h1, fun D => by simp only [Dg, h2 D, if_pos hj]⟩
    ·rename_i hj
     cases h
     exact ⟨E, h1, fun D => by simp only [Dg, h2 D, if_neg hj]⟩
   ·rename_i hne
    obtain ⟨E, h1, h2⟩ := ih h
    refine ⟨E, h1, fun D => ?_⟩
    simp only [Dg, h2 D]
    cases x with
    | exit j => exact (hne _ _ _ h).elim
    | _ => rfl
  | loop a =>
   simp only [Dg] at h
   split at h
   ·rename_i φ1 σ1 ha
    obtain ⟨E, h1, h2⟩ := ih ha
    obtain ⟨E', g1, g2⟩ := ih h
    exact ⟨E' ++ E, by rw [g1, h1]; simp, fun D => by simp only [Dg, h2 D, g2 (E ++ D)]; simp⟩
   ·rename_i hne
    obtain ⟨E, h1, h2⟩ := ih h
    refine ⟨E, h1, fun D => ?_⟩
    simp only [Dg, h2 D]
    cases x with
    | normal => exact (hne _ _ h).elim
    | _ => rfl
  | exit id => simp only [Dg] at h; cases h; exact ⟨[], rfl, fun D => rfl⟩
  | ret => simp only [Dg] at h; cases h; exact ⟨[], rfl, fun D => rfl⟩
  | _ => simp only [Dg] at h; cases h

theorem Ex.ds {C : Cfg} {n : Nat} {c : Code} {φ : Fr} {σ : St} {Q : X → Fr → St → Prop} (h : Ex C n c φ σ Q) (hd : φ.ds = []) (D : List (FuncId × List A)) : Ex C n c (φ.wds D) σ (fun x ψ s => ∃ ψ0, ψ = Fr.wds ψ0 (ψ0.ds ++ D) ∧ Q x ψ0 s) := by
 obtain ⟨N, x, φ0, φ', σ', h1, h2, h3⟩ := h
 obtain ⟨E, g1, g2⟩ := exec_ds h3
 rw [hd, List.append_nil] at g1
 refine ⟨N, x, φ0.wds (φ0.ds ++ D), φ'.wds (E ++ D), σ', ⟨φ0, rfl, h1⟩, ⟨h2.1, ?_⟩, g2 D⟩
 show E ++ D = φ0.ds ++ D
 rw [← h2.2, g1]

def Lv (C : Cfg) (ds : List (FuncId × List A)) (σ : St) (p : Option A) (K : St → Option A → Prop) : Prop := ∃ N σ' p', leave C (call C N) N ds σ p = some (σ', p') ∧ K σ' p'
def Cd (C : Cfg) (f : FuncId) (args : List A) (σ : St) (p : Option A) (K : St → Option A → Prop) : Prop := ∃ N σ' p', callD C (call C N) N f args σ p = some (σ', p') ∧ K σ' p'
def FinD (C : Cfg) (fn : Func) (K : Out → St → Prop) : X → Fr → St → Prop := fun e φ σ => match e with
 | .normal => Lv C φ.ds σ none fun s p => p = none ∧ ∃ l, resA C φ s fn.results.toList = some l ∧ K (.ret (Cr l)) s
 | .ret => Lv C φ.ds σ none fun s p => p = none ∧ ∃ l, resA C φ s fn.results.toList = some l ∧ K (.ret (Cr l)) s
 | .pan a => Lv C φ.ds σ (some a) fun s p => (p = none ∧ ∃ l, resA C φ s fn.results.toList = some l ∧ K (.ret (Cr l)) s) ∨ ∃ b, p = some b ∧ K (.pan b) s
 | .exit _ => False
section
variable {C : Cfg} {n : Nat} {σ : St} {c : Code} {f : FuncId} {fn : Func} {args : List A} {K : Out → St → Prop} {p : Option A} {KL : St → Option A → Prop}
theorem Lv.nil (h : KL σ p) : Lv C [] σ p KL := ⟨0, σ, p, rfl, h⟩
theorem Lv.cons {r : List (FuncId × List A)} (h : Cd C f args σ p (fun s q => Lv C r s q KL)) : Lv C ((f, args) :: r) σ p KL := by
 obtain ⟨N, s, q, h1, M, s2, q2, h2, h3⟩ := h
 have e1 := callD_mono (Fu (m := N + M) (by omega)) (show N ≤ N + M by omega) h1
 have e2 := leave_mono (Fu (m := N + M) (by omega)) (show M ≤ N + M by omega) h2
 exact ⟨N + M, s2, q2, by simp only [leave, e1, e2], h3⟩
theorem Cd.imp {KL' : St → Option A → Prop} (h : Cd C f args σ p KL) (hq : ∀ s q, KL s q → KL' s q) : Cd C f args σ p KL' := by
 obtain ⟨N, s, q, h1, h2⟩ := h
 exact ⟨N, s, q, h1, hq _ _ h2⟩
theorem CaO.enterD {G : List (Nat × A)} (hf : C.P.funcs[f]? = some fn) (hb : fn.body = some c) (hp : C.prim f = none) (hl : Nat.ble args.length fn.ntmps = true) (hG : Dd G = ⟨argFr 0 args, []⟩)
  (h : Ec C fn.ntmps c G σ (FinD C fn K)) : CaO C f args σ K := by
 unfold Ec at h
 rw [hG] at h
 obtain ⟨N, e, φ0, φ', σ', h1, h2, h3⟩ := h
 have hl' := Nat.le_of_ble_eq_true hl
 have run : ∀ M, N ≤ M → ∃ ψ1, Dg C (call C M) fn.ntmps (M + 1) c ⟨argFr 0 args, []⟩ σ = some (e, ψ1, σ') ∧ φ0.le ψ1 := fun M hM => by
  obtain ⟨ψ1, e1, e2⟩ := Ev (m := M + 1) (Fu hM) (by omega) (Fr.le.refl _) h3
  exact ⟨ψ1, e1, h2.trans e2⟩
 have good : ∀ (p : Option A) (KL : St → Option A → Prop), Lv C φ0.ds σ' p KL → ∃ M ψ1 s q, Dg C (call C M) fn.ntmps (M + 1) c ⟨argFr 0 args, []⟩ σ = some (e, ψ1, σ') ∧ φ0.le ψ1 ∧ leave C (call C M) (M + 1) ψ1.ds σ' p = some (s, q) ∧ KL s q := by
  rintro p KL ⟨M, s, q, g1, g2⟩
  obtain ⟨ψ1, e1, e2⟩ := run (N + M) (by omega)
  refine ⟨N + M, ψ1, s, q, e1, e2, ?_, g2⟩
  rw [e2.2]
  exact leave_mono (Fu (m := N + M) (by omega)) (by omega) g1
 cases e with
 | normal =>
  obtain ⟨M, ψ1, s, q, e1, e2, e3, rfl, l, hr, hk⟩ := good _ _ h1
  exact ⟨.ret (Cr l), s, Cl.of (k := M + 1) (by simp only [DM.call, hp, hf, hb, if_pos hl', e1, e3, Hw e2 hr]), hk⟩
 | ret =>
  obtain ⟨M, ψ1, s, q, e1, e2, e3, rfl, l, hr, hk⟩ := good _ _ h1
  exact ⟨.ret (Cr l), s, Cl.of (k := M + 1) (by simp only [DM.call, hp, hf, hb, if_pos hl', e1, e3, Hw e2 hr]), hk⟩
 | pan a =>
  obtain ⟨M, ψ1, s, q, e1, e2, e3, h4⟩ := good _ _ h1
  rcases h4 with ⟨rfl, l, hr, hk⟩ | ⟨b, rfl, hk⟩
  ·exact ⟨.ret (Cr l), s, Cl.of (k := M + 1) (by simp only [DM.call, hp, hf, hb, if_pos hl', e1, e3, Hw e2 hr]), hk⟩
  ·exact ⟨.pan b, s, Cl.of (k := M + 1) (by simp only [DM.call, hp, hf, hb, if_pos hl', e1, e3]), hk⟩
 | exit i => exact h1.elim
end

theorem runOpsS_of {C : Cfg} {callF : CallF} {n : Nat} {ops : Array Oper} (p : Option A) : ∀ {l : List Oper} {φ φ' : Fr} {σ σ' : St}, Cn C callF n ops l φ σ = some (.normal, φ', σ') → φ'.ds = φ.ds → Hz C callF n ops l φ σ p = some (.normal, φ', σ', p) := by
 intro l
 induction l with
 | nil => intro φ φ' σ σ' h _; simp only [Cn] at h; cases h; rfl
 | cons o l ih =>
  intro φ φ' σ σ' h hd
  simp only [Cn] at h
  simp only [Hz]
  split at h
  ·rename_i hw
   split at h
   ·rename_i y s ho
    split at h
    case h_2 => cases h
    rename_i φ3 hp
    simp only [ho, hp]
    exact ih h (by rw [hd, (D4 hp []).1])
   ·rename_i s ho
    split at h
    case h_2 => cases h
    rename_i φ3 hp
    simp only [ho, hp]
    exact ih h (by rw [hd, (D4 hp []).1])
   ·rename_i f args s ho
    split at h
    ·rename_i y s2 hcf
     split at h
     case h_2 => cases h
     rename_i φ3 hp
     simp only [ho, hcf, hp]
     exact ih h (by rw [hd, (D4 hp []).1])
    ·cases h
    ·cases h
   ·rename_i f args s ho
    split at h
    case h_2 => cases h
    rename_i φ3 hp
    obtain ⟨E, h1, _⟩ := runOps_ds h
    have hp0 := (D4 hp []).1
    rw [hd, hp0] at h1
    have := congrArg List.length h1
    simp at this
    omega
   ·cases h
   ·cases h
  ·rename_i hw
   split at h
   case h_2 => cases h
   rename_i φ3 hp
   exact ih h (by rw [hd, (D4 hp []).1])
  ·cases h
theorem execS_of {C : Cfg} {callF : CallF} {n : Nat} (p : Option A) : ∀ {k : Nat} {c : Code} {φ φ' : Fr} {σ σ' : St} {x : X}, Dg C callF n k c φ σ = some (x, φ', σ') → x = .normal ∨ x = .ret → φ'.ds = φ.ds → G5 C callF n k c φ σ p = some (x, φ', σ', p) := by
 intro k
 induction k with
 | zero => intro c φ φ' σ σ' x h; simp only [Dg] at h; cases h
 | succ k ih =>
  intro c φ φ' σ σ' x h hx hd
  have fall : ∀ c', Dg C callF n (k + 1) c' φ σ = some (x, φ', σ') → (match Dg C callF n (k + 1) c' φ σ with
   | some (.normal, φ', σ') => some (X.normal, φ', σ', p)
   | some (.ret, φ', σ') => some (X.ret, φ', σ', p)
   | _ => none) = some (x, φ', σ', p) := by
   intro c' h
   rw [h]
   rcases hx with rfl | rfl <;> rfl
  cases c with
  | region id ops open_ =>
   cases open_ with
   | false =>
    simp only [Dg] at h
    simp only [G5]
    have hx' : x = .normal := by
     rcases hx with rfl | rfl
     ·rfl
     ·exfalso
      have key : ∀ (l : List Oper) (φ φ' : Fr) (σ σ' : St), Cn C callF n ops l φ σ = some (.ret, φ', σ') → False := by
       intro l
       induction l with
       | nil => intro φ φ' σ σ' h; simp only [Cn] at h; cases h
       | cons o l ih =>
        intro φ φ' σ σ' h
        simp only [Cn] at h
        repeat' (split at h)
        all_goals first | exact ih _ _ _ _ h | cases h
      exact key _ _ _ _ _ h
    subst hx'
    exact runOpsS_of p h hd
   | true => simp only [G5]; exact fall _ h
  | seq a b =>
   simp only [Dg] at h
   simp only [G5]
   split at h
   ·rename_i φ1 σ1 ha
    obtain ⟨E, h1, _⟩ := exec_ds ha
    obtain ⟨E', g1, _⟩ := exec_ds h
    have : φ1.ds = φ.ds := by
     rw [hd, h1] at g1
     have := congrArg List.length g1
     simp at this
     have hE : E = [] := List.eq_nil_of_length_eq_zero (by omega)
     rw [h1, hE]; rfl
    rw [ih ha (.inl rfl) this]
    exact ih h hx (by rw [hd, this])
   ·rename_i hne
    rw [ih h hx hd]
    rcases hx with rfl | rfl
    ·exact (hne _ _ h).elim
    ·rfl
  | cond t a b =>
   simp only [Dg] at h
   simp only [G5]
   split at h
   ·rename_i v hv
    exact ih h hx hd
   ·cases h
  | skip => simp only [G5]; exact fall _ h
  | block id a => simp only [G5]; exact fall _ h
  | loop a => simp only [G5]; exact fall _ h
  | exit id => simp only [G5]; exact fall _ h
  | ret => simp only [G5]; exact fall _ h
  | _ => simp only [Dg] at h; cases h
def EsC (C : Cfg) (n : Nat) (c : Code) (F : List (Nat × A)) (σ : St) (p : Option A) (Q : X → Fr → St → Option A → Prop) : Prop := ∃ N x φ0 φ' σ' p', Q x φ0 σ' p' ∧ φ0.le φ' ∧ G5 C (call C N) n N c (Dd F) σ p = some (x, φ', σ', p')
section
variable {C : Cfg} {n : Nat} {F G : List (Nat × A)} {σ : St} {p : Option A} {Q : X → Fr → St → Option A → Prop} {a b c : Code} {f : FuncId} {fn : Func} {args : List A} {K : St → Option A → Prop}
theorem EsC.of (h : Ec C n c F σ (fun x φ s => (x = .normal ∨ x = .ret) ∧ φ.ds = [] ∧ Q x φ s p)) : EsC C n c F σ p Q := by
 obtain ⟨N, x, φ0, φ', σ', ⟨h1, hd, h2⟩, h3, h4⟩ := h
 exact ⟨N, x, φ0, φ', σ', p, h2, h3, execS_of p h4 h1 (by rw [h3.2, hd]; rfl)⟩
theorem EsC.up {H : List (Nat × A)} {φ : Fr} (h : EsC C n c H σ p Q) (hle : Fl H φ) : ∃ N x φ0 φ' σ' p', Q x φ0 σ' p' ∧ φ0.le φ' ∧ G5 C (call C N) n N c φ σ p = some (x, φ', σ', p') := by
 obtain ⟨N, x, φ0, φ', σ', p', h1, h2, h3⟩ := h
 obtain ⟨ψ, g1, g2⟩ := execS_mono (Fu (Nat.le_refl N)) (Nat.le_refl N) hle h3
 exact ⟨N, x, φ0, ψ, σ', p', h1, h2.trans g2, g1⟩
theorem EsC.seq (h : EsC C n a F σ p (fun x φ s q => x = .normal ∧ ∃ G, Fl G φ ∧ EsC C n b G s q Q)) : EsC C n (.seq a b) F σ p Q := by
 obtain ⟨N, x, φ0, φ', σ', p', ⟨rfl, G, hG, h1⟩, h2, h3⟩ := h
 obtain ⟨M, y, φ1, φ2, σ2, p2, g1, g2, g3⟩ := h1.up (Fr.le.trans hG h2)
 obtain ⟨ψ1, e1, e2⟩ := execS_mono (m := N + M) (Fu (m := N + M + 1) (by omega)) (by omega) (Fr.le.refl _) h3
 obtain ⟨ψ2, e3, e4⟩ := execS_mono (m := N + M) (Fu (m := N + M + 1) (by omega)) (by omega) e2 g3
 exact ⟨N + M + 1, y, φ1, ψ2, σ2, p2, g1, g2.trans e4, by simp only [G5, e1, e3]⟩
theorem EsC.rcv {id : Nat} {ops : Array Oper} {o : Oper} {r : List Oper} {d : Nat} (hl : ops.toList = o :: r) (ho : op C (evL C F) o σ = some (.rcv σ)) (hw : D3 ops F o = some true) (hd : o.dst = some d) (ht : Nat.ble (d + 1) n = true)
  (h : Eo C n ops r ((d, p.getD (.v .nilIface)) :: F) σ (fun x φ s => x = .normal ∧ φ.ds = [] ∧ Q .normal φ s none)) : EsC C n (.region id ops false) F σ p Q := by
 obtain ⟨N, x, φ0, φ', σ', ⟨rfl, hds, h1⟩, h2, h3⟩ := h
 obtain ⟨ψ, e1, e2⟩ := Fp (Fu (m := N + 1) (by omega)) (Fr.le.refl _) h3
 have hle := h2.trans e2
 have := runOpsS_of none e1 (by rw [hle.2, hds]; rfl)
 refine ⟨N + 1, .normal, φ0, ψ, σ', none, h1, hle, ?_⟩
 have hw' : B4 ops (Dd F) o = some true := by rw [D5]; exact hw
 have hp' : Du n (Dd F) o.dst (p.getD (.v .nilIface)) = some (Dd ((d, p.getD (.v .nilIface)) :: F)) := by rw [hd]; exact Jj (Nat.le_of_ble_eq_true ht)
 simp only [G5, hl, Hz, hw', Gg, ho, hp']
 exact this
theorem Cd.enter (hf : C.P.funcs[f]? = some fn) (hb : fn.body = some c) (hl : Nat.ble args.length fn.ntmps = true) (hn : (fn.name != "runtime.NumGoroutine") = true) (hG : Dd G = ⟨argFr 0 args, []⟩)
  (h : EsC C fn.ntmps c G σ p (fun x φ s q => (x = .normal ∨ x = .ret) ∧ φ.ds = [] ∧ (∃ l, resA C φ s fn.results.toList = some l) ∧ K s q)) : Cd C f args σ p K := by
 obtain ⟨N, x, φ0, φ', σ', p', ⟨h1, hds, ⟨l, hr⟩, hk⟩, h2, h3⟩ := h
 rw [hG] at h3
 refine ⟨N, σ', p', ?_, hk⟩
 have hd' : φ'.ds = [] := by rw [h2.2, hds]
 have hn' : fn.name ≠ "runtime.NumGoroutine" := by simpa using hn
 unfold callD
 simp only [hf, hb]
 rw [if_pos ⟨Nat.le_of_ble_eq_true hl, hn'⟩, h3]
 rcases h1 with rfl | rfl <;> simp only [hd', Hw h2 hr]
end
end Go.DM
namespace Go.DM
open Go Go.RowKit

inductive PR (R P : Type) where
 | val (r : R)
 | pan (p : P)
def OutV (K : A → St → Prop) : Out → St → Prop
 | .ret x, s => K x s
 | .pan _, _ => False
def OutP (a : A) (L : List Res) : Out → St → Prop
 | .ret _, _ => False
 | .pan b, s => b = a ∧ Hp s L
def isIfaceD : TypeDesc → Bool
 | .interface _ => true
 | _ => false
section
variable {C : Cfg} {n : Nat} {ops : Array Oper} {Q Q0 : X → Fr → St → Prop} {F : List (Nat × A)} {σ σ' : St} {a b : Code} {o : Oper} {l : List Oper} {d : Nat} {f : FuncId} {fn : Func} {args : List A} {K : Out → St → Prop} {KV : A → St → Prop} {L : List Res}
theorem CaO.val (h : CaO C f args σ (OutV KV)) : Ca C f args σ KV := h.ca (fun _ _ h => h) (fun _ _ h => h)
theorem Ai (hc : CaO C f args σ' (OutV KV)) (ho : op C (evL C F) o σ = some (.call f args σ')) (hw : D3 ops F o = some true) (hd : o.dst = some d) (ht : Nat.ble (d + 1) n = true)
  (h : ∀ x σ'', KV x σ'' → Eo C n ops l ((d, x) :: F) σ'' Q) : Eo C n ops (o :: l) F σ Q := A2 ho hw hd ht hc.val h
theorem Aj {p : A} (hc : CaO C f args σ' (OutP p L)) (ho : op C (evL C F) o σ = some (.call f args σ')) (hw : D3 ops F o = some true)
  (h : ∀ σ'', Hp σ'' L → Q (.pan p) (Dd F) σ'') : Eo C n ops (o :: l) F σ Q := by
 obtain ⟨out, σ'', ⟨N, hN⟩, h2⟩ := hc
 cases out with
 | ret x => exact h2.elim
 | pan b =>
  obtain ⟨rfl, h3⟩ := h2
  have hw' : B4 ops (Dd F) o = some true := by rw [D5]; exact hw
  exact ⟨N, .pan b, Dd F, Dd F, σ'', h _ h3, Fr.le.refl _, by simp only [Cn, hw', Gg, ho, hN N (Nat.le_refl N)]⟩
theorem Eo.deferSeq {g : FuncId} (ho : op C (evL C F) o σ = some (.dfr g args σ)) (hw : D3 ops F o = some true) (hd : o.dst = none) (h : Ec C n b F σ (fun x ψ s => Q0 x (ψ.wds (ψ.ds ++ [(g, args)])) s)) :
  Eo C n ops [o] F σ (Then (fun φ' σ' => Ex C n b φ' σ' Q0) Q0) := by
 have h1 := Ex.imp (Q' := Q0) (by rintro x φ s ⟨ψ0, rfl, hq⟩; exact hq) (Ex.ds h rfl [(g, args)])
 have hw' : B4 ops (Dd F) o = some true := by rw [D5]; exact hw
 refine ⟨0, .normal, (Dd F).wds [(g, args)], (Dd F).wds [(g, args)], σ, h1, Fr.le.refl _, ?_⟩
 simp only [Cn, hw', Gg, ho, hd, Du]
 rfl
theorem resA_wds (φ : Fr) (D : List (FuncId × List A)) (s : St) : ∀ l : List ResultVar, resA C (φ.wds D) s l = resA C φ s l
 | [] => rfl
 | .tmp t :: r => by simp only [resA, resA_wds φ D s r]; rfl
 | .cell a t :: r => by simp only [resA, resA_wds φ D s r]; rfl
theorem FinD.ret0 {xs : List A} (h : resA C (Dd F) σ fn.results.toList = some xs) (hk : K (.ret (Cr xs)) σ) : FinD C fn K .ret (Dd F) σ := Lv.nil ⟨rfl, xs, h, hk⟩
theorem FinD.retD {g : FuncId} (h : Cd C g args σ none (fun s q => q = none ∧ ∃ xs, resA C (Dd F) s fn.results.toList = some xs ∧ K (.ret (Cr xs)) s)) : FinD C fn K .ret ((Dd F).wds ((Dd F).ds ++ [(g, args)])) σ :=
 Lv.cons (h.imp fun s q ⟨hq, xs, h1, h2⟩ => Lv.nil ⟨hq, xs, by rw [resA_wds]; exact h1, h2⟩)
theorem FinD.panD {g : FuncId} {p : A} (h : Cd C g args σ (some p) (fun s q => q = none ∧ ∃ xs, resA C (Dd F) s fn.results.toList = some xs ∧ K (.ret (Cr xs)) s)) : FinD C fn K (.pan p) ((Dd F).wds ((Dd F).ds ++ [(g, args)])) σ :=
 Lv.cons (h.imp fun s q ⟨hq, xs, h1, h2⟩ => Lv.nil (.inl ⟨hq, xs, by rw [resA_wds]; exact h1, h2⟩))
end
section
variable {C : Cfg} {ρ : Operand → Option A} {o : Oper} {σ : St}
theorem op_iface {t : TypeId} {x : Operand} {a : A} {d : TypeDesc} (hop : o.op = .makeInterface t x) (hx : ρ x = some a) (ht : C.P.underlying t = some d) (hd : isIfaceD d = false) : op C ρ o σ = some (.val (.ifc t a) σ) := by
 simp only [op, hop, hx, ht]
 cases d <;> first | rfl | (simp [isIfaceD] at hd)
theorem op_assert {s t : TypeId} {x : Operand} {a : A} {d : TypeDesc} (hop : o.op = .typeAssert x s t false) (hx : ρ x = some (.ifc t a)) (ht : C.P.underlying t = some d) (hd : isIfaceD d = false) : op C ρ o σ = some (.val a σ) := by
 simp only [op, hop, hx, typeAssertOp, ht]
 cases d <;> first | (simp [isIfaceD] at hd; done) | simp [wrapV]
theorem op_neNil {t u : TypeId} {ty : TypeId} {x y : Operand} {a : A} {d : TypeDesc} (hop : o.op = .binOp .neq t x y ty) (hx : ρ x = some (.ifc u a)) (hy : ρ y = some (.v .nilIface)) (ht : C.P.underlying t = some d) (hd : isIfaceD d = true) : op C ρ o σ = some (.val (.v (.bool true)) σ) := by
 cases d <;> first | (simp [isIfaceD] at hd; done) | simp [op, hop, hx, hy, eqA, ht]
def errA (t : TypeId) (b : Bool) : A := cond b (.ifc t .junk) (.v .nilIface)
end
section
variable {α : Type} {r r' : RepT α}
theorem Cells.mono {cs : List A} {l : List α} (h : ∀ x c, r.rep x c → r'.rep x c) (g : Cells r cs l) : Cells r' cs l := by
 induction g with
 | nil => exact .nil
 | cons hx _ ih => exact .cons (h _ _ hx) ih
theorem Sl.mono {a : A} {l : List α} (hz : r.sz = r'.sz) (h : ∀ x c, r.rep x c → r'.rep x c) (g : Sl r a l) : Sl r' a l := by
 rcases g with ⟨rfl, rfl⟩ | ⟨cs, ap, rfl, hc⟩
 ·exact .inl ⟨rfl, rfl⟩
 ·exact .inr ⟨cs, ap, by rw [hz], hc.mono h⟩
theorem Cells.sup {rD : Nat → RepT α} {cs : List A} {l : List α} (hm : ∀ d x c, (rD d).rep x c → (rD (d + 1)).rep x c) (hr : ∀ x c, r.rep x c → ∃ d, (rD d).rep x c) (g : Cells r cs l) : ∃ d, Cells (rD d) cs l := by
 have up : ∀ k d x c, (rD d).rep x c → (rD (d + k)).rep x c := by
  intro k
  induction k with
  | zero => exact fun _ _ _ h => h
  | succ k ih => exact fun d x c h => hm _ _ _ (ih d x c h)
 induction g with
 | nil => exact ⟨0, .nil⟩
 | cons hx _ ih =>
  obtain ⟨d1, h1⟩ := hr _ _ hx
  obtain ⟨d2, h2⟩ := ih
  refine ⟨d1 + d2, .cons (up d2 d1 _ _ h1) (h2.mono fun x c h => ?_)⟩
  rw [Nat.add_comm]; exact up d1 d2 x c h
theorem Sl.sup {rD : Nat → RepT α} {a : A} {l : List α} (hz : ∀ d, r.sz = (rD d).sz) (hm : ∀ d x c, (rD d).rep x c → (rD (d + 1)).rep x c) (hr : ∀ x c, r.rep x c → ∃ d, (rD d).rep x c) (g : Sl r a l) : ∃ d, Sl (rD d) a l := by
 rcases g with ⟨rfl, rfl⟩ | ⟨cs, ap, rfl, hc⟩
 ·exact ⟨0, .inl ⟨rfl, rfl⟩⟩
 ·obtain ⟨d, h⟩ := hc.sup hm hr
  exact ⟨d, .inr ⟨cs, ap, by rw [hz d], h⟩⟩
end

inductive TrialT where
 | mk (a : Int) (k : List TrialT)
end Go.DM
namespace Go.DM
open Go Go.RowKit
section
variable {C : Cfg} {ρ : Operand → Option A} {o : Oper} {σ : St}
theorem op_nilNil {t ty : TypeId} {x : Operand} {d : TypeDesc} (hop : o.op = .binOp .neq t x (.const .nilIface) ty) (hx : ρ x = some (.v .nilIface)) (hy : ρ (.const .nilIface) = some (.v .nilIface)) (ht : C.P.underlying t = some d) (hd : isIfaceD d = true) : op C ρ o σ = some (.val (.v (.bool false)) σ) := by
 cases d with
 | interface ms =>
  have hd : Ep C ρ o σ = some (.val (.v (.bool false)) σ) := by
   refine H0 (u := .bool false) ?_ ?_ rfl
   ·simp [hop, Op.operands, D7, hx, hy, G2]
   ·obtain ⟨m, hm⟩ : ∃ m, Op.maxDepth = m + 1 := ⟨9999, rfl⟩
    have hq : det C.P (Op.equalIn (m + 1) t .nilIface .nilIface) = some true := by
     simp [Op.equalIn, E1, E8, Dc ht]
    simp [execOp, hop, Ff hx, Ff hy, binOp, eqGuard, Op.equal, E1, E8, det_map, hm, hq]
  simp only [op, hop, hx, hy, eqA, ht]
  exact hd
 | _ => simp [isIfaceD] at hd
theorem op_eqErr {t u ty : TypeId} {x : Operand} {b : Bool} {d : TypeDesc} (hop : o.op = .binOp .eql t x (.const .nilIface) ty) (hx : ρ x = some (errA u b)) (hy : ρ (.const .nilIface) = some (.v .nilIface)) (ht : C.P.underlying t = some d) (hd : isIfaceD d = true) : op C ρ o σ = some (.val (.v (.bool (!b))) σ) := by
 cases d with
 | interface ms =>
  cases b with
  | true => simp [op, hop, hx, hy, eqA, ht, errA]
  | false =>
   have hx' : ρ x = some (.v .nilIface) := hx
   have hd : Ep C ρ o σ = some (.val (.v (.bool true)) σ) := by
    refine H0 (u := .bool true) ?_ ?_ rfl
    ·simp [hop, Op.operands, D7, hx', hy, G2]
    ·obtain ⟨m, hm⟩ : ∃ m, Op.maxDepth = m + 1 := ⟨9999, rfl⟩
     have hq : det C.P (Op.equalIn (m + 1) t .nilIface .nilIface) = some true := by
      simp [Op.equalIn, E1, E8, Dc ht]
     simp [execOp, hop, Ff hx', Ff hy, binOp, eqGuard, Op.equal, E1, E8, det_map, hm, hq]
   simp only [op, hop, hx', hy, eqA, ht]
   exact hd
 | _ => simp [isIfaceD] at hd
end
section
variable {C : Cfg} {F : List (Nat × A)} {φ : Fr} {σ : St} {fn : Func}
def FinR (C : Cfg) (fn : Func) (K : Out → St → Prop) : X → Fr → St → Prop
 | .ret, φ, σ => Fin C fn K .ret φ σ
 | .pan a, φ, σ => Fin C fn K (.pan a) φ σ
 | .normal, _, _ => False
 | .exit _, _, _ => False
theorem Ret.mkNφ {K : A → St → Prop} (hf : Fl F φ) (hr : fn.results.toList = []) (hk : K (Cr []) σ) : Ret C fn K .normal φ σ := ⟨.inl rfl, hf.2, [], by rw [hr]; rfl, hk⟩
theorem Fin.mkNφ {K : Out → St → Prop} (hf : Fl F φ) (hr : fn.results.toList = []) (hk : K (.ret (Cr [])) σ) : Fin C fn K .normal φ σ := ⟨hf.2, [], by rw [hr]; rfl, hk⟩
end
def Ed (C : Cfg) (n : Nat) (ops : Array Oper) (l : List Oper) (j : Nat) (F : List (Nat × A)) (σ : St) (past : List (Nat × St)) (pend : List (Nat × Fr × Oper × A)) (Q : X → Fr → St → Prop) : Prop := ExD C n ops l j (Dd F) σ past pend Q
def simpleQ (o : Oper) : Bool := match o.op with
 | .move _ | .assign _ | .pick .. | .build .. | .buildSlice .. | .load .. | .nilCheck _ | .unOp .. | .binOp .. | .makeInterface .. | .fieldAddr .. | .field .. | .indexAddr .. | .index .. | .extract .. | .convert .. => true
 | _ => false
theorem simpleQ_quiet {o : Oper} (h : simpleQ o = true) : isQuiet o = true := by
 unfold simpleQ at h
 unfold isQuiet
 cases hop : o.op <;> rw [hop] at h <;> first | rfl | (cases h)
theorem opQ_simple {C : Cfg} {ρ : Operand → Option A} {o : Oper} {σ σ' : St} {x : A} (hk : simpleQ o = true) (h : op C ρ o σ = some (.val x σ')) : opQ C ρ o σ = some x := by
 unfold simpleQ at hk
 unfold opQ
 cases hop : o.op <;> rw [hop] at hk <;> first | (simp only [h]; done) | (cases hk)
section
variable {C : Cfg} {n : Nat} {ops : Array Oper} {l : List Oper} {j d : Nat} {F : List (Nat × A)} {σ σ' : St} {past : List (Nat × St)} {pend : List (Nat × Fr × Oper × A)} {Q : X → Fr → St → Prop} {o : Oper} {L : List Res}
theorem Fw {id : Nat} (hd : drawOk ops (Region.before ops) = true) (h : Ed C n ops ops.toList 0 F σ [] [] (fun x φ s => x = .normal ∧ Q x φ s)) : Ec C n (.region id ops true) F σ Q := by
 obtain ⟨N, x, φ0, φ', σ', ⟨_, h1⟩, h2, h3⟩ := h
 exact Ex.drawn hd ⟨N, x, φ0, φ', σ', h1, h2, h3⟩
theorem Dh (h : Q .normal (Dd F) σ) : Ed C n ops [] j F σ past pend Q := ExD.nil h
theorem Az {x : A} (ho : op C (evL C F) o σ = some (.val x σ)) (hw : D3 ops F o = some true) (hd : o.dst = some d) (ht : Nat.ble (d + 1) n = true) (hk : simpleQ o = true) (hs : past = [])
  (h : Ed C n ops l (j + 1) ((d, x) :: F) σ past ((j, Dd F, o, x) :: pend) Q) : Ed C n ops (o :: l) j F σ past pend Q :=
 ExD.val (by rw [D5]; exact hw) (simpleQ_quiet hk) (by rw [Gg]; exact opQ_simple hk ho) (by rw [hs]; rfl) (by rw [hd]; exact Jj (Nat.le_of_ble_eq_true ht)) h
theorem Gm {t : TypeId} {x y : Operand} {b off : Nat} {cs cs' : List A} {e : TypeId} {v : A} (hp : Hp σ L) (i : Nat) (hi : L[i]? = some (.blk b (.cells cs e))) (hs : storeCells C.P t v cs off = some cs') (hop : o.op = .store t x y) (hx : evL C F x = some (.ptr b off)) (hy : evL C F y = some v) (hw : D3 ops F o = some true) (hd : o.dst = none)
  (hst : ∀ σ', Hp σ' (L.set i (.blk b (.cells cs' e))) → Eh C (Region.before ops) j σ' pend = true)
  (h : ∀ σ', Hp σ' (L.set i (.blk b (.cells cs' e))) → Ed C n ops l (j + 1) F σ' ((j, σ) :: past) pend Q) : Ed C n ops (o :: l) j F σ past pend Q := by
 have hput : Hp (σ.put b (.cells cs' e)) (L.set i (.blk b (.cells cs' e))) := hp.put hi
 refine ExD.loud (σ' := σ.put b (.cells cs' e)) (x := und) (by rw [D5]; exact hw) (by simp only [isQuiet, hop]) (.inr ⟨?_, rfl⟩) (hst _ hput) (by rw [hd]; rfl) (h _ hput)
 rw [Gg]
 have hg := hp.get hi
 unfold storeCells at hs
 cases hz : Cg C.P t with
 | none => rw [hz] at hs; cases hs
 | some m =>
  rw [hz] at hs
  simp only at hs
  split at hs
  case isFalse => cases hs
  rename_i hc
  cases hs
  simp only [op, hop, hx, hy, storeOp, St.cells, hg, hz, if_pos hc]; rfl
theorem A9 {x : A} (ho : op C (evL C F) o σ = some (.val x σ)) (hw : D3 ops F o = some true) (hd : o.dst = some d) (ht : Nat.ble (d + 1) n = true) (hk : simpleQ o = true) (hs : F1 C (Region.before ops) (Dd F) o j x past = true)
  (h : Ed C n ops l (j + 1) ((d, x) :: F) σ past ((j, Dd F, o, x) :: pend) Q) : Ed C n ops (o :: l) j F σ past pend Q :=
 ExD.val (by rw [D5]; exact hw) (simpleQ_quiet hk) (by rw [Gg]; exact opQ_simple hk ho) hs (by rw [hd]; exact Jj (Nat.le_of_ble_eq_true ht)) h
theorem Bk {f : FuncId} {args : List A} {K : A → St → Prop} (hc : Ca C f args σ' K) (ho : op C (evL C F) o σ = some (.call f args σ')) (hw : D3 ops F o = some true) (hd : o.dst = some d) (ht : Nat.ble (d + 1) n = true) (hq : isQuiet o = false)
  (hst : ∀ x σ'', K x σ'' → Eh C (Region.before ops) j σ'' pend = true)
  (h : ∀ x σ'', K x σ'' → Ed C n ops l (j + 1) ((d, x) :: F) σ'' ((j, σ) :: past) pend Q) : Ed C n ops (o :: l) j F σ past pend Q := by
 obtain ⟨x, σ'', h1, h2⟩ := hc
 exact ExD.call (by rw [D5]; exact hw) hq (by rw [Gg]; exact ho) h1 (hst _ _ h2) (by rw [hd]; exact Jj (Nat.le_of_ble_eq_true ht)) (h _ _ h2)
theorem A8 {bef : Array Nat} {x : A} : F1 C bef (Dd F) o j x [] = true := rfl
theorem Ar {bef : Array Nat} {i : Nat} {x : A} {s : St} {r : List (Nat × St)} (h : pureQ (evL C F) o = true) (g : F1 C bef (Dd F) o j x r = true) : F1 C bef (Dd F) o j x ((i, s) :: r) = true := by
 unfold F1 at g ⊢
 simp only [List.all_cons, Bool.and_eq_true, Bool.or_eq_true]
 exact ⟨.inr (by unfold sameA; rw [Gg, h]; rfl), g⟩
theorem stP_op {bef : Array Nat} {i : Nat} {x : A} {s : St} {r : List (Nat × St)} (hk : simpleQ o = true) (h : op C (evL C F) o s = some (.val x s)) (g : F1 C bef (Dd F) o j x r = true) : F1 C bef (Dd F) o j x ((i, s) :: r) = true := by
 unfold F1 at g ⊢
 simp only [List.all_cons, Bool.and_eq_true, Bool.or_eq_true]
 exact ⟨.inr (sameA_of (by rw [Gg]; exact opQ_simple hk h)), g⟩
theorem A6 {bef : Array Nat} : Eh C bef j σ [] = true := rfl
theorem Ad {bef : Array Nat} {i : Nat} {x : A} {r : List (Nat × Fr × Oper × A)} (h : pureQ (evL C F) o = true) (g : Eh C bef j σ r = true) : Eh C bef j σ ((i, Dd F, o, x) :: r) = true := by
 unfold Eh at g ⊢
 simp only [List.all_cons, Bool.and_eq_true, Bool.or_eq_true]
 exact ⟨.inr (by unfold sameA; rw [Gg, h]; rfl), g⟩
theorem B7 {bef : Array Nat} {i : Nat} {x : A} {r : List (Nat × Fr × Oper × A)} (hk : simpleQ o = true) (h : op C (evL C F) o σ = some (.val x σ)) (g : Eh C bef j σ r = true) : Eh C bef j σ ((i, Dd F, o, x) :: r) = true := by
 unfold Eh at g ⊢
 simp only [List.all_cons, Bool.and_eq_true, Bool.or_eq_true]
 exact ⟨.inr (sameA_of (by rw [Gg]; exact opQ_simple hk h)), g⟩
theorem Bd {bef : Array Nat} {i : Nat} {φ : Fr} {x : A} {r : List (Nat × Fr × Oper × A)} (h : bfr bef i j = true) (g : Eh C bef j σ r = true) : Eh C bef j σ ((i, φ, o, x) :: r) = true := by
 unfold Eh at g ⊢
 simp only [List.all_cons, Bool.and_eq_true, Bool.or_eq_true]
 exact ⟨.inl h, g⟩
end
def containsRuneT (s : ByteArray) (r : Int) : Option Bool := if 0 ≤ r ∧ r < 128 then some (decide (0 ≤ Lib.indexByte s.data.toList r.toNat.toUInt8)) else none
def containsRuneG : List A → St → Option (A × St)
 | [.v (.string s), .v (.int .i32 r)], σ => (containsRuneT s r).map fun b => (.v (.bool b), σ)
 | _, _ => none
def itoaT (n : Int) : Option ByteArray := if -9223372036854775808 ≤ n ∧ n ≤ 9223372036854775807 then some ⟨(Lib.itoa n).toArray⟩ else none
def itoaG : List A → St → Option (A × St)
 | [.v (.int .i64 n)], σ => (itoaT n).map fun b => (.v (.string b), σ)
 | _, _ => none
def atoiT (s : ByteArray) : Option (Int × Bool) := if s.size ≤ 281474976710656 then match Lib.atoiAll s.data.toList with
  | .ok v => some (v, false)
  | Lib.NumEnd.syntax => some (0, true)
  | .range => some (Lib.atoiSat s.data.toList, true)
 else none
def atoiG (t : TypeId) : List A → St → Option (A × St)
 | [.v (.string s)], σ => (atoiT s).map fun b => (.tup [.v (.int .i64 b.1), errA t b.2], σ)
 | _, _ => none
section
variable {C : Cfg} {f : FuncId} {σ : St} {R : List Res}
theorem containsRuneT_ok {s : ByteArray} {i : Int} (hf : C.prim f = some containsRuneG) (hp : Hp σ R) {r : Bool} (H : containsRuneT s i = some r) : Ca C f [.v (.string s), .v (.int .i32 i)] σ (fun x σ' => x = .v (.bool r) ∧ Hp σ' R) :=
 Ca.prim hf (σ' := σ) (x := .v (.bool r)) (by simp [containsRuneG, H]) ⟨rfl, hp⟩
theorem itoaT_ok {n : Int} (hf : C.prim f = some itoaG) (hp : Hp σ R) {r : ByteArray} (H : itoaT n = some r) : Ca C f [.v (.int .i64 n)] σ (fun x σ' => x = .v (.string r) ∧ Hp σ' R) :=
 Ca.prim hf (σ' := σ) (x := .v (.string r)) (by simp [itoaG, H]) ⟨rfl, hp⟩
theorem atoiT_ok {t : TypeId} {s : ByteArray} (hf : C.prim f = some (atoiG t)) (hp : Hp σ R) {r : Int × Bool} (H : atoiT s = some r) : Ca C f [.v (.string s)] σ (fun x σ' => x = .tup [.v (.int .i64 r.1), errA t r.2] ∧ Hp σ' R) :=
 Ca.prim hf (σ' := σ) (x := .tup [.v (.int .i64 r.1), errA t r.2]) (by simp [atoiG, H]) ⟨rfl, hp⟩
end
end Go.DM
