/- A region whose order is open may be looked at with one pure operation put off until some others are done. No condition. -/
import Derived.Orders
namespace Go.DM
open Go
def ClL (md : Region.Mode) (ops : Array Oper) (l : Array Bool) : Prop := ∀ (i : Nat) (o : Oper) (e : Edge), ops[i]? = some o → l.getD i false = true → e ∈ o.after → Region.binds md e = true → l.getD e.on false = true
structure Slow (md : Region.Mode) (ops ops' : Array Oper) (p : Nat) (o o' : Oper) (B : Nat → Prop) : Prop where
 size : ops'.size = ops.size
 at0 : ops[p]? = some o
 at1 : ops'[p]? = some o'
 op : o' = { o with after := o'.after }
 more : ∀ e ∈ o.after, e ∈ o'.after
 only : ∀ e ∈ o'.after, Region.binds md e = true → e ∈ o.after ∨ B e.on
 same : ∀ i, i ≠ p → ops'[i]? = ops[i]?
 on : ∀ (i : Nat) (q : Oper) (e : Edge), ops[i]? = some q → e ∈ q.after → Region.binds md e = true → e.on < i
 blt : ∀ b, B b → b < ops.size ∧ b ≠ p
 sel : ∀ (i : Nat) (q : Oper) (cs : Array SelectCase) (b : Bool), ops[i]? = some q → q.op ≠ .select cs b
 use : ∀ (i : Nat) (q : Oper), i ≠ p → ops[i]? = some q → ((∃ e ∈ q.after, Region.binds md e = true ∧ e.on = p) ∨ o.apart ops q = false) →
  (∀ l, ClL md ops l → l.getD p false = true → l.getD i false = true) ∨ ∀ l, ClL md ops l → (∀ e ∈ q.after, Region.binds md e = true → l.getD e.on false = true) → ∀ b, B b → l.getD b false = true
section
variable {P : Program} {md : Region.Mode} {ops ops' : Array Oper} {p : Nat} {o o' : Oper} {B : Nat → Prop} {Q : Exit → Act → World → Prop}
theorem Slow.yielded (h : Slow md ops ops' p o o' B) (tmps : Array Value) (j : Nat) : Go.yielded ops' tmps j = Go.yielded ops tmps j := by
 unfold Go.yielded
 by_cases hj : j = p
 ·subst hj; rw [h.at0, h.at1, h.op]; rfl
 ·rw [h.same j hj]
theorem Slow.wanted (h : Slow md ops ops' p o o' B) (q : Oper) (tmps : Array Value) : Region.wanted q (Go.yielded ops' tmps) = Region.wanted q (Go.yielded ops tmps) := by
 have : Go.yielded ops' tmps = Go.yielded ops tmps := funext fun j => h.yielded tmps j
 rw [this]
theorem Slow.wpOp (h : Slow md ops ops' p o o' B) {i : Nat} (hi : i ≠ p) {K : Act → World → Prop} {a : Act} {w : World} (g : Go.wpOp P ops' Q i K a w) : Go.wpOp P ops Q i K a w := by
 unfold Go.wpOp at g ⊢
 rw [h.same i hi] at g
 cases ho : ops[i]? with
 | none => rw [ho] at g; exact g
 | some q => rw [ho] at g; simp only [h.wanted] at g ⊢; exact g
theorem Slow.wpP (h : Slow md ops ops' p o o' B) (ho : ¬ LetsOut Q) {v : Value} {K : Act → World → Prop} {a : Act} {w : World} (hy : Yields P ops o v a) (g : Go.wpOp P ops' Q p K a w) : K (a.put o.dst v) w := by
 unfold Go.wpOp at g
 rw [h.at1] at g
 simp only [h.wanted] at g
 have hd : o'.dst = o.dst := by rw [h.op]
 have hx : execOp a.eval o' = execOp a.eval o := by rw [h.op]; rfl
 have hw : Region.wanted o' (Go.yielded ops a.tmps) = Region.wanted o (Go.yielded ops a.tmps) := by rw [h.op]; rfl
 rw [hw] at g
 rcases hy with ⟨h1, h2⟩ | ⟨h1, rfl⟩
 ·rw [if_pos h1] at g
  rcases g with g | ⟨_, g⟩
  ·unfold Oper.wp at g
   rw [hx, h2 w] at g
   simp only [Oper.upon, hd] at g
   exact g
  ·exact absurd g ho
 ·rw [if_neg (by rw [h1]; simp), hd] at g; exact g
theorem Rw {j : Nat} {oi oj : Oper} {v : Value} (hj : ops[j]? = some oj) (hap : oi.apart ops oj = true)
  (hsi : ∀ cs b, oi.op ≠ .select cs b) (hsj : ∀ cs b, oj.op ≠ .select cs b)
  (hQ : ∀ c a w, Q (.panic c) a w → Q (.panic c) (a.put oi.dst v) w) {K : Act → World → Prop} {a : Act} {w : World}
  (hy : Yields P ops oi v a) (h : Go.wpOp P ops Q j (fun a' w' => Yields P ops oi v a' → K (a'.put oi.dst v) w') a w) :
  Go.wpOp P ops Q j K (a.put oi.dst v) w := by
 obtain ⟨h1, h2, h3⟩ := Oper.apart_spec hap
 have keep : ∀ (a : Act), Yields P ops oi v a → ∀ u, Yields P ops oi v (a.put oj.dst u) := fun a hy u =>
  hy.of_same (execOp_put oi hsi a oj.dst u h3) (wanted_put oi a oj.dst u h3)
 have keepD : ∀ d, Yields P ops oi v { a with defers := d :: a.defers } := fun d => hy.of_same rfl rfl
 unfold Go.wpOp at *
 simp only [hj] at *
 rw [wanted_put oj a oi.dst v h1]
 split
 ·rename_i hw
  simp only [hw, if_true] at h
  rcases h with h | ⟨hasks, hlets⟩
  case inr => exact .inr ⟨by unfold Oper.asks at *; rw [execOp_put oj hsj a oi.dst v h1]; exact hasks, hlets⟩
  refine .inl ?_
  unfold Oper.wp at *
  rw [execOp_put oj hsj a oi.dst v h1]
  generalize (execOp a.eval oj).run P w = r at *
  cases r with
  | ok n w' =>
   cases n <;> simp only [Oper.upon] at h ⊢
   case value u => rw [← Act.put_comm a v u h2] at h; exact h (keep a hy u)
   case skip => rw [← Act.put_comm a v undef h2] at h; exact h (keep a hy _)
   case defer d =>
    have := h (keep _ (keepD d) _)
    rw [← Act.put_comm _ v undef h2, ← Act.put_defers] at this
    exact this
   case enter f args =>
    refine Calls.mono h fun e w'' he => ?_
    cases e with
    | returned u => have := he (keep a hy u); rw [← Act.put_comm a v u h2] at this; exact this
    | panicked c => exact hQ _ _ _ he
    | outgrown => exact he
   case row row args => exact Rows.mono h fun u w'' he => by have := he (keep a hy u); rw [← Act.put_comm a v u h2] at this; exact this
  | halt x w' =>
   cases x <;> simp only [Oper.upon] at h ⊢
   case panic u => exact hQ _ _ _ h
 ·rename_i hw
  simp only [hw] at h
  have := h (keep a hy _)
  rw [← Act.put_comm a v undef h2] at this
  exact this
theorem Ev {l : Array Bool} {i : Nat} (hi : i < l.size) : l.getD i true = l.getD i false := by
 simp [Array.getD_eq_getD_getElem?, hi]
theorem Lq {l : Array Bool} (hs : l.size = ops.size) (on : ∀ (i : Nat) (q : Oper) (e : Edge), ops[i]? = some q → e ∈ q.after → Region.binds md e = true → e.on < i) {b : Nat} (hb : b < ops.size) (hl : l.getD b false = false) : Region.ready md ops l ≠ [] := by
 intro hr
 have all : ∀ i, i < ops.size → l.getD i false = true := by
  intro i
  induction i using Nat.strongRecOn with
  | _ i ih =>
   intro hi
   cases hL : l.getD i false with
   | true => rfl
   | false =>
    exfalso
    have : i ∈ Region.ready md ops l := by
     refine mem_ready.2 ⟨by rw [Ev (by omega)]; exact hL, ops[i], by simp [hi], fun e he hb => ?_⟩
     have h1 := on i ops[i] e (by simp [hi]) he hb
     exact ih _ h1 (by omega)
    rw [hr] at this; cases this
 rw [all b hb] at hl; cases hl
theorem ClL.set {l : Array Bool} {i : Nat} {q : Oper} (h : ClL md ops l) (hq : ops[i]? = some q) (hp : ∀ e ∈ q.after, Region.binds md e = true → l.getD e.on false = true) : ClL md ops (l.setIfInBounds i true) := by
 intro j r e hj hl he hb
 by_cases hij : i = j
 ·subst hij
  rw [hq] at hj; cases hj
  exact getD_set_true (hp e he hb)
 ·rw [getD_set_ne false hij] at hl
  exact getD_set_true (h j r e hj hl he hb)
theorem Slow.tail (h : Slow md ops ops' p o o' B) : ∀ (fuel : Nat) (l : Array Bool) (a : Act) (w : World), l.size = ops.size → l.getD p false = true → wpAny P md ops' Q fuel l a w → wpAny P md ops Q fuel l a w := by
 have rd : ∀ (l : Array Bool) (i : Nat), l.size = ops.size → l.getD p false = true → (i ∈ Region.ready md ops' l ↔ i ∈ Region.ready md ops l) := by
  intro l i hs hl
  have hps : p < l.size := by rw [hs]; exact (Array.getElem?_eq_some_iff.1 h.at0).1
  rw [mem_ready, mem_ready]
  by_cases hi : i = p
  ·subst hi
   rw [Ev hps, hl]; simp
  ·rw [h.same i hi]
 intro fuel
 induction fuel with
 | zero =>
  intro l a w hs hl g
  refine ⟨?_, g.2⟩
  rcases hr : Region.ready md ops l with _ | ⟨i, r⟩
  ·rfl
  ·have := (rd l i hs hl).2 (by rw [hr]; exact List.mem_cons_self)
   rw [g.1] at this; cases this
 | succ fuel ih =>
  intro l a w hs hl g
  refine ⟨fun hr => g.1 ?_, fun i hi => ?_⟩
  ·rcases hr' : Region.ready md ops' l with _ | ⟨j, r⟩
   ·rfl
   ·have := (rd l j hs hl).1 (by rw [hr']; exact List.mem_cons_self)
    rw [hr] at this; cases this
  ·have hip : i ≠ p := by
    rintro rfl
    have h1 := (mem_ready.1 hi).1
    rw [Ev (by rw [hs]; exact (Array.getElem?_eq_some_iff.1 h.at0).1), hl] at h1; cases h1
   exact h.wpOp hip (wpOp_mono (fun a w g => ih _ a w (by simp [hs]) (getD_set_true hl) g) (g.2 i ((rd l i hs hl).2 hi)))
theorem Iz {l : Array Bool} {i : Nat} (hs : l.size = ops.size) (hi : i < ops.size) (hl : l.getD i false = false) : ((List.range ops.size).filter fun j => !l.getD j false).length = ((List.range ops.size).filter fun j => !(l.setIfInBounds i true).getD j false).length + 1 := by
 have e1 : ((List.range ops.size).filter fun j => !(l.setIfInBounds i true).getD j false) = ((List.range ops.size).filter fun j => !l.getD j false).erase i := by
  have hnd : ((List.range ops.size).filter fun j => !l.getD j false).Nodup := List.Pairwise.filter _ List.nodup_range
  rw [hnd.erase_eq_filter, List.filter_filter]
  refine List.filter_congr fun j hj => ?_
  by_cases hij : i = j
  ·subst hij
   simp [Array.getD_eq_getD_getElem?, hs, hi]
  ·rw [getD_set_ne false hij]
   have : j ≠ i := fun e => hij e.symm
   simp [this]
 have hm : i ∈ (List.range ops.size).filter fun j => !l.getD j false := List.mem_filter.2 ⟨List.mem_range.2 hi, by rw [hl]; rfl⟩
 rw [e1, List.length_erase_of_mem hm]
 have := List.length_pos_of_mem hm
 omega
theorem Slow.wait (h : Slow md ops ops' p o o' B) (ho : ¬ LetsOut Q) {v : Value} (hQ : ∀ c a w, Q (.panic c) a w → Q (.panic c) (a.put o.dst v) w) : ∀ (fuel : Nat) (l : Array Bool) (a : Act) (w : World),
  l.size = ops.size → ClL md ops l → l.getD p false = false → (∀ e ∈ o.after, Region.binds md e = true → l.getD e.on false = true) → (∃ b, B b ∧ l.getD b false = false) → Yields P ops o v a → ((List.range ops.size).filter fun i => !l.getD i false).length = fuel + 1 →
  wpAny P md ops' Q (fuel + 1) l a w → wpAny P md ops Q fuel (l.setIfInBounds p true) (a.put o.dst v) w := by
 have hps : p < ops.size := (Array.getElem?_eq_some_iff.1 h.at0).1
 intro fuel
 induction fuel with
 | zero =>
  intro l a w hs hc hp hpe hb hy hn g
  exfalso
  obtain ⟨b, h1, h2⟩ := hb
  obtain ⟨h3, h4⟩ := h.blt b h1
  have e1 := Iz hs hps hp
  have e2 := Iz (l := l.setIfInBounds p true) (i := b) (by simp [hs]) h3 (by rw [getD_set_ne false (fun e => h4 e.symm)]; exact h2)
  omega
 | succ fuel ih =>
  intro l a w hs hc hp hpe hb hy hn g
  obtain ⟨b, h1, h2⟩ := hb
  obtain ⟨h3, h4⟩ := h.blt b h1
  have hcp : ClL md ops (l.setIfInBounds p true) := hc.set h.at0 hpe
  have hbp : (l.setIfInBounds p true).getD b false = false := by rw [getD_set_ne false (fun e => h4 e.symm)]; exact h2
  have hpt : (l.setIfInBounds p true).getD p false = true := by simp [Array.getD_eq_getD_getElem?, hs, hps]
  refine ⟨fun hr => absurd hr (Lq (by simp [hs]) h.on h3 hbp), fun i hi => ?_⟩
  obtain ⟨hi1, q, hq, hie⟩ := mem_ready.1 hi
  have hin : i < ops.size := (Array.getElem?_eq_some_iff.1 hq).1
  have hip : i ≠ p := by
   rintro rfl
   rw [Ev (by simp [hs]; exact hps), hpt] at hi1; cases hi1
  have hil : l.getD i false = false := by
   rw [getD_set_ne true (fun e => hip e.symm), Ev (by omega)] at hi1; exact hi1
  have free : ¬ ((∃ e ∈ q.after, Region.binds md e = true ∧ e.on = p) ∨ o.apart ops q = false) := by
   intro hu
   rcases h.use i q hip hq hu with g1 | g1
   ·have := g1 _ hcp hpt
    rw [getD_set_ne false (fun e => hip e.symm), hil] at this; cases this
   ·have := g1 _ hcp hie b h1
    rw [hbp] at this; cases this
  have hap : o.apart ops q = true := by
   cases hc : o.apart ops q with
   | true => rfl
   | false => exact absurd (.inr hc) free
  have hie' : ∀ e ∈ q.after, Region.binds md e = true → l.getD e.on false = true := by
   intro e he hb
   have := hie e he hb
   rwa [getD_set_ne false (fun c => free (.inl ⟨e, he, hb, c.symm⟩))] at this
  have hri : i ∈ Region.ready md ops' l := mem_ready.2 ⟨by rw [Ev (by omega)]; exact hil, q, by rw [h.same i hip]; exact hq, hie'⟩
  have g1 := h.wpOp hip (g.2 i hri)
  have hcm : ∀ l : Array Bool, (l.setIfInBounds p true).setIfInBounds i true = (l.setIfInBounds i true).setIfInBounds p true := fun l => Array.setIfInBounds_comm _ _ (fun e => hip e.symm)
  refine Rw hq hap (fun cs b => h.sel p o cs b h.at0) (fun cs b => h.sel i q cs b hq) hQ hy (wpOp_mono (fun a1 w1 g2 hy1 => ?_) g1)
  rw [hcm]
  have hs1 : (l.setIfInBounds i true).size = ops.size := by simp [hs]
  have hp1 : (l.setIfInBounds i true).getD p false = false := by rw [getD_set_ne false hip]; exact hp
  have hn1 : ((List.range ops.size).filter fun j => !(l.setIfInBounds i true).getD j false).length = fuel + 1 := by
   have := Iz hs hin hil
   omega
  by_cases hall : ∀ b, B b → (l.setIfInBounds i true).getD b false = true
  ·have hrp : p ∈ Region.ready md ops' (l.setIfInBounds i true) := by
    refine mem_ready.2 ⟨by rw [Ev (by omega)]; exact hp1, o', h.at1, fun e he hb => ?_⟩
    rcases h.only e he hb with h5 | h5
    ·exact getD_set_true (hpe e h5 hb)
    ·exact hall _ h5
   have g3 := h.wpP ho hy1 (g2.2 p hrp)
   exact h.tail fuel _ _ _ (by simp [hs]) (by simp [Array.getD_eq_getD_getElem?, hs, hps]) g3
  ·refine ih (l.setIfInBounds i true) a1 w1 hs1 (hc.set hq hie') hp1 (fun e he hb => getD_set_true (hpe e he hb)) ?_ hy1 hn1 g2
   rcases Classical.not_forall.1 hall with ⟨b', hb'⟩
   rcases Classical.not_imp.1 hb' with ⟨h5, h6⟩
   exact ⟨b', h5, by simpa using h6⟩
theorem Slow.any (h : Slow md ops ops' p o o' B) (ho : ¬ LetsOut Q) {I : Array Bool → Act → Prop}
  (hI : ∀ (i : Nat) (q : Oper) (l : Array Bool) (a : Act) (w : World) (K : Act → World → Prop), ops[i]? = some q → l.getD i false = false → l.size = ops.size → I l a → Go.wpOp P ops Q i (fun a' w' => I (l.setIfInBounds i true) a' → K a' w') a w → Go.wpOp P ops Q i K a w)
  (hu : ∀ l a, I l a → (∀ e ∈ o.after, Region.binds md e = true → l.getD e.on false = true) → ∃ v, Yields P ops o v a)
  (hQ : ∀ c a w v, Q (.panic c) a w → Q (.panic c) (a.put o.dst v) w) : ∀ (fuel : Nat) (l : Array Bool) (a : Act) (w : World),
  l.size = ops.size → ClL md ops l → l.getD p false = false → I l a → ((List.range ops.size).filter fun i => !l.getD i false).length = fuel → wpAny P md ops' Q fuel l a w → wpAny P md ops Q fuel l a w := by
 have hps : p < ops.size := (Array.getElem?_eq_some_iff.1 h.at0).1
 intro fuel
 induction fuel with
 | zero =>
  intro l a w hs hc hp _ hn g
  have := Iz hs hps hp
  omega
 | succ fuel ih =>
  intro l a w hs hc hp hIa hn g
  refine ⟨fun hr => absurd hr (Lq hs h.on hps hp), fun i hi => ?_⟩
  obtain ⟨hi1, q, hq, hie⟩ := mem_ready.1 hi
  have hin : i < ops.size := (Array.getElem?_eq_some_iff.1 hq).1
  by_cases hip : i = p
  ·subst hip
   rw [h.at0] at hq; cases hq
   obtain ⟨v, hy⟩ := hu l a hIa hie
   refine hy.wpOp h.at0 ?_
   by_cases hall : ∀ b, B b → l.getD b false = true
   ·have hrp : i ∈ Region.ready md ops' l := by
     refine mem_ready.2 ⟨hi1, o', h.at1, fun e he hb => ?_⟩
     rcases h.only e he hb with h5 | h5
     ·exact hie e h5 hb
     ·exact hall _ h5
    exact h.tail fuel _ _ _ (by simp [hs]) (by simp [Array.getD_eq_getD_getElem?, hs, hin]) (h.wpP ho hy (g.2 i hrp))
   ·rcases Classical.not_forall.1 hall with ⟨b', hb'⟩
    rcases Classical.not_imp.1 hb' with ⟨h5, h6⟩
    exact h.wait ho (fun c a w => hQ c a w v) fuel l a w hs hc hp hie ⟨b', h5, by simpa using h6⟩ hy hn g
  ·have hil : l.getD i false = false := by rw [Ev (by omega)] at hi1; exact hi1
   have hri : i ∈ Region.ready md ops' l := mem_ready.2 ⟨hi1, q, by rw [h.same i hip]; exact hq, hie⟩
   refine hI i q l a w _ hq hil hs hIa (h.wpOp hip (wpOp_mono (fun a1 w1 g2 hI1 => ih _ a1 w1 (by simp [hs]) (hc.set hq hie) (by rw [getD_set_ne false hip]; exact hp) hI1 ?_ g2) (g.2 i hri)))
   have := Iz hs hin hil
   omega
end
end Go.DM
