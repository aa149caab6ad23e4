/- This text proves rules, operation by operation, for walks over the D-machine, and plain laws of the typed operations. No condition. -/
import Derived.Test.YtiidocaofjmomaaDmE
import Derived.Test.YtiidocaofjmomaaDmD
import Derived.Lib.SplitLaws
import Derived.Lib.SlTrimSet
import Derived.Lib.Bytealg
import Derived.Lib.Join
namespace Go.DM
open Go
/-- no slices that are blocks -/
class NoMut (C : Cfg) : Prop where
  no : ∀ t, C.mutB t = false

/-! frames as lists -/
def lk : List (Nat × A) → Nat → Option A
  | [], _ => none
  | p :: r, t => if p.1 = t then some p.2 else lk r t
def toTr : List (Nat × A) → Tr A
  | [] => .nil
  | p :: r => (toTr r).set p.1 p.2
def toFr (F : List (Nat × A)) : Fr := ⟨toTr F, []⟩
theorem toFr_get (F : List (Nat × A)) (t : Nat) : (toFr F).s.get t = lk F t := by
  induction F with
  | nil => rfl
  | cons p r ih =>
    simp only [toFr, toTr, lk, Tr.get_set]
    by_cases h : t = p.1
    · rw [if_pos h, if_pos h.symm]
    · rw [if_neg h, if_neg (fun e => h e.symm)]; exact ih
def evL (C : Cfg) (F : List (Nat × A)) : Operand → Option A
  | .tmp t => lk F t
  | .const v => ofVal v
  | .global g => C.glob g
  | .func f => some (.fn (.func f) [] [])
theorem ev_toFr (C : Cfg) (F : List (Nat × A)) : ev C (toFr F) = evL C F := by
  funext o
  cases o <;> simp [ev, evL, toFr_get]
def yieldedL (ops : Array Oper) (F : List (Nat × A)) (j : Nat) : Option (Option Bool) :=
  match (ops[j]?).bind (·.dst) with
  | some d => match lk F d with
    | some (.v (.bool b)) => some (some b)
    | some .junk => none
    | some _ => some none
    | none => none
  | none => some none
def wantedL (ops : Array Oper) (F : List (Nat × A)) (o : Oper) : Option Bool := match o.guard with
  | none => some true
  | some (j, want) => match yieldedL ops F j with
    | some y => some (y == some want)
    | none => none
theorem yielded_toFr (ops : Array Oper) (F : List (Nat × A)) (j : Nat) : yieldedA ops (toFr F) j = yieldedL ops F j := by
  unfold yieldedA yieldedL
  cases (ops[j]?).bind (·.dst) with
  | none => rfl
  | some d => simp only [toFr_get]; cases lk F d with
    | none => rfl
    | some a => cases a <;> first | rfl | (rename_i x; cases x <;> rfl)
theorem wanted_toFr (ops : Array Oper) (F : List (Nat × A)) (o : Oper) : wantedA ops (toFr F) o = wantedL ops F o := by
  unfold wantedA wantedL
  cases o.guard with
  | none => rfl
  | some p => obtain ⟨j, want⟩ := p; simp only [yielded_toFr]; cases yieldedL ops F j <;> rfl
theorem put_toFr {n t : Nat} {F : List (Nat × A)} {x : A} (h : t < n) : putA n (toFr F) (some t) x = some (toFr ((t, x) :: F)) := by
  simp only [putA, if_pos h]; rfl

/-! typed data -/
@[simp] theorem isOne_v (x : Value) : isOne (.v x) = true := rfl
structure RepT (α : Type) where
  sz : Nat
  rep : α → List A → Prop
  len : ∀ x c, rep x c → c.length = sz
  pos : 0 < sz
  one : ∀ x c, rep x c → allOne c = true
def rI (k : IntKind) : RepT Int := ⟨1, fun x c => c = [.v (.int k x)], by rintro x c rfl; rfl, by decide, by rintro x c rfl; rfl⟩
def rB : RepT Bool := ⟨1, fun x c => c = [.v (.bool x)], by rintro x c rfl; rfl, by decide, by rintro x c rfl; rfl⟩
def rS : RepT ByteArray := ⟨1, fun x c => c = [.v (.string x)], by rintro x c rfl; rfl, by decide, by rintro x c rfl; rfl⟩
inductive Cells {α : Type} (r : RepT α) : List A → List α → Prop where
  | nil : Cells r [] []
  | cons {c cs : List A} {x : α} {l : List α} : r.rep x c → Cells r cs l → Cells r (c ++ cs) (x :: l)
def nilS : A := .v (.slice none 0 0)
def Sl {α : Type} (r : RepT α) (a : A) (l : List α) : Prop := (a = nilS ∧ l = []) ∨ ∃ cs ap, a = .sl r.sz cs ap ∧ Cells r cs l
section
variable {α : Type} {r : RepT α}
theorem Sl.nil : Sl r nilS [] := .inl ⟨rfl, rfl⟩
theorem Sl.isOne {a : A} {l : List α} (h : Sl r a l) : isOne a = true := by
  rcases h with ⟨rfl, _⟩ | ⟨cs, ap, rfl, _⟩ <;> rfl
theorem Cells.length {cs : List A} {l : List α} (h : Cells r cs l) : cs.length = l.length * r.sz := by
  induction h with
  | nil => simp
  | cons hx _ ih => simp [r.len _ _ hx, ih, Nat.add_mul, Nat.add_comm]
theorem Cells.append {cs ds : List A} {l m : List α} (h : Cells r cs l) (g : Cells r ds m) : Cells r (cs ++ ds) (l ++ m) := by
  induction h with
  | nil => exact g
  | cons hx _ ih => rw [List.append_assoc]; exact .cons hx ih
theorem Cells.single {c : List A} {x : α} (h : r.rep x c) : Cells r c [x] := by
  have := Cells.cons h (Cells.nil (r := r)); rwa [List.append_nil] at this
theorem Cells.one {cs : List A} {l : List α} (h : Cells r cs l) : allOne cs = true := by
  induction h with
  | nil => rfl
  | cons hx _ ih =>
    have := r.one _ _ hx
    simp only [allOne, List.all_append, Bool.and_eq_true] at *
    exact ⟨this, ih⟩
theorem Cells.drop {cs : List A} {l : List α} (h : Cells r cs l) : ∀ n, Cells r (cs.drop (n * r.sz)) (l.drop n) := by
  induction h with
  | nil => intro n; simp; exact .nil
  | cons hx hc ih =>
    intro n
    cases n with
    | zero => simp; exact .cons hx hc
    | succ n =>
      rename_i c cs x l
      have : (n + 1) * r.sz = c.length + n * r.sz := by rw [r.len _ _ hx, Nat.add_mul]; omega
      rw [this, List.drop_append, List.drop_eq_nil_of_le (by omega), List.nil_append]
      simp only [Nat.add_sub_cancel_left, List.drop_succ_cons]
      exact ih n
theorem Cells.take {cs : List A} {l : List α} (h : Cells r cs l) : ∀ n, Cells r (cs.take (n * r.sz)) (l.take n) := by
  induction h with
  | nil => intro n; simp; exact .nil
  | cons hx hc ih =>
    intro n
    cases n with
    | zero => simp; exact .nil
    | succ n =>
      rename_i c cs x l
      have : (n + 1) * r.sz = c.length + n * r.sz := by rw [r.len _ _ hx, Nat.add_mul]; omega
      rw [this, List.take_append, List.take_of_length_le (by omega)]
      simp only [Nat.add_sub_cancel_left, List.take_succ_cons]
      exact .cons hx (ih n)
/-- the cells of one element -/
def IsAt (cs : List A) (o : Nat) (c : List A) : Prop := (cs.drop o).take c.length = c ∧ o + c.length ≤ cs.length
theorem Cells.at {cs : List A} {l : List α} (h : Cells r cs l) {i : Nat} {x : α} (hi : l[i]? = some x) : ∃ c, r.rep x c ∧ IsAt cs (i * r.sz) c := by
  have hl := h.length
  have hlt : i < l.length := (List.getElem?_eq_some_iff.1 hi).1
  have hd := h.drop i
  rw [List.drop_eq_getElem_cons hlt] at hd
  have hx : l[i] = x := (List.getElem?_eq_some_iff.1 hi).2
  rw [hx] at hd
  generalize hcs : cs.drop (i * r.sz) = ds at hd
  cases hd with
  | cons hx hc =>
    rename_i c cs'
    refine ⟨c, hx, ?_, ?_⟩
    · rw [hcs]; simp
    · have h1 : (i + 1) * r.sz ≤ l.length * r.sz := Nat.mul_le_mul_right _ hlt
      rw [Nat.add_mul] at h1
      rw [r.len _ _ hx]; omega
theorem IsAt.get {cs c : List A} {o : Nat} (h : IsAt cs o c) {j : Nat} {a : A} (hj : c[j]? = some a) : cs[o + j]? = some a := by
  have hlt : j < c.length := (List.getElem?_eq_some_iff.1 hj).1
  have h1 := h.1
  have hj' : ((cs.drop o).take c.length)[j]? = some a := by rw [h1]; exact hj
  rwa [List.getElem?_take, if_pos hlt, List.getElem?_drop] at hj'
theorem IsAt.sub {cs c : List A} {o : Nat} (h : IsAt cs o c) (j m : Nat) (hm : j + m ≤ c.length) : IsAt cs (o + j) ((c.drop j).take m) := by
  obtain ⟨h1, h2⟩ := h
  refine ⟨?_, ?_⟩
  · have hl : ((c.drop j).take m).length = m := by simp; omega
    rw [hl, ← h1, List.drop_take, List.drop_drop, List.take_take]
    congr 1; omega
  · have hl : ((c.drop j).take m).length = m := by simp; omega
    rw [hl]; omega
theorem Sl.length {a : A} {l : List α} (h : Sl r a l) (P : Program) {t e : TypeId} (ht : P.underlying t = some (.slice e)) (σ : St) : (a = nilS ∧ l = []) ∨ lenA P t a σ = some l.length := by
  rcases h with ⟨rfl, rfl⟩ | ⟨cs, ap, rfl, hc⟩
  · exact .inl ⟨rfl, rfl⟩
  · refine .inr ?_
    simp only [lenA, ht, hc.length, Nat.mul_div_cancel _ r.pos]
/-- a list of lists -/
def rL (r : RepT α) : RepT (List α) := ⟨1, fun l c => ∃ a, c = [a] ∧ Sl r a l, by rintro x c ⟨a, rfl, _⟩; rfl, by decide, by rintro x c ⟨a, rfl, h⟩; simp [allOne, h.isOne]⟩
end

/-! resources -/
inductive Res where
  | blk (b : Nat) (x : Blk)
  | app (a : A) (e : TypeId)
def Res.bid : Res → List Nat
  | .blk b _ => [b]
  | _ => []
def tidA : A → List Nat
  | .sl _ _ (.gr id) => [id]
  | _ => []
def Res.tid : Res → List Nat
  | .app a _ => tidA a
  | _ => []
def AppOk (σ : St) (a : A) (e : TypeId) : Prop := a = nilS ∨ ∃ sz cs ap, a = .sl sz cs ap ∧ (ap = .ex ∨ ∃ id, ap = .gr id ∧ σ.live id = some e ∧ id < σ.nextT)
def Res.ok (σ : St) : Res → Prop
  | .blk b x => σ.blks.get b = some x ∧ b < σ.next
  | .app a e => AppOk σ a e
structure Hp (σ : St) (L : List Res) : Prop where
  ok : ∀ r ∈ L, r.ok σ
  bn : (L.flatMap Res.bid).Nodup
  tn : (L.flatMap Res.tid).Nodup
theorem Hp.nil (σ : St) : Hp σ [] := ⟨fun r h => by simp at h, by simp, by simp⟩
theorem sublist_flatMap {f : Res → List Nat} {M L : List Res} (h : List.Sublist M L) : List.Sublist (M.flatMap f) (L.flatMap f) := by
  induction h with
  | slnil => exact .slnil
  | cons a _ ih => simp only [List.flatMap_cons]; exact ih.trans (List.sublist_append_right _ _)
  | cons_cons a _ ih => simp only [List.flatMap_cons]; exact List.Sublist.append (List.Sublist.refl _) ih
theorem Hp.sub {σ : St} {L M : List Res} (h : Hp σ L) (hs : List.Sublist M L) : Hp σ M :=
  ⟨fun r hr => h.ok r (hs.subset hr), h.bn.sublist (sublist_flatMap hs), h.tn.sublist (sublist_flatMap hs)⟩
theorem Hp.perm {σ : St} {L M : List Res} (h : Hp σ L) (hp : L.Perm M) : Hp σ M :=
  ⟨fun r hr => h.ok r (hp.mem_iff.2 hr), ((hp.flatMap_right Res.bid).nodup_iff).1 h.bn, ((hp.flatMap_right Res.tid).nodup_iff).1 h.tn⟩
/-- number i laid in front -/
def frontR : Nat → List Res → List Res
  | _, [] => []
  | 0, L => L
  | i + 1, r :: L => match frontR i L with
    | [] => [r]
    | x :: M => x :: r :: M
theorem frontR_perm : ∀ (i : Nat) (L : List Res), L.Perm (frontR i L)
  | _, [] => by cases ‹Nat› <;> exact .nil
  | 0, r :: L => .refl _
  | i + 1, r :: L => by
    have ih := frontR_perm i L
    simp only [frontR]
    split
    · rename_i h; rw [h] at ih; exact .cons r ih
    · rename_i x M h; rw [h] at ih; exact (List.Perm.cons r ih).trans (.swap _ _ _)
theorem Hp.front {σ : St} {L : List Res} (h : Hp σ L) (i : Nat) : Hp σ (frontR i L) := h.perm (frontR_perm i L)
theorem Hp.drop {σ : St} {L : List Res} (h : Hp σ L) (i : Nat) : Hp σ (L.eraseIdx i) := h.sub (List.eraseIdx_sublist _ _)
theorem Hp.get {σ : St} {L : List Res} (h : Hp σ L) {i b : Nat} {x : Blk} (hi : L[i]? = some (.blk b x)) : σ.blks.get b = some x := (h.ok _ (List.mem_of_getElem? hi)).1
theorem Hp.getApp {σ : St} {L : List Res} (h : Hp σ L) {i : Nat} {a : A} {e : TypeId} (hi : L[i]? = some (.app a e)) : AppOk σ a e := h.ok _ (List.mem_of_getElem? hi)
theorem flatMap_set_nodup {f : Res → List Nat} : ∀ {L : List Res} {i : Nat} {r s : Res}, L[i]? = some r → (L.flatMap f).Nodup → (∀ x ∈ f s, x ∈ f r ∨ ∀ r' ∈ L, x ∉ f r') → (f s).Nodup → ((L.set i s).flatMap f).Nodup
  | [], i, r, s, hi, _, _, _ => by simp at hi
  | a :: L, 0, r, s, hi, hn, hs, hsn => by
    simp only [List.getElem?_cons_zero, Option.some.injEq] at hi
    subst hi
    simp only [List.set_cons_zero, List.flatMap_cons, List.nodup_append] at *
    refine ⟨hsn, hn.2.1, fun x hx y hy hxy => ?_⟩
    subst hxy
    rcases hs x hx with h | h
    · exact hn.2.2 x h x hy rfl
    · obtain ⟨r', hr', hxr⟩ := List.mem_flatMap.1 hy
      exact h r' (List.mem_cons_of_mem _ hr') hxr
  | a :: L, i + 1, r, s, hi, hn, hs, hsn => by
    simp only [List.getElem?_cons_succ] at hi
    simp only [List.set_cons_succ, List.flatMap_cons, List.nodup_append] at *
    refine ⟨hn.1, flatMap_set_nodup hi hn.2.1 (fun x hx => (hs x hx).imp_right fun h r' hr' => h r' (List.mem_cons_of_mem _ hr')) hsn, fun x hx y hy hxy => ?_⟩
    subst hxy
    obtain ⟨r', hr', hxr⟩ := List.mem_flatMap.1 hy
    rcases List.mem_or_eq_of_mem_set hr' with h | h
    · exact hn.2.2 x hx x (List.mem_flatMap.2 ⟨r', h, hxr⟩) rfl
    · subst h
      rcases hs x hxr with h | h
      · exact hn.2.2 x hx x (List.mem_flatMap.2 ⟨r, List.mem_of_getElem? hi, h⟩) rfl
      · exact h a (List.mem_cons_self ..) hx
theorem Hp.other_b {σ : St} : ∀ {L : List Res} {i b : Nat} {x : Blk}, (L.flatMap Res.bid).Nodup → L[i]? = some (.blk b x) → ∀ j c y, L[j]? = some (.blk c y) → i ≠ j → c ≠ b
  | [], i, b, x, _, hi, _, _, _, _, _ => by simp at hi
  | a :: L, i, b, x, hn, hi, j, c, y, hj, hij => by
    simp only [List.flatMap_cons, List.nodup_append] at hn
    cases i with
    | zero =>
      cases j with
      | zero => exact absurd rfl hij
      | succ j =>
        simp only [List.getElem?_cons_zero, Option.some.injEq, List.getElem?_cons_succ] at hi hj
        subst hi
        rintro rfl
        exact hn.2.2 c (by simp [Res.bid]) c (List.mem_flatMap.2 ⟨_, List.mem_of_getElem? hj, by simp [Res.bid]⟩) rfl
    | succ i =>
      cases j with
      | zero =>
        simp only [List.getElem?_cons_zero, Option.some.injEq, List.getElem?_cons_succ] at hi hj
        subst hj
        rintro rfl
        exact hn.2.2 c (by simp [Res.bid]) c (List.mem_flatMap.2 ⟨_, List.mem_of_getElem? hi, by simp [Res.bid]⟩) rfl
      | succ j =>
        simp only [List.getElem?_cons_succ] at hi hj
        exact Hp.other_b (σ := σ) hn.2.1 hi j c y hj (by omega)
theorem tid_lt {σ : St} {r : Res} (h : r.ok σ) {t : Nat} (ht : t ∈ r.tid) : t < σ.nextT := by
  cases r with
  | blk b x => simp [Res.tid] at ht
  | app a e =>
    rcases h with rfl | ⟨sz, cs, ap, rfl, rfl | ⟨id, rfl, _, hlt⟩⟩
    · simp [Res.tid, tidA, nilS] at ht
    · simp [Res.tid, tidA] at ht
    · simp [Res.tid, tidA] at ht; subst ht; exact hlt
theorem bid_lt {σ : St} {r : Res} (h : r.ok σ) {t : Nat} (ht : t ∈ r.bid) : t < σ.next := by
  cases r with
  | blk b x => simp [Res.bid] at ht; subst ht; exact h.2
  | app a e => simp [Res.bid] at ht
theorem Hp.put {σ : St} {L : List Res} (h : Hp σ L) {i b : Nat} {x y : Blk} (hi : L[i]? = some (.blk b x)) : Hp (σ.put b y) (L.set i (.blk b y)) := by
  have hb : b < σ.next := (h.ok _ (List.mem_of_getElem? hi)).2
  refine ⟨fun r hr => ?_, flatMap_set_nodup hi h.bn (fun z hz => .inl hz) (by simp [Res.bid]), flatMap_set_nodup hi h.tn (fun z hz => .inl hz) (by simp [Res.tid])⟩
  obtain ⟨j, hj⟩ := List.getElem?_of_mem hr
  rw [List.getElem?_set] at hj
  split at hj
  · split at hj
    · cases hj
      exact ⟨by simp [St.put, Tr.get_set], hb⟩
    · cases hj
  · rename_i hij
    have hok := h.ok r (List.mem_of_getElem? hj)
    cases r with
    | blk c z =>
      refine ⟨?_, hok.2⟩
      simp only [St.put, Tr.get_set]
      rw [if_neg (Hp.other_b (σ := σ) h.bn hi j c z hj hij)]
      exact hok.1
    | app a e => exact hok
theorem Hp.push {σ : St} {L : List Res} (h : Hp σ L) (x : Blk) : Hp (σ.push x) (.blk σ.next x :: L) := by
  refine ⟨fun r hr => ?_, ?_, by simpa [Res.tid] using h.tn⟩
  · rcases List.mem_cons.1 hr with rfl | hr
    · exact ⟨by simp [St.push, Tr.get_set], Nat.lt_succ_self _⟩
    · have hok := h.ok r hr
      cases r with
      | blk c z =>
        refine ⟨?_, Nat.lt_succ_of_lt hok.2⟩
        simp only [St.push, Tr.get_set]
        rw [if_neg (Nat.ne_of_lt hok.2)]
        exact hok.1
      | app a e => exact hok
  · simp only [List.flatMap_cons, Res.bid, List.nodup_append]
    refine ⟨by simp, h.bn, fun x hx y hy hxy => ?_⟩
    subst hxy
    simp only [List.mem_singleton] at hx
    subst hx
    obtain ⟨r, hr, hx⟩ := List.mem_flatMap.1 hy
    exact Nat.lt_irrefl _ (bid_lt (h.ok r hr) hx)
theorem Hp.appNil {σ : St} {L : List Res} (h : Hp σ L) (e : TypeId) : Hp σ (.app nilS e :: L) :=
  ⟨fun r hr => (List.mem_cons.1 hr).elim (fun e => by subst e; exact .inl rfl) (h.ok r), by simpa [Res.bid] using h.bn, by simpa [Res.tid, tidA, nilS] using h.tn⟩
theorem Hp.appEx {σ : St} {L : List Res} (h : Hp σ L) (e : TypeId) (sz : Nat) (cs : List A) : Hp σ (.app (.sl sz cs .ex) e :: L) :=
  ⟨fun r hr => (List.mem_cons.1 hr).elim (fun e => by subst e; exact .inr ⟨_, _, _, rfl, .inl rfl⟩) (h.ok r), by simpa [Res.bid] using h.bn, by simpa [Res.tid, tidA] using h.tn⟩
theorem AppOk.tok {σ : St} {a : A} {e : TypeId} (h : AppOk σ a e) (e' : TypeId) : AppOk (σ.tok e') a e := by
  rcases h with rfl | ⟨sz, cs, ap, rfl, rfl | ⟨id, rfl, hl, hlt⟩⟩
  · exact .inl rfl
  · exact .inr ⟨_, _, _, rfl, .inl rfl⟩
  · refine .inr ⟨_, _, _, rfl, .inr ⟨id, rfl, ?_, Nat.lt_succ_of_lt hlt⟩⟩
    simp only [St.live, St.tok, Tr.get_set]
    rw [if_neg (Nat.ne_of_lt hlt)]; exact hl
theorem Res.ok_tok {σ : St} {r : Res} (h : r.ok σ) (e : TypeId) : r.ok (σ.tok e) := by
  cases r with
  | blk b x => exact h
  | app a e' => exact AppOk.tok h e
/-- number i, a right to append, gives way to that of a new slice -/
theorem Hp.tok {σ : St} {L : List Res} (h : Hp σ L) {i : Nat} {a : A} {e : TypeId} (hi : L[i]? = some (.app a e)) (e' : TypeId) (sz : Nat) (cs : List A) : Hp (σ.tok e') (L.set i (.app (.sl sz cs (.gr σ.nextT)) e')) := by
  refine ⟨fun r hr => ?_, flatMap_set_nodup hi h.bn (fun z hz => .inl hz) (by simp [Res.bid]), flatMap_set_nodup hi h.tn (fun z hz => .inr fun r' hr' => ?_) (by simp [Res.tid, tidA])⟩
  · rcases List.mem_or_eq_of_mem_set hr with hr | rfl
    · exact Res.ok_tok (h.ok r hr) e'
    · exact .inr ⟨_, _, _, rfl, .inr ⟨_, rfl, live_tok _ _, Nat.lt_succ_self _⟩⟩
  · simp only [Res.tid, tidA, List.mem_singleton] at hz
    subst hz
    exact fun hh => Nat.lt_irrefl _ (tid_lt (h.ok r' hr') hh)
theorem tid_other : ∀ {L : List Res} {i j : Nat} {r s : Res} {t : Nat}, (L.flatMap Res.tid).Nodup → L[i]? = some r → L[j]? = some s → i ≠ j → t ∈ r.tid → t ∉ s.tid
  | [], i, j, r, s, t, _, hi, _, _, _ => by simp at hi
  | a :: L, i, j, r, s, t, hn, hi, hj, hij, hr => by
    simp only [List.flatMap_cons, List.nodup_append] at hn
    cases i with
    | zero =>
      cases j with
      | zero => exact absurd rfl hij
      | succ j =>
        simp only [List.getElem?_cons_zero, Option.some.injEq, List.getElem?_cons_succ] at hi hj
        subst hi
        exact fun hs => hn.2.2 t hr t (List.mem_flatMap.2 ⟨_, List.mem_of_getElem? hj, hs⟩) rfl
    | succ i =>
      cases j with
      | zero =>
        simp only [List.getElem?_cons_zero, Option.some.injEq, List.getElem?_cons_succ] at hi hj
        subst hj
        exact fun hs => hn.2.2 t hs t (List.mem_flatMap.2 ⟨_, List.mem_of_getElem? hi, hr⟩) rfl
      | succ j =>
        simp only [List.getElem?_cons_succ] at hi hj
        exact tid_other hn.2.1 hi hj (by omega) hr
theorem Hp.retok {σ : St} {L : List Res} (h : Hp σ L) {i id : Nat} {e : TypeId} {sz : Nat} {cs : List A} (hi : L[i]? = some (.app (.sl sz cs (.gr id)) e)) (sz' : Nat) (cs' : List A) : Hp ((σ.untok id).tok e) (L.set i (.app (.sl sz' cs' (.gr σ.nextT)) e)) := by
  refine ⟨fun r hr => ?_, flatMap_set_nodup hi h.bn (fun z hz => .inl hz) (by simp [Res.bid]), flatMap_set_nodup hi h.tn (fun z hz => .inr fun r' hr' => ?_) (by simp [Res.tid, tidA])⟩
  · obtain ⟨j, hj⟩ := List.getElem?_of_mem hr
    rw [List.getElem?_set] at hj
    split at hj
    · split at hj
      · cases hj
        exact .inr ⟨_, _, _, rfl, .inr ⟨_, rfl, by simp [St.live, St.tok, St.untok, Tr.get_set], Nat.lt_succ_self _⟩⟩
      · cases hj
    · rename_i hij
      have hok := h.ok r (List.mem_of_getElem? hj)
      cases r with
      | blk b x => exact hok
      | app a e' =>
        rcases hok with rfl | ⟨sz2, cs2, ap2, rfl, rfl | ⟨id2, rfl, hl2, hlt2⟩⟩
        · exact .inl rfl
        · exact .inr ⟨_, _, _, rfl, .inl rfl⟩
        · have hne : id2 ≠ id := by
            rintro rfl
            exact tid_other h.tn hi hj hij (t := id2) (by simp [Res.tid, tidA]) (by simp [Res.tid, tidA])
          refine .inr ⟨_, _, _, rfl, .inr ⟨id2, rfl, ?_, Nat.lt_succ_of_lt hlt2⟩⟩
          simp only [St.live, St.tok, St.untok, Tr.get_set, Tr.get_del]
          rw [if_neg (Nat.ne_of_lt hlt2), if_neg hne]
          exact hl2
  · simp only [Res.tid, tidA, List.mem_singleton] at hz
    subst hz
    exact fun hh => Nat.lt_irrefl _ (tid_lt (h.ok r' hr') hh)
end Go.DM
namespace Go.DM
open Go Go.RowKit

def Eo (C : Cfg) (n : Nat) (ops : Array Oper) (l : List Oper) (F : List (Nat × A)) (σ : St) (Q : X → Fr → St → Prop) : Prop := ExO C n ops l (toFr F) σ Q
def Ec (C : Cfg) (n : Nat) (c : Code) (F : List (Nat × A)) (σ : St) (Q : X → Fr → St → Prop) : Prop := Ex C n c (toFr F) σ Q
/-- the frame holds at least these -/
def Fl (F : List (Nat × A)) (φ : Fr) : Prop := (toFr F).le φ
theorem Fl.self (F : List (Nat × A)) : Fl F (toFr F) := Fr.le.refl _
theorem Fl.nil {φ : Fr} (h : φ.ds = []) : Fl [] φ := ⟨fun t x h => by rw [toFr_get] at h; simp [lk] at h, h⟩
theorem Fl.cons {F G : List (Nat × A)} {t : Nat} {x : A} (hx : lk G t = some x) (h : Fl F (toFr G)) : Fl ((t, x) :: F) (toFr G) := by
  refine ⟨fun u y hu => ?_, h.2⟩
  rw [toFr_get] at hu ⊢
  simp only [lk] at hu
  split at hu
  · rename_i e; cases hu; rw [← e]; exact hx
  · have := h.1 u y (by rw [toFr_get]; exact hu)
    rwa [toFr_get] at this
theorem Fl.nil' {G : List (Nat × A)} : Fl [] (toFr G) := Fl.nil rfl

section
variable {C : Cfg} {n : Nat} {ops : Array Oper} {Q Q' : X → Fr → St → Prop} {F : List (Nat × A)} {σ σ' : St} {c a b : Code} {o : Oper} {l : List Oper} {d : Nat} {L : List Res} {R : List Res}

theorem Ec.of {φ : Fr} (h : Fl F φ) (g : Ec C n c F σ Q) : Ex C n c φ σ Q := Ex.up h g
theorem Ec.weak {G : List (Nat × A)} (h : Fl F (toFr G)) (g : Ec C n c F σ Q) : Ec C n c G σ Q := Ex.up h g
theorem Ec.region {id : Nat} {ops : Array Oper} (h : Eo C n ops ops.toList F σ Q) : Ec C n (.region id ops false) F σ Q := Ex.region h
theorem Ec.skip (h : Q .normal (toFr F) σ) : Ec C n .skip F σ Q := Ex.skip h
theorem Ec.exit {id : Nat} (h : Q (.exit id) (toFr F) σ) : Ec C n (.exit id) F σ Q := Ex.exit h
theorem Ec.ret (h : Q .ret (toFr F) σ) : Ec C n .ret F σ Q := Ex.ret h
theorem Ec.seq (h : Ec C n a F σ (Then (fun φ' σ' => Ex C n b φ' σ' Q) Q)) : Ec C n (.seq a b) F σ Q := Ex.seq h
theorem Ec.block {id : Nat} (h : Ec C n a F σ (Blk' id Q)) : Ec C n (.block id a) F σ Q := Ex.block h
theorem Ec.loop1 (h : Ec C n a F σ (Then (fun φ' σ' => Ex C n (.loop a) φ' σ' Q) Q)) : Ec C n (.loop a) F σ Q := Ex.loop1 h
theorem Ec.cond {x : Operand} {t : Bool} (hx : evL C F x = some (.v (.bool t))) (ht : t = true → Ec C n a F σ Q) (hf : t = false → Ec C n b F σ Q) : Ec C n (.cond x a b) F σ Q :=
  Ex.split (by rw [ev_toFr]; exact hx) ht hf
theorem Ec.imp (hq : ∀ x φ σ, Q x φ σ → Q' x φ σ) (h : Ec C n c F σ Q) : Ec C n c F σ Q' := Ex.imp hq h
/-- a state between two parts -/
theorem Ec.cut {J : X → Fr → St → Prop} (h : Ec C n c F σ J) (hq : ∀ x φ σ, J x φ σ → Q x φ σ) : Ec C n c F σ Q := Ex.imp hq h

theorem Eo.nil (h : Q .normal (toFr F) σ) : Eo C n ops [] F σ Q := ExO.nil h
theorem Eo.val {x : A} (ho : op C (evL C F) o σ = some (.val x σ')) (hw : wantedL ops F o = some true) (hd : o.dst = some d) (ht : Nat.ble (d + 1) n = true) (h : Eo C n ops l ((d, x) :: F) σ' Q) : Eo C n ops (o :: l) F σ Q :=
  ExO.val (by rw [wanted_toFr]; exact hw) (by rw [ev_toFr]; exact ho) (by rw [hd]; exact put_toFr (Nat.le_of_ble_eq_true ht)) h
theorem Eo.skip (ho : op C (evL C F) o σ = some (.skip σ')) (hw : wantedL ops F o = some true) (hd : o.dst = none) (h : Eo C n ops l F σ' Q) : Eo C n ops (o :: l) F σ Q :=
  ExO.skip (by rw [wanted_toFr]; exact hw) (by rw [ev_toFr]; exact ho) (by rw [hd]; rfl) h
theorem Eo.off (hw : wantedL ops F o = some false) (hd : o.dst = some d) (ht : Nat.ble (d + 1) n = true) (h : Eo C n ops l ((d, und) :: F) σ Q) : Eo C n ops (o :: l) F σ Q :=
  ExO.off (by rw [wanted_toFr]; exact hw) (by rw [hd]; exact put_toFr (Nat.le_of_ble_eq_true ht)) h
theorem Eo.offN (hw : wantedL ops F o = some false) (hd : o.dst = none) (h : Eo C n ops l F σ Q) : Eo C n ops (o :: l) F σ Q :=
  ExO.off (by rw [wanted_toFr]; exact hw) (by rw [hd]; rfl) h
/-- a call -/
theorem Eo.call {f : FuncId} {args : List A} {K : A → St → Prop} (ho : op C (evL C F) o σ = some (.call f args σ')) (hw : wantedL ops F o = some true) (hd : o.dst = some d) (ht : Nat.ble (d + 1) n = true) (hc : Ca C f args σ' K)
    (h : ∀ x σ'', K x σ'' → Eo C n ops l ((d, x) :: F) σ'' Q) : Eo C n ops (o :: l) F σ Q :=
  ExO.ca (by rw [wanted_toFr]; exact hw) (by rw [ev_toFr]; exact ho) hc fun x σ'' hx => ⟨_, by rw [hd]; exact put_toFr (Nat.le_of_ble_eq_true ht), h x σ'' hx⟩
/-- a part of a region's operations, with a state behind it -/
theorem ExO.app {C : Cfg} {n : Nat} {ops : Array Oper} {Q : X → Fr → St → Prop} {φ : Fr} {σ : St} {l m : List Oper} (h : ExO C n ops l φ σ (Then (fun φ' σ' => ExO C n ops m φ' σ' Q) Q)) : ExO C n ops (l ++ m) φ σ Q := by
  obtain ⟨N, x, φ0, φ', σ1, h1, h2, h3⟩ := h
  have key : ∀ (callF : CallF) (l : List Oper) (φ : Fr) (σ : St) (x : X) (φ' : Fr) (σ1 : St), runOps C callF n ops l φ σ = some (x, φ', σ1) →
      runOps C callF n ops (l ++ m) φ σ = match x with
        | .normal => runOps C callF n ops m φ' σ1
        | x => some (x, φ', σ1) := by
    intro callF l
    induction l with
    | nil => intro φ σ x φ' σ1 h; simp only [runOps] at h; cases h; rfl
    | cons o l ih =>
      intro φ σ x φ' σ1 h
      rw [List.cons_append]
      rw [runOps] at h ⊢
      cases hw : wantedA ops φ o with
      | none => rw [hw] at h; cases h
      | some b =>
        rw [hw] at h
        cases b with
        | false =>
          simp only at h ⊢
          cases hp : putA n φ o.dst und with
          | none => rw [hp] at h; cases h
          | some φ3 => rw [hp] at h; exact ih _ _ _ _ _ h
        | true =>
          simp only at h ⊢
          cases ho : op C (ev C φ) o σ with
          | none => rw [ho] at h; cases h
          | some r =>
            rw [ho] at h
            cases r with
            | val y s =>
              simp only at h ⊢
              cases hp : putA n φ o.dst y with
              | none => rw [hp] at h; cases h
              | some φ3 => rw [hp] at h; exact ih _ _ _ _ _ h
            | skip s =>
              simp only at h ⊢
              cases hp : putA n φ o.dst und with
              | none => rw [hp] at h; cases h
              | some φ3 => rw [hp] at h; exact ih _ _ _ _ _ h
            | call f args s =>
              simp only at h ⊢
              cases hf : callF f args s with
              | none => rw [hf] at h; cases h
              | some q =>
                rw [hf] at h
                obtain ⟨out, s2⟩ := q
                cases out with
                | ret y =>
                  simp only at h ⊢
                  cases hp : putA n φ o.dst y with
                  | none => rw [hp] at h; cases h
                  | some φ3 => rw [hp] at h; exact ih _ _ _ _ _ h
                | pan y => simp only at h ⊢; cases h; rfl
            | pan y s => simp only at h ⊢; cases h; rfl
            | dfr f args s =>
              simp only at h ⊢
              cases hp : putA n { φ with ds := (f, args) :: φ.ds } o.dst und with
              | none => rw [hp] at h; cases h
              | some φ3 => rw [hp] at h; exact ih _ _ _ _ _ h
            | rcv s => cases h
  cases x with
  | normal =>
    obtain ⟨M, y, φ1, φ2, σ2, g1, g2, g3⟩ := ExO.up h2 h1
    obtain ⟨ψ1, e1, e2⟩ := runOps_mono (callLe (m := N + M) (by omega)) (Fr.le.refl φ) h3
    obtain ⟨ψ2, e3, e4⟩ := runOps_mono (callLe (m := N + M) (by omega)) e2 g3
    exact ⟨N + M, y, φ1, ψ2, σ2, g1, g2.trans e4, by rw [key _ _ _ _ _ _ _ e1]; exact e3⟩
  | _ => exact ⟨N, _, φ0, φ', σ1, h1, h2, by rw [key _ _ _ _ _ _ _ h3]⟩
theorem Eo.cut {m k : List Oper} {J : X → Fr → St → Prop} (hl : l = m ++ k) (h : Eo C n ops m F σ J) (hq : ∀ φ σ, J .normal φ σ → ExO C n ops k φ σ Q) (hx : ∀ x φ σ, J x φ σ → x ≠ .normal → Q x φ σ) : Eo C n ops l F σ Q := by
  subst hl
  refine ExO.app ?_
  obtain ⟨N, x, φ0, φ', σ', h1, h2, h3⟩ := h
  refine ⟨N, x, φ0, φ', σ', ?_, h2, h3⟩
  cases x with
  | normal => exact hq _ _ h1
  | _ => exact hx _ _ _ h1 (by simp)
theorem Eo.of {φ : Fr} (h : Fl F φ) (g : Eo C n ops l F σ Q) : ExO C n ops l φ σ Q := ExO.up h g
end

/-! typed partial operations -/
def atL {α : Type} (l : List α) (i : Int) : Option α := if 0 ≤ i then l[i.toNat]? else none
def subL {α : Type} (l : List α) (lo hi : Int) : Option (List α) := if 0 ≤ lo ∧ lo ≤ hi ∧ hi ≤ l.length then some ((l.take hi.toNat).drop lo.toNat) else none
def appL {α : Type} (bytes : Nat) (l m : List α) : Option (List α) := if (2 * (l.length + m.length) + 1024) * bytes ≤ 281474976710656 then some (l ++ m) else none
def atS (s : ByteArray) (i : Int) : Option Int := if 0 ≤ i then (s[i.toNat]?).map fun b => (b.toNat : Int) else none
def subS (s : ByteArray) (lo hi : Int) : Option ByteArray := if 0 ≤ lo ∧ lo ≤ hi ∧ hi ≤ s.size then some (s.extract lo.toNat hi.toNat) else none
def catS (s t : ByteArray) : Option ByteArray := if ((s.size + t.size : Nat) : Int) > IntKind.i64.max then none else some (s ++ t)
theorem bind_some {α β : Type} {x : Option α} {f : α → Option β} {b : β} (h : x.bind f = some b) : ∃ a, x = some a ∧ f a = some b := by
  cases x with
  | none => cases h
  | some a => exact ⟨a, rfl, h⟩

section
variable {C : Cfg} {ρ : Operand → Option A} {o : Oper} {σ : St} {α : Type} {r : RepT α}
theorem det_sizeOf {P : Program} {e : TypeId} {n : Nat} (h : sizeOfT P e = some n) : det P (sizeOf e) = some n := by
  unfold sizeOfT at h
  cases hi : P.info? e with
  | none => rw [hi] at h; cases h
  | some i =>
    rw [hi] at h
    cases h
    simp [sizeOf, typeInfo, det_bind, det_map, hi, det, det_pure, program]
theorem op_lenNil {c : Call} {x : Operand} {t e : TypeId} (hop : o.op = .call c) (hc : c.callee = .builtin .len) (ha : c.args.toList = [x]) (h0 : c.argTypes[0]? = some t) (hx : ρ x = some nilS) (ht : C.P.underlying t = some (.slice e)) :
    op C ρ o σ = some (.val (.v (.int .i64 0)) σ) := by
  have hd : detIf C ρ o σ = some (.val (.v (.int .i64 0)) σ) := by
    refine detIf_of (u := .int .i64 0) ?_ ?_ rfl
    · have : o.op.operands.toList = [x] := by simp [hop, Op.operands, Call.operands, hc, ha]
      rw [this]; simp [plainOps, hx, toVal, nilS]
    · rw [exec_builtin hop hc, args1 ha, valOf_v (u := .slice none 0 0) (by rw [hx]; rfl)]
      simp [builtin, Builtin.len_, h0, det_bind, det_map, det_pure, det_underlying ht, goInt]
  simp only [op, hop, hc, builtinOp, ha, hx, h0, lenA, ht, nilS]
  exact hd
theorem op_lenL {c : Call} {x : Operand} {a : A} {l : List α} {t e : TypeId} (hs : Sl r a l) (hop : o.op = .call c) (hc : c.callee = .builtin .len) (ha : c.args.toList = [x]) (h0 : c.argTypes[0]? = some t) (hx : ρ x = some a) (ht : C.P.underlying t = some (.slice e)) :
    op C ρ o σ = some (.val (.v (.int .i64 (l.length : Nat))) σ) := by
  rcases hs with ⟨rfl, rfl⟩ | ⟨cs, ap, rfl, hcs⟩
  · exact op_lenNil hop hc ha h0 hx ht
  · have := op_lenS (σ := σ) hop hc ha h0 hx ht
    rw [hcs.length, Nat.mul_div_cancel _ r.pos] at this
    exact this
theorem op_idx {t e : TypeId} {x ix : Operand} {a : A} {l : List α} {k : IntKind} {i : Int} {v : α} (hs : Sl r a l) (hv : atL l i = some v) (hop : o.op = .indexAddr t x ix) (hx : ρ x = some a) (hi : ρ ix = some (.v (.int k i))) (ht : C.P.underlying t = some (.slice e)) (hsz : sizeOfT C.P e = some r.sz) :
    ∃ cs p c, op C ρ o σ = some (.val (.sp cs p .no) σ) ∧ IsAt cs p c ∧ r.rep v c := by
  unfold atL at hv
  split at hv
  case isFalse => cases hv
  rename_i h0
  have hlt : i.toNat < l.length := (List.getElem?_eq_some_iff.1 hv).1
  rcases hs with ⟨rfl, rfl⟩ | ⟨cs, ap, rfl, hcs⟩
  · simp at hlt
  · obtain ⟨c, hc, hat⟩ := hcs.at hv
    refine ⟨cs, i.toNat * r.sz, c, op_at hop hx hi ht hsz r.pos h0 ?_, hat, hc⟩
    rw [hcs.length, Nat.mul_div_cancel _ r.pos]; omega
theorem op_loadSp {t : TypeId} {x : Operand} {cs c : List A} {p : Nat} {ap : Ap} {v : A} {i : TypeInfo} (hat : IsAt cs p c) (j : Nat) (hj : c[j]? = some v) (hop : o.op = .load t x) (hx : ρ x = some (.sp cs (p + j) ap)) (hag : isAggT C.P t = some false) (hi : C.P.info? t = some i) :
    op C ρ o σ = some (.val v σ) := op_load hop hx (by simp only [loadAt, hag, hi]; exact hat.get hj)
theorem op_loadSpAgg {t : TypeId} {x : Operand} {cs c c' : List A} {p : Nat} {ap : Ap} {i : TypeInfo} (hat : IsAt cs p c) (j : Nat) (hc : (c.drop j).take i.size = c') (hl : Nat.ble (j + i.size) c.length = true) (hop : o.op = .load t x) (hx : ρ x = some (.sp cs (p + j) ap)) (hag : isAggT C.P t = some true) (hi : C.P.info? t = some i) :
    op C ρ o σ = some (.val (.agg c') σ) := by
  have hs := hat.sub j i.size (Nat.le_of_ble_eq_true hl)
  have hlen : ((c.drop j).take i.size).length = i.size := by
    have := Nat.le_of_ble_eq_true hl
    simp; omega
  refine op_load hop hx ?_
  have h2 := hs.2
  rw [hlen] at h2
  simp only [loadAt, hag, hi, if_pos h2]
  have h1 := hs.1
  rw [hlen] at h1
  rw [h1, hc]
theorem op_byteS {t : TypeId} {x ix : Operand} {s : ByteArray} {k : IntKind} {i v : Int} (hv : atS s i = some v) (hop : o.op = .index t x ix) (hx : ρ x = some (.v (.string s))) (hi : ρ ix = some (.v (.int k i))) (ht : C.P.underlying t = some .string) : op C ρ o σ = some (.val (.v (.int .u8 v)) σ) := by
  unfold atS at hv
  split at hv
  case isFalse => cases hv
  rename_i h0
  obtain ⟨b, hb, rfl⟩ := Option.map_eq_some_iff.1 hv
  exact op_byte hop hx hi ht h0 hb
theorem op_partS {t : TypeId} {x : Operand} {lo hi : Option Operand} {s u : ByteArray} {l h : Int} (hu : subS s l h = some u) (hop : o.op = .slice t x lo hi none) (hx : ρ x = some (.v (.string s))) (ht : C.P.underlying t = some .string)
    (hlo : (lo = none ∧ l = 0) ∨ ∃ y k, lo = some y ∧ ρ y = some (.v (.int k l))) (hhi : (hi = none ∧ h = s.size) ∨ ∃ y k, hi = some y ∧ ρ y = some (.v (.int k h))) : op C ρ o σ = some (.val (.v (.string u)) σ) := by
  unfold subS at hu
  split at hu
  case isFalse => cases hu
  rename_i hc
  cases hu
  obtain ⟨h0, h1, h2⟩ := hc
  have el : ((l.toNat : Nat) : Int) = l := Int.toNat_of_nonneg h0
  have eh : ((h.toNat : Nat) : Int) = h := Int.toNat_of_nonneg (by omega)
  refine op_part hop hx ht ?_ ?_ (by omega) (by omega)
  · rcases hlo with ⟨rfl, rfl⟩ | ⟨y, k, rfl, hy⟩
    · exact .inl ⟨rfl, rfl⟩
    · exact .inr ⟨y, k, rfl, by rw [el]; exact hy⟩
  · rcases hhi with ⟨rfl, rfl⟩ | ⟨y, k, rfl, hy⟩
    · exact .inl ⟨rfl, by omega⟩
    · exact .inr ⟨y, k, rfl, by rw [eh]; exact hy⟩
theorem op_catS {t u : TypeId} {x y : Operand} {s1 s2 s : ByteArray} (hs : catS s1 s2 = some s) (hop : o.op = .binOp .add t x y u) (hx : ρ x = some (.v (.string s1))) (hy : ρ y = some (.v (.string s2))) : op C ρ o σ = some (.val (.v (.string s)) σ) := by
  unfold catS at hs
  split at hs
  case isTrue => cases hs
  rename_i hc
  cases hs
  have hd : detIf C ρ o σ = some (.val (.v (.string (s1 ++ s2))) σ) := by
    refine detIf_of (u := .string (s1 ++ s2)) ?_ ?_ rfl
    · simp [hop, Op.operands, plainOps, hx, hy, toVal]
    · simp only [execOp, hop, valOf_v hx, valOf_v hy, binOp, eqGuard, Op.stringOp, det_bind, det_pure]
      rw [if_neg hc]
      rfl
  simp only [op, hop]
  exact hd
/-- a part of a list -/
theorem op_subL {t e : TypeId} {x : Operand} {lo hi : Option Operand} {a : A} {l m : List α} {p q : Int} (hs : Sl r a l) (hm : subL l p q = some m) (hop : o.op = .slice t x lo hi none) (hx : ρ x = some a) (ht : C.P.underlying t = some (.slice e)) (hsz : sizeOfT C.P e = some r.sz)
    (hlo : (lo = none ∧ p = 0) ∨ ∃ y k, lo = some y ∧ ρ y = some (.v (.int k p))) (hhi : (hi = none ∧ q = l.length) ∨ ∃ y k, hi = some y ∧ ρ y = some (.v (.int k q))) : ∃ a', op C ρ o σ = some (.val a' σ) ∧ Sl r a' m := by
  unfold subL at hm
  split at hm
  case isFalse => cases hm
  rename_i hc
  cases hm
  obtain ⟨h0, h1, h2⟩ := hc
  have el : ((p.toNat : Nat) : Int) = p := Int.toNat_of_nonneg h0
  have eh : ((q.toNat : Nat) : Int) = q := Int.toNat_of_nonneg (by omega)
  rcases hs with ⟨rfl, rfl⟩ | ⟨cs, ap, rfl, hcs⟩
  · have hp : p = 0 := by simp at h2; omega
    have hq : q = 0 := by simp at h2; omega
    subst hp hq
    refine ⟨nilS, ?_, .inl ⟨rfl, rfl⟩⟩
    have hb : ∀ (k : IntKind) (y : Nat) (code : BoundsCode), det C.P (Instr.sliceBound (.int k 0) y code) = some 0 := by
      intro k y code
      have h1 : (0 : Int) ≤ 0 ∧ (0 : Int) ≤ (y : Int) := ⟨by omega, by omega⟩
      simp only [Instr.sliceBound, asIntOf, det_bind, det_pure, Option.bind_some]
      rw [if_pos h1]
      rfl
    have hd : detIf C ρ o σ = some (.val nilS σ) := by
      have hxv : valOf ρ x = .slice none 0 0 := valOf_v hx
      rcases hlo with ⟨rfl, _⟩ | ⟨y, k, rfl, hy⟩ <;> rcases hhi with ⟨rfl, _⟩ | ⟨z, k', rfl, hz⟩
      · refine detIf_of (u := .slice none 0 0) ?_ ?_ rfl
        · simp [hop, Op.operands, plainOps, hx, toVal, nilS]
        · simp [execOp, hop, hxv, Instr.sliceAt, Instr.slice, Instr.sliceBounds, det_bind, det_map, det_underlying ht, det_sizeOf hsz]
      · refine detIf_of (u := .slice none 0 0) ?_ ?_ rfl
        · simp [hop, Op.operands, plainOps, hx, hz, toVal, nilS]
        · simp [execOp, hop, hxv, valOf_v hz, Instr.sliceAt, Instr.slice, Instr.sliceBounds, det_bind, det_map, det_underlying ht, det_sizeOf hsz, hb]
      · refine detIf_of (u := .slice none 0 0) ?_ ?_ rfl
        · simp [hop, Op.operands, plainOps, hx, hy, toVal, nilS]
        · simp [execOp, hop, hxv, valOf_v hy, Instr.sliceAt, Instr.slice, Instr.sliceBounds, det_bind, det_map, det_underlying ht, det_sizeOf hsz, hb]
      · refine detIf_of (u := .slice none 0 0) ?_ ?_ rfl
        · simp [hop, Op.operands, plainOps, hx, hy, hz, toVal, nilS]
        · simp [execOp, hop, hxv, valOf_v hy, valOf_v hz, Instr.sliceAt, Instr.slice, Instr.sliceBounds, det_bind, det_map, det_underlying ht, det_sizeOf hsz, hb]
    rcases hlo with ⟨rfl, _⟩ | ⟨y, k, rfl, hy⟩ <;> rcases hhi with ⟨rfl, _⟩ | ⟨z, k', rfl, hz⟩ <;> simp only [op, optOf, sliceOp, nilS, *] <;> exact hd
  · refine ⟨.sl r.sz ((cs.drop (p.toNat * r.sz)).take ((q.toNat - p.toNat) * r.sz)) (if q.toNat = cs.length / r.sz then ap else .no), ?_, .inr ⟨_, _, rfl, ?_⟩⟩
    · have hlen : cs.length / r.sz = l.length := by rw [hcs.length, Nat.mul_div_cancel _ r.pos]
      have hbnd : ∀ (lo' hi' : Option A), ((lo' = none ∧ p = 0) ∨ ∃ k, lo' = some (.v (.int k p))) → ((hi' = none ∧ q = l.length) ∨ ∃ k, hi' = some (.v (.int k q))) → bounds l.length lo' hi' = some (p.toNat, q.toNat) := by
        intro lo' hi' hl hh
        have hp0 : 0 ≤ p := h0
        have hq0 : 0 ≤ q := by omega
        have hql : q.toNat ≤ l.length := by omega
        have hpq : p.toNat ≤ q.toNat := by omega
        rcases hl with ⟨rfl, rfl⟩ | ⟨k, rfl⟩ <;> rcases hh with ⟨rfl, rfl⟩ | ⟨k', rfl⟩ <;> simp_all [bounds, asNat]
      have fin : ∀ (lo' hi' : Option A), optOf ρ lo = some lo' → optOf ρ hi = some hi' → bounds l.length lo' hi' = some (p.toNat, q.toNat) → op C ρ o σ = some (.val (.sl r.sz ((cs.drop (p.toNat * r.sz)).take ((q.toNat - p.toNat) * r.sz)) (if q.toNat = cs.length / r.sz then ap else .no)) σ) := by
        intro lo' hi' h3 h4 h5
        simp only [op, hop, hx, h3, h4, sliceOp, ht, hlen, h5]
        rw [if_pos ⟨hsz, r.pos⟩]
      rcases hlo with ⟨rfl, hp⟩ | ⟨y, k, rfl, hy⟩ <;> rcases hhi with ⟨rfl, hq⟩ | ⟨z, k', rfl, hz⟩
      · exact fin _ _ rfl rfl (hbnd _ _ (.inl ⟨rfl, hp⟩) (.inl ⟨rfl, hq⟩))
      · exact fin _ (some (.v (.int k' q))) rfl (by simp only [optOf, hz]) (hbnd _ _ (.inl ⟨rfl, hp⟩) (.inr ⟨_, rfl⟩))
      · exact fin (some (.v (.int k p))) _ (by simp only [optOf, hy]) rfl (hbnd _ _ (.inr ⟨_, rfl⟩) (.inl ⟨rfl, hq⟩))
      · exact fin (some (.v (.int k p))) (some (.v (.int k' q))) (by simp only [optOf, hy]) (by simp only [optOf, hz]) (hbnd _ _ (.inr ⟨_, rfl⟩) (.inr ⟨_, rfl⟩))
    · have h3 : (l.take q.toNat).drop p.toNat = (l.drop p.toNat).take (q.toNat - p.toNat) := by rw [List.drop_take]
      rw [h3]
      exact (hcs.drop _).take _
end
end Go.DM
namespace Go.DM
open Go Go.RowKit

section
variable {C : Cfg} {n : Nat} {ops : Array Oper} {Q : X → Fr → St → Prop} {F : List (Nat × A)} {σ : St} {o : Oper} {l : List Oper} {d : Nat} {L : List Res}

theorem op_loadB {ρ : Operand → Option A} {t : TypeId} {x : Operand} {b off : Nat} {cs : List A} {e : TypeId} {v : A} (hp : Hp σ L) (i : Nat) (hi : L[i]? = some (.blk b (.cells cs e))) (hl : loadAt C.P t cs off = some v) (hop : o.op = .load t x) (hx : ρ x = some (.ptr b off)) : op C ρ o σ = some (.val v σ) := by
  have := hp.get hi
  simp only [op, hop, hx, loadOp, St.cells, this, hl]; rfl
/-- a store: the block's new cells -/
def storeCells (P : Program) (t : TypeId) (v : A) (cs : List A) (o : Nat) : Option (List A) := match sizeOfT P t with
  | some n => if v.cells.length = n ∧ allOne v.cells ∧ o + n ≤ cs.length then some (splice cs o v.cells) else none
  | none => none
theorem storeCells_mk {P : Program} {t : TypeId} {v : A} {vc cs cs' : List A} {o n : Nat} (hv : v.cells = vc) (hs : sizeOfT P t = some n) (hl : vc.length = n) (h1 : allOne vc = true) (hb : Nat.ble (o + n) cs.length = true) (hc : splice cs o vc = cs') : storeCells P t v cs o = some cs' := by
  unfold storeCells
  rw [hs]
  simp only [hv]
  rw [if_pos ⟨hl, h1, Nat.le_of_ble_eq_true hb⟩, hc]
theorem Eo.store {t : TypeId} {x y : Operand} {b off : Nat} {cs cs' : List A} {e : TypeId} {v : A} (hp : Hp σ L) (i : Nat) (hi : L[i]? = some (.blk b (.cells cs e))) (hs : storeCells C.P t v cs off = some cs') (hop : o.op = .store t x y) (hx : evL C F x = some (.ptr b off)) (hy : evL C F y = some v) (hw : wantedL ops F o = some true) (hd : o.dst = none)
    (h : ∀ σ', Hp σ' (L.set i (.blk b (.cells cs' e))) → Eo C n ops l F σ' Q) : Eo C n ops (o :: l) F σ Q := by
  refine Eo.skip (σ' := σ.put b (.cells cs' e)) ?_ hw hd (h _ (hp.put hi))
  have hg := hp.get hi
  unfold storeCells at hs
  cases hz : sizeOfT C.P t with
  | none => rw [hz] at hs; cases hs
  | some m =>
    rw [hz] at hs
    simp only at hs
    split at hs
    case isFalse => cases hs
    rename_i hc
    cases hs
    simp only [op, hop, hx, hy, storeOp, St.cells, hg, hz, if_pos hc]; rfl
theorem Eo.alloc {e : TypeId} {z : List A} (hp : Hp σ L) (hz : zeroOf C.P e = some z) (hop : o.op = .alloc e) (hw : wantedL ops F o = some true) (hd : o.dst = some d) (ht : Nat.ble (d + 1) n = true)
    (h : ∀ b σ', Hp σ' (.blk b (.cells z e) :: L) → Eo C n ops l ((d, .ptr b 0) :: F) σ' Q) : Eo C n ops (o :: l) F σ Q :=
  Eo.val (x := .ptr σ.next 0) (σ' := σ.push (.cells z e)) (by simp only [op, hop, hz]) hw hd ht (h _ _ (hp.push _))
theorem Eo.box {e : TypeId} {x : Operand} {v : A} {vc : List A} (hp : Hp σ L) (hv : v.cells = vc) (h1 : allOne vc = true) (hx : evL C F x = some v) (hop : o.op = .box e x) (hw : wantedL ops F o = some true) (hd : o.dst = some d) (ht : Nat.ble (d + 1) n = true)
    (h : ∀ b σ', Hp σ' (.blk b (.cells vc e) :: L) → Eo C n ops l ((d, .ptr b 0) :: F) σ' Q) : Eo C n ops (o :: l) F σ Q :=
  Eo.val (x := .ptr σ.next 0) (σ' := σ.push (.cells vc e)) (by simp only [op, hop, hx, hv]; rw [if_pos h1]) hw hd ht (h _ _ (hp.push _))
theorem Sl.cells {α : Type} {r : RepT α} {a : A} {l : List α} (h : Sl r a l) : a.cells = [a] := by
  rcases h with ⟨rfl, _⟩ | ⟨cs, ap, rfl, _⟩ <;> rfl

/-- parts of a literal, laid one by one -/
theorem lay_nil {place : Nat → Option (Nat × Nat)} {cs : List A} : lay place cs [] = some cs := rfl
theorem lay_cons {place : Nat → Option (Nat × Nat)} {cs xc cs' out : List A} {i off size : Nat} {x : A} {r : List (Nat × A)} (hp : place i = some (off, size)) (hx : x.cells = xc) (hl : xc.length = size) (hb : Nat.ble (off + size) cs.length = true) (hs : splice cs off xc = cs') (h : lay place cs' r = some out) : lay place cs ((i, x) :: r) = some out := by
  simp only [lay, hp, hx]
  rw [if_pos ⟨hl, Nat.le_of_ble_eq_true hb⟩, hs]; exact h
theorem op_build {ρ : Operand → Option A} {t : TypeId} {parts : Array (Nat × Operand)} {ps : List (Nat × A)} {fs : Array Field} {z cs : List A} {pl : List (Nat × Nat)} (hlay : lay (pl[·]?) z ps = some cs) (hop : o.op = .build t parts) (hps : partsOf ρ parts.toList = some ps) (ht : C.P.underlying t = some (.struct fs)) (hz : zeroOf C.P t = some z) (hpl : places C.P fs.toList = some pl) :
    op C ρ o σ = some (.val (.agg cs) σ) := by
  simp only [op, hop, hps, buildOp, ht, hz, hpl, hlay]; rfl
theorem op_buildS [hM : NoMut C] {ρ : Operand → Option A} {t e : TypeId} {m sz : Nat} {parts : Array (Nat × Operand)} {ps : List (Nat × A)} {z cs : List A} (hlay : lay (fun i => some (i * sz, sz)) (rep m z) ps = some cs) (hop : o.op = .buildSlice t m parts) (hps : partsOf ρ parts.toList = some ps) (ht : C.P.underlying t = some (.slice e)) (hs : sizeOfT C.P e = some sz) (hz : zeroOf C.P e = some z)
    (h0 : Nat.ble 1 sz = true) (h1 : Nat.ble (m * sz) 16777216 = true) (h2 : m ≠ 0) (h3 : z.length = sz) : op C ρ o σ = some (.val (.sl sz cs .ex) σ) := by
  simp only [op, hop, hps, hM.no, Bool.false_eq_true, if_false, buildSliceOp, ht, hs]
  rw [if_pos ⟨Nat.le_of_ble_eq_true h0, Nat.le_of_ble_eq_true h1⟩, if_neg h2, hz]
  simp only
  rw [if_pos (.inr h3), hlay]; rfl
theorem parts_cons {ρ : Operand → Option A} {i : Nat} {x : Operand} {a : A} {r : List (Nat × Operand)} {ps : List (Nat × A)} (hx : ρ x = some a) (hj : isJunk a = false) (h : partsOf ρ r = some ps) : partsOf ρ ((i, x) :: r) = some ((i, a) :: ps) := by
  simp only [partsOf, hx, hj, h]; rfl
theorem Sl.noJunk {α : Type} {r : RepT α} {a : A} {l : List α} (h : Sl r a l) : isJunk a = false := by
  rcases h with ⟨rfl, _⟩ | ⟨cs, ap, rfl, _⟩ <;> rfl

/-- what is appended: new cells and what they stand for -/
structure New {α : Type} (σ : St) (r : RepT α) (x : A) (m : List α) : Prop where
  ex : ∃ cs, appended σ r.sz x = some cs ∧ Cells r cs m
theorem New.of {α : Type} {σ : St} {r : RepT α} {x : A} {m : List α} (h : Sl r x m) : New σ r x m := by
  rcases h with ⟨rfl, rfl⟩ | ⟨cs, ap, rfl, hc⟩
  · exact ⟨[], rfl, .nil⟩
  · exact ⟨cs, by simp [appended], hc⟩
/-- a string's bytes as data -/
def bs (s : ByteArray) : List Int := s.data.toList.map fun b => (b.toNat : Int)
theorem cells_bytes : ∀ (l : List UInt8), Cells (rI .u8) (l.map fun b => A.v (.int .u8 b.toNat)) (l.map fun b => (b.toNat : Int))
  | [] => .nil
  | b :: l => Cells.cons (r := rI .u8) (c := [.v (.int .u8 b.toNat)]) rfl (cells_bytes l)
theorem cells_bs (s : ByteArray) : Cells (rI .u8) (bytesOf s) (bs s) := cells_bytes _
theorem New.str {σ : St} {s : ByteArray} : New σ (rI .u8) (.v (.string s)) (bs s) := ⟨bytesOf s, rfl, cells_bs s⟩
theorem Cells.nil_iff {α : Type} {r : RepT α} {cs : List A} {m : List α} (h : Cells r cs m) : cs = [] ↔ m = [] := by
  cases h with
  | nil => simp
  | cons hx _ =>
    have h1 := r.len _ _ hx
    have h2 := r.pos
    constructor
    · intro e
      have h3 := (List.append_eq_nil_iff.1 e).1
      rw [h3] at h1
      simp at h1
      omega
    · intro e; cases e
theorem Eo.append [hM : NoMut C] {α : Type} {r : RepT α} {c : Call} {s x : Operand} {t t' e : TypeId} {a b : A} {p m q : List α} {i : TypeInfo} {dt : TypeDesc} (hp : Hp σ L) (j : Nat) (hj : L[j]? = some (.app a e)) (ha : Sl r a p) (hb : New σ r b m) (hq : appL i.bytes p m = some q)
    (hop : o.op = .call c) (hc : c.callee = .builtin .append) (hargs : c.args.toList = [s, x]) (hs : evL C F s = some a) (hx : evL C F x = some b) (h0 : c.argTypes[0]? = some t) (h1 : c.argTypes[1]? = some t') (ht' : C.P.underlying t' = some dt) (hnot : (match dt with | .int _ => true | _ => false) = false)
    (ht : C.P.underlying t = some (.slice e)) (hi : C.P.info? e = some i) (hz : i.size = r.sz) (hz1 : i.zero.isSome = true) (hz2 : (i.zero.map (·.cells.size)) = some i.size) (hb0 : Nat.ble 1 i.bytes = true)
    (hw : wantedL ops F o = some true) (hd : o.dst = some d) (hdn : Nat.ble (d + 1) n = true)
    (h : ∀ a' σ', Sl r a' q → Hp σ' (L.set j (.app a' e)) → Eo C n ops l ((d, a') :: F) σ' Q) : Eo C n ops (o :: l) F σ Q := by
  obtain ⟨new, hnew, hcn⟩ := hb.ex
  unfold appL at hq
  split at hq
  case isFalse => cases hq
  rename_i hbnd
  cases hq
  have hop' : ∀ (res : Option (A × St)), appendOp C.P t a b σ = res → op C (evL C F) o σ = wrapS res := by
    intro res hr
    simp only [op, hop, hc, builtinOp, hargs, hs, hx, h0, h1, ht', hM.no, Bool.false_eq_true, if_false, hr]
    cases dt <;> first | rfl | simp at hnot
  have hn' : appended σ i.size b = some new := by rw [hz]; exact hnew
  have hpos : 0 < i.size := by rw [hz]; exact r.pos
  have hbytes : 0 < i.bytes := Nat.le_of_ble_eq_true hb0
  have hnl : new.length / i.size = m.length := by rw [hcn.length, hz, Nat.mul_div_cancel _ r.pos]
  by_cases hnn : new = []
  · have hm : m = [] := hcn.nil_iff.1 hnn
    subst hm
    have hsl : isSl a = true := by rcases ha with ⟨rfl, _⟩ | ⟨cs, ap, rfl, _⟩ <;> rfl
    have hr : appendOp C.P t a b σ = some (a, σ) := by
      simp only [appendOp, ht, hi, hn', if_pos hpos, if_pos hnn, hsl]; rfl
    refine Eo.val (hop' _ hr) hw hd hdn (h a σ (by rw [List.append_nil]; exact ha) ?_)
    have : L.set j (.app a e) = L := by
      apply List.ext_getElem?
      intro k
      rw [List.getElem?_set]
      split
      · rename_i hk; subst hk
        have hlt := (List.getElem?_eq_some_iff.1 hj).1
        rw [if_pos hlt, hj]
      · rfl
    rw [this]; exact hp
  · have h1n : allOne new = true := hcn.one
    rcases ha with ⟨rfl, rfl⟩ | ⟨cs, ap, rfl, hcs⟩
    · have hr := append_nil (σ := σ) (x := b) ht hi hn' hpos hnn h1n hz1 hz2 hbytes (by rw [hnl]; simpa using hbnd)
      refine Eo.val (hop' _ hr) hw hd hdn (h _ _ (.inr ⟨_, _, by rw [hz], by simpa using hcn⟩) (hp.tok hj _ _ _))
    · have hlen : (cs.length + new.length) / i.size = p.length + m.length := by
        rw [hcs.length, hcn.length, hz, ← Nat.add_mul, Nat.mul_div_cancel _ r.pos]
      have hbnd' : (2 * ((cs.length + new.length) / i.size) + 1024) * i.bytes ≤ 281474976710656 := by rw [hlen]; exact hbnd
      rcases hp.getApp hj with hh | ⟨sz, cs2, ap2, hh, hap⟩
      · simp [nilS] at hh
      · cases hh
        rcases hap with rfl | ⟨id, rfl, hl, _⟩
        · have hr := append_new_ (σ := σ) (cs := cs) (x := b) ht hi hn' hpos hnn h1n hz1 hz2 hbytes hbnd'
          rw [hz] at hr
          exact Eo.val (hop' _ hr) hw hd hdn (h _ _ (.inr ⟨_, _, rfl, hcs.append hcn⟩) (hp.tok hj _ _ _))
        · have hr := append_own (σ := σ) (cs := cs) (x := b) ht hi hn' hpos hnn h1n hz1 hz2 hbytes hbnd' hl
          rw [hz] at hr
          exact Eo.val (hop' _ hr) hw hd hdn (h _ _ (.inr ⟨_, _, rfl, hcs.append hcn⟩) (hp.retok hj _ _))

/-- a string of bytes -/
def ofB (l : List Int) : ByteArray := ⟨(l.map fun i => UInt8.ofNat i.toNat).toArray⟩
theorem toBytes_cells : ∀ {cs : List A} {l : List Int}, Cells (rI .u8) cs l → toBytes cs = some (l.map fun i => UInt8.ofNat i.toNat)
  | _, _, .nil => rfl
  | _, _, .cons (c := c) hx hc => by
    have : c = [.v (.int .u8 _)] := hx
    subst this
    simp only [List.cons_append, List.nil_append, toBytes, toBytes_cells hc, List.map_cons]
theorem op_b2s {ρ : Operand → Option A} {s t e : TypeId} {x : Operand} {a : A} {p : List Int} (ha : Sl (rI .u8) a p) (hop : o.op = .convert s t x) (hx : ρ x = some a) (hs : C.P.underlying s = some (.slice e)) (ht : C.P.underlying t = some .string) (he : C.P.underlying e = some (.int .u8)) (hnil : a = nilS → op C ρ o σ = some (.val (.v (.string (ofB []))) σ)) :
    op C ρ o σ = some (.val (.v (.string (ofB p))) σ) := by
  rcases ha with ⟨rfl, rfl⟩ | ⟨cs, ap, rfl, hcs⟩
  · exact hnil rfl
  · have hb := toBytes_cells hcs
    have h1 : (rI IntKind.u8).sz = 1 := rfl
    simp only [op, hop, hx, h1]
    have : convertOp C.P s t (.sl 1 cs ap) σ = some (.v (.string (ofB p)), σ) := by
      unfold convertOp
      rw [hs, ht]
      simp only [he, hb]
      cases ap <;> rfl
    rw [this]
theorem op_s2b {ρ : Operand → Option A} {s t e : TypeId} {x : Operand} {u : ByteArray} {i : TypeInfo} (hop : o.op = .convert s t x) (hx : ρ x = some (.v (.string u))) (hs : C.P.underlying s = some .string) (ht : C.P.underlying t = some (.slice e)) (he : C.P.underlying e = some (.int .u8)) (hi : C.P.info? e = some i) (hz : i.size = 1) :
    ∃ a, op C ρ o σ = some (.val a σ) ∧ Sl (rI .u8) a (bs u) := by
  refine ⟨.sl 1 (bytesOf u) .no, ?_, .inr ⟨_, _, rfl, cells_bs u⟩⟩
  simp only [op, hop, hx]
  have : convertOp C.P s t (.v (.string u)) σ = some (.sl 1 (bytesOf u) .no, σ) := by
    unfold convertOp
    rw [hs, ht]
    simp only [he, hi, if_pos hz]
  rw [this]
theorem val_b {r : Option R} {m n : Bool} (h : r = some (.val (.v (.bool m)) σ)) (e : m = n) : r = some (.val (.v (.bool n)) σ) := e ▸ h
end
theorem seq_eq (a b : ByteArray) : (a.toList == b.toList) = decide (a = b) := by
  have heq : (a.toList == b.toList) = true ↔ a = b := by rw [← beq_toListBytes]; exact ⟨ba_eq, fun e => by rw [e]; exact ba_refl _⟩
  cases h : a.toList == b.toList
  · symm; rw [decide_eq_false_iff_not]; intro e; rw [heq.2 e] at h; cases h
  · symm; rw [decide_eq_true_eq]; exact heq.1 h
theorem sne_eq (a b : ByteArray) : (!(a.toList == b.toList)) = !decide (a = b) := by rw [seq_eq]
end Go.DM
namespace Go.DM
open Go Go.RowKit
theorem cond_t {α : Type} {c : Bool} {a b r : α} (hc : c = true) (H : cond c a b = r) : a = r := by subst hc; exact H
theorem cond_f {α : Type} {c : Bool} {a b r : α} (hc : c = false) (H : cond c a b = r) : b = r := by subst hc; exact H
inductive LR (S R : Type) where
  | out (s : S)
  | ret (r : R)
inductive LX (S E R : Type) where
  | out (s : S)
  | ex (e : E)
  | ret (r : R)
section
variable {C : Cfg} {n : Nat} {ops : Array Oper} {Q : X → Fr → St → Prop} {F : List (Nat × A)} {σ : St} {o : Oper} {l : List Oper} {d : Nat} {L : List Res} {α : Type} {r : RepT α}
theorem Eo.idx {t e : TypeId} {x ix : Operand} {a : A} {p : List α} {k : IntKind} {i : Int} {v : α} (hs : Sl r a p) (hv : atL p i = some v) (hop : o.op = .indexAddr t x ix) (hx : evL C F x = some a) (hi : evL C F ix = some (.v (.int k i))) (ht : C.P.underlying t = some (.slice e)) (hsz : sizeOfT C.P e = some r.sz)
    (hw : wantedL ops F o = some true) (hd : o.dst = some d) (hn : Nat.ble (d + 1) n = true) (h : ∀ cs p c, IsAt cs p c → r.rep v c → Eo C n ops l ((d, .sp cs p .no) :: F) σ Q) : Eo C n ops (o :: l) F σ Q := by
  obtain ⟨cs, p, c, h1, h2, h3⟩ := op_idx (σ := σ) hs hv hop hx hi ht hsz
  exact Eo.val h1 hw hd hn (h _ _ _ h2 h3)
theorem Eo.subL {t e : TypeId} {x : Operand} {lo hi : Option Operand} {a : A} {p m : List α} {i j : Int} (hs : Sl r a p) (hm : subL p i j = some m) (hop : o.op = .slice t x lo hi none) (hx : evL C F x = some a) (ht : C.P.underlying t = some (.slice e)) (hsz : sizeOfT C.P e = some r.sz)
    (hlo : (lo = none ∧ i = 0) ∨ ∃ y k, lo = some y ∧ evL C F y = some (.v (.int k i))) (hhi : (hi = none ∧ j = p.length) ∨ ∃ y k, hi = some y ∧ evL C F y = some (.v (.int k j)))
    (hw : wantedL ops F o = some true) (hd : o.dst = some d) (hn : Nat.ble (d + 1) n = true) (h : ∀ a', Sl r a' m → Eo C n ops l ((d, a') :: F) σ Q) : Eo C n ops (o :: l) F σ Q := by
  obtain ⟨a', h1, h2⟩ := op_subL (σ := σ) hs hm hop hx ht hsz hlo hhi
  exact Eo.val h1 hw hd hn (h _ h2)
theorem Eo.s2b {s t e : TypeId} {x : Operand} {u : ByteArray} {i : TypeInfo} (hop : o.op = .convert s t x) (hx : evL C F x = some (.v (.string u))) (hs : C.P.underlying s = some .string) (ht : C.P.underlying t = some (.slice e)) (he : C.P.underlying e = some (.int .u8)) (hi : C.P.info? e = some i) (hz : i.size = 1)
    (hw : wantedL ops F o = some true) (hd : o.dst = some d) (hn : Nat.ble (d + 1) n = true) (h : ∀ a', Sl (rI .u8) a' (bs u) → Eo C n ops l ((d, a') :: F) σ Q) : Eo C n ops (o :: l) F σ Q := by
  obtain ⟨a', h1, h2⟩ := op_s2b (C := C) (σ := σ) hop hx hs ht he hi hz
  exact Eo.val h1 hw hd hn (h _ h2)
/-- a loop that a function of a number of rounds follows -/
theorem Ec.loopF {ι β : Type} {a : Code} (f : Nat → ι → Option β) (G : ι → List (Nat × A)) (I : ι → St → Prop) (J : β → X → Fr → St → Prop) (zero : ∀ i, f 0 i = none)
    (step : ∀ m i σ v, I i σ → f (m + 1) i = some v → (∀ j σ', I j σ' → f m j = some v → Ec C n (.loop a) (G j) σ' (J v)) → Ec C n a (G i) σ (Then (fun φ' σ' => Ex C n (.loop a) φ' σ' (J v)) (J v))) :
    ∀ m i σ v, I i σ → f m i = some v → Ec C n (.loop a) (G i) σ (J v)
  | 0, i, σ, v, _, hf => by rw [zero] at hf; cases hf
  | m + 1, i, σ, v, hI, hf => Ec.loop1 (step m i σ v hI hf fun j σ' hj hf' => Ec.loopF f G I J zero step m j σ' v hj hf')
def resL (F : List (Nat × A)) : List ResultVar → Option (List A)
  | [] => some []
  | .tmp t :: r => match lk F t, resL F r with
    | some x, some l => some (x :: l)
    | _, _ => none
  | .cell _ _ :: _ => none
theorem resL_resA {σ : St} : ∀ {l : List ResultVar} {xs : List A}, resL F l = some xs → resA C (toFr F) σ l = some xs
  | [], xs, h => by simp only [resL] at h; simp only [resA]; exact h
  | .tmp t :: l, xs, h => by
    simp only [resL] at h
    simp only [resA, toFr_get]
    split at h
    · rename_i x ys h1 h2
      rw [h1, resL_resA h2]; exact h
    · cases h
  | .cell _ _ :: _, _, h => by simp [resL] at h
theorem Ret.mk {fn : Func} {K : A → St → Prop} {xs : List A} (h : resL F fn.results.toList = some xs) (hk : K (oneOrTup xs) σ) : Ret C fn K .ret (toFr F) σ := ⟨.inr rfl, rfl, xs, resL_resA h, hk⟩
theorem Ret.mk' {fn : Func} {K : A → St → Prop} {xs : List A} (h : resA C (toFr F) σ fn.results.toList = some xs) (hk : K (oneOrTup xs) σ) : Ret C fn K .ret (toFr F) σ := ⟨.inr rfl, rfl, xs, h, hk⟩
theorem resA_tmp {t : Nat} {x : A} {l : List ResultVar} {xs : List A} (hx : lk F t = some x) (h : resA C (toFr F) σ l = some xs) : resA C (toFr F) σ (.tmp t :: l) = some (x :: xs) := by
  simp only [resA, toFr_get, hx, h]
theorem resA_cell {a b off : Nat} {t e : TypeId} {x : A} {cs : List A} {l : List ResultVar} {xs : List A} (hp : Hp σ L) (i : Nat) (hi : L[i]? = some (.blk b (.cells cs e))) (ha : lk F a = some (.ptr b off)) (hl : loadAt C.P t cs off = some x) (h : resA C (toFr F) σ l = some xs) : resA C (toFr F) σ (.cell a t :: l) = some (x :: xs) := by
  have := hp.get hi
  simp only [resA, toFr_get, ha, loadOp, St.cells, this, hl, h]
theorem Ca.enterL {c : Code} {f : FuncId} {fn : Func} {args : List A} {K : A → St → Prop} {G : List (Nat × A)} (hf : C.P.funcs[f]? = some fn) (hb : fn.body = some c) (hp : C.prim f = none) (hl : Nat.ble args.length fn.ntmps = true) (hG : toFr G = ⟨argFr 0 args, []⟩)
    (h : Ec C fn.ntmps c G σ (Ret C fn K)) : Ca C f args σ K := Ca.enter hf hb hp (Nat.le_of_ble_eq_true hl) (by rw [← hG]; exact h)
end
end Go.DM
namespace Go.DM
open Go Go.RowKit

def statPure (o : Oper) : Bool := match o.op with
  | .move _ | .assign _ | .pick .. | .build .. | .buildSlice .. | .nilCheck _ | .unOp .. | .binOp .. | .makeInterface .. | .makeFunc .. | .fieldAddr .. | .field .. | .indexAddr .. | .index .. | .typeAssert .. | .extract .. => true
  | _ => false
theorem statPure_pureQ {C : Cfg} [hM : NoMut C] {o : Oper} {ρ : Operand → Option A} (h : statPure o = true) : pureQ C ρ o = true := by
  unfold statPure at h
  unfold pureQ
  cases hop : o.op <;> simp only [hop, hM.no, Bool.not_false] at h ⊢ <;> cases h
/-- a slice expression over a string, or no slice expression -/
def strSlice (P : Program) (o : Oper) : Bool := match o.op with
  | .slice t .. => match P.underlying t with
    | some .string => true
    | _ => false
  | .defer _ => false
  | _ => true
def drawSt (C : Cfg) (ops : Array Oper) (bef : Array Nat) : Bool :=
  (List.range ops.size).all fun j => match ops[j]? with
    | none => false
    | some o => strSlice C.P o && (List.range j).all fun i => match ops[i]? with
        | none => false
        | some p => bfr bef i j || (isQuiet C p == isQuiet C o) || statPure p || statPure o
theorem drawSt_slice {C : Cfg} {ops : Array Oper} {bef : Array Nat} (h : drawSt C ops bef = true) {j : Nat} {o : Oper} (hj : ops[j]? = some o) : strSlice C.P o = true := by
  have hlt := (Array.getElem?_eq_some_iff.1 hj).1
  have := (List.all_eq_true.1 h) j (List.mem_range.2 hlt)
  simp only [hj, Bool.and_eq_true] at this
  exact this.1
theorem drawSt_pair {C : Cfg} {ops : Array Oper} {bef : Array Nat} (h : drawSt C ops bef = true) {i j : Nat} {o p : Oper} (hij : i < j) (hi : ops[i]? = some p) (hj : ops[j]? = some o) (hq : isQuiet C p ≠ isQuiet C o) : bfr bef i j = true ∨ statPure p = true ∨ statPure o = true := by
  have hlt := (Array.getElem?_eq_some_iff.1 hj).1
  have := (List.all_eq_true.1 h) j (List.mem_range.2 hlt)
  simp only [hj, Bool.and_eq_true] at this
  have := (List.all_eq_true.1 this.2) i (List.mem_range.2 hij)
  simp only [hi, Bool.or_eq_true, beq_iff_eq] at this
  rcases this with ((h | h) | h) | h
  · exact .inl h
  · exact absurd h hq
  · exact .inr (.inl h)
  · exact .inr (.inr h)
section
variable {C : Cfg} {ρ : Operand → Option A} {o : Oper} {σ σ' : St} {x : A}
theorem wrapV_inv {v : Option A} {r : R} (h : wrapV v σ = some r) : ∃ x, r = .val x σ := by
  cases v with
  | none => cases h
  | some x => cases h; exact ⟨x, rfl⟩
theorem detIf_inv {r : R} (h : detIf C ρ o σ = some r) : ∃ x, r = .val x σ := by
  obtain ⟨v, hv⟩ := detIf_pure (C := C) (ρ := ρ) (o := o)
  rw [hv] at h
  cases v with
  | none => cases h
  | some x => cases h; exact ⟨x, rfl⟩
theorem wrapS_inv {v : Option (A × St)} {r : R} (h : wrapS v = some r) : ∃ x s, r = .val x s := by
  cases v with
  | none => cases h
  | some x => obtain ⟨a, s⟩ := x; cases h; exact ⟨a, s, rfl⟩
theorem wrapU_inv {v : Option St} {r : R} (h : wrapU v = some r) : ∃ s, r = .skip s := by
  cases v with
  | none => cases h
  | some x => cases h; exact ⟨x, rfl⟩
theorem convertOp_st {s t : TypeId} {a b : A} (h : convertOp C.P s t a σ = some (b, σ')) : σ' = σ := by
  unfold convertOp at h
  repeat' split at h
  all_goals first | (cases h; rfl) | cases h
/-- a quiet operation's answer -/
theorem quiet_op [hM : NoMut C] (hq : isQuiet C o = true) (hs : strSlice C.P o = true) {r : R} (h : op C ρ o σ = some r) : ∃ x, r = .val x σ ∧ opQ C ρ o σ = some x := by
  have key : (∃ x, r = .val x σ) := by
    unfold isQuiet at hq
    unfold strSlice at hs
    cases hop : o.op <;> simp only [hop] at hq hs <;> first | cases hq | skip
    case call c =>
      split at hq
      · rename_i b hb
        cases b <;> simp only at hq <;> first | (cases hq; done) | skip
        all_goals
          simp only [op, hop, hb, builtinOp] at h
          repeat' split at h
          all_goals first | exact detIf_inv h | (cases h; exact ⟨_, rfl⟩) | (cases h; done) | (exfalso; simp_all; done)
      · cases hq
    case slice t x lo hi m =>
      cases m with
      | some m => simp only [op, hop] at h; cases h
      | none =>
        split at hs
        case h_2 => cases hs
        rename_i hu
        simp only [op, hop] at h
        split at h
        · split at h
          · rename_i hh
            simp only [sliceOp, hu] at hh
            cases hh
          · exact detIf_inv h
        · cases h
    case convert s t x =>
      simp only [op, hop] at h
      split at h
      · split at h
        · rename_i hh
          have := convertOp_st hh
          subst this
          cases h; exact ⟨_, rfl⟩
        · exact detIf_inv h
      · cases h
    all_goals
      simp only [op, hop, hM.no, Bool.false_eq_true, if_false] at h
      repeat' split at h
      all_goals first | exact wrapV_inv h | exact detIf_inv h | (cases h; exact ⟨_, rfl⟩) | cases h
  obtain ⟨x, rfl⟩ := key
  refine ⟨x, rfl, ?_⟩
  unfold opQ
  unfold isQuiet at hq
  unfold strSlice at hs
  cases hop : o.op <;> simp only [hop, hM.no, Bool.false_eq_true, if_false] at hq hs ⊢ <;> first | (cases hq; done) | (simp only [h]; done) | skip
  case call c =>
    split at hq
    · rename_i b hb
      cases b <;> simp only at hq ⊢ <;> first | (cases hq; done) | simp only [h]
    · cases hq
  case slice t x' lo hi m =>
    split
    · rename_i hx
      split at hs
      case h_2 => cases hs
      rename_i hu
      cases m with
      | some m => simp only [op, hop] at h; cases h
      | none =>
        simp only [op, hop, hx] at h
        split at h
        · rename_i h1 h2 h3
          cases h1
          simp only [sliceOp, hu] at h
          have hp : plainOps ρ o.op.operands.toList = false := by
            simp [hop, Op.operands, plainOps, hx, toVal]
          unfold detIf at h
          rw [hp] at h
          cases h
        · cases h
    · simp only [h]
theorem callOp_dfr {g f : FuncId} {as args : List A} {s : St} (hh : callOp C g as σ = some (.dfr f args s)) : False := by
  unfold callOp at hh
  repeat' split at hh
  all_goals cases hh
theorem builtin_dfr {b : Builtin} {c : Call} {f : FuncId} {args : List A} {s : St} (h : builtinOp C ρ b c o σ = some (.dfr f args s)) : False := by
  unfold builtinOp at h
  repeat' split at h
  all_goals first | (cases h; done) | (obtain ⟨x, hx⟩ := detIf_inv h; cases hx; done) | (obtain ⟨x, s, hx⟩ := wrapS_inv h; cases hx; done)
theorem op_dfr {f : FuncId} {args : List A} {s : St} (h : op C ρ o σ = some (.dfr f args s)) : strSlice C.P o = false := by
  cases hop : o.op
  case defer c => simp [strSlice, hop]
  all_goals
    exfalso
    simp only [op, hop] at h
  all_goals
    repeat' split at h
    all_goals first | contradiction | (cases h; done) | (obtain ⟨x, hx⟩ := detIf_inv h; cases hx; done) | (obtain ⟨x, hx⟩ := wrapV_inv h; cases hx; done) | (obtain ⟨x, s, hx⟩ := wrapS_inv h; cases hx; done) | (obtain ⟨s, hx⟩ := wrapU_inv h; cases hx; done) | exact callOp_dfr h | exact builtin_dfr h | (cases h; rename_i hh; exact callOp_dfr hh) | (cases h; rename_i hh _; exact callOp_dfr hh) | (cases h; rename_i hh _ _; exact callOp_dfr hh)
end
theorem runDr_of {C : Cfg} [hM : NoMut C] {callF : CallF} {n : Nat} {ops : Array Oper} {bef : Array Nat} (hst : drawSt C ops bef = true) : ∀ (l : List Oper) (j : Nat) (φ : Fr) (σ : St) (past : List (Nat × St)) (pend : List (Nat × Fr × Oper × A)) (φ' : Fr) (σ' : St),
    (∀ i, l[i]? = ops[j + i]?) → (∀ p ∈ past, p.1 < j ∧ ∃ o, ops[p.1]? = some o ∧ isQuiet C o = false) → (∀ p ∈ pend, p.1 < j ∧ ops[p.1]? = some p.2.2.1 ∧ isQuiet C p.2.2.1 = true) →
    runOps C callF n ops l φ σ = some (.normal, φ', σ') → runDr C callF n ops bef l j φ σ past pend = some (.normal, φ', σ')
  | [], j, φ, σ, past, pend, φ', σ', _, _, _, h => by simp only [runOps] at h; simp only [runDr]; exact h
  | o :: l, j, φ, σ, past, pend, φ', σ', hl, hpa, hpe, h => by
    have ho : ops[j]? = some o := by have := hl 0; simpa using this.symm
    have hl' : ∀ i, l[i]? = ops[j + 1 + i]? := fun i => by have := hl (i + 1); rw [List.getElem?_cons_succ] at this; rw [this]; congr 1; omega
    have hpa' : ∀ p ∈ past, p.1 < j + 1 ∧ ∃ o, ops[p.1]? = some o ∧ isQuiet C o = false := fun p hp => ⟨Nat.lt_succ_of_lt (hpa p hp).1, (hpa p hp).2⟩
    have hpe' : ∀ p ∈ pend, p.1 < j + 1 ∧ ops[p.1]? = some p.2.2.1 ∧ isQuiet C p.2.2.1 = true := fun p hp => ⟨Nat.lt_succ_of_lt (hpe p hp).1, (hpe p hp).2⟩
    rw [runOps] at h
    rw [runDr]
    cases hw : wantedA ops φ o with
    | none => rw [hw] at h; cases h
    | some b =>
      rw [hw] at h
      cases b with
      | false =>
        simp only at h ⊢
        cases hp : putA n φ o.dst und with
        | none => rw [hp] at h; cases h
        | some φ3 => rw [hp] at h; exact runDr_of hst l (j + 1) _ _ _ _ _ _ hl' hpa' hpe' h
      | true =>
        simp only at h ⊢
        cases hop : op C (ev C φ) o σ with
        | none => rw [hop] at h; cases h
        | some r =>
          rw [hop] at h
          cases hq : isQuiet C o with
          | true =>
            obtain ⟨x, rfl, hx⟩ := quiet_op hq (drawSt_slice hst ho) hop
            simp only at h
            simp only [if_true, hx]
            have hsp : stableP C bef φ o j x past = true := by
              unfold stableP
              rw [List.all_eq_true]
              intro p hp
              obtain ⟨h1, p', h2, h3⟩ := hpa p hp
              simp only [Bool.or_eq_true]
              rcases drawSt_pair hst h1 h2 ho (by rw [h3, hq]; simp) with hb | hb | hb
              · exact .inl hb
              · have : isQuiet C p' = true := by
                  unfold statPure at hb; unfold isQuiet
                  cases hop' : p'.op <;> simp only [hop', hM.no, Bool.not_false] at hb ⊢ <;> cases hb
                rw [h3] at this; cases this
              · right; unfold sameA; rw [statPure_pureQ hb]; rfl
            rw [if_pos hsp]
            cases hp : putA n φ o.dst x with
            | none => rw [hp] at h; cases h
            | some φ3 =>
              rw [hp] at h
              refine runDr_of hst l (j + 1) _ _ _ _ _ _ hl' hpa' (fun p hp => ?_) h
              rcases List.mem_cons.1 hp with rfl | hp
              · exact ⟨Nat.lt_succ_self _, ho, hq⟩
              · exact hpe' p hp
          | false =>
            simp only [Bool.false_eq_true, if_false]
            have hsf : ∀ s, stableF C bef j s pend = true := by
              intro s
              unfold stableF
              rw [List.all_eq_true]
              intro p hp
              obtain ⟨h1, h2, h3⟩ := hpe p hp
              obtain ⟨i, ψ, o', y⟩ := p
              simp only [Bool.or_eq_true]
              rcases drawSt_pair hst h1 h2 ho (by simp only at h3; rw [h3, hq]; simp) with hb | hb | hb
              · exact .inl hb
              · right; unfold sameA; rw [statPure_pureQ hb]; rfl
              · have : isQuiet C o = true := by
                  unfold statPure at hb; unfold isQuiet
                  cases hop' : o.op <;> simp only [hop', hM.no, Bool.not_false] at hb ⊢ <;> cases hb
                rw [hq] at this; cases this
            have next : ∀ (y : A) (s : St), (match putA n φ o.dst y with
                | some φ' => runOps C callF n ops l φ' s
                | none => none) = some (.normal, φ', σ') → loudStep C callF φ o σ = some (y, s) →
                (match loudStep C callF φ o σ with
                  | some (x, σ') => if stableF C bef j σ' pend then match putA n φ o.dst x with
                      | some φ' => runDr C callF n ops bef l (j + 1) φ' σ' ((j, σ) :: past) pend
                      | none => none
                    else none
                  | none => none) = some (.normal, φ', σ') := by
              intro y s h hls
              rw [hls]
              simp only
              rw [if_pos (hsf s)]
              cases hp : putA n φ o.dst y with
              | none => rw [hp] at h; cases h
              | some φ3 =>
                rw [hp] at h
                refine runDr_of hst l (j + 1) _ _ _ _ _ _ hl' (fun p hp => ?_) hpe' h
                rcases List.mem_cons.1 hp with rfl | hp
                · exact ⟨Nat.lt_succ_self _, o, ho, hq⟩
                · exact hpa' p hp
            cases r with
            | val y s => exact next y s h (by unfold loudStep; rw [hop])
            | skip s => exact next und s h (by unfold loudStep; rw [hop])
            | call f args s =>
              simp only at h
              cases hf : callF f args s with
              | none => rw [hf] at h; cases h
              | some q =>
                rw [hf] at h
                obtain ⟨out, s2⟩ := q
                cases out with
                | ret y => exact next y s2 h (by unfold loudStep; rw [hop]; simp only [hf])
                | pan y => simp only at h; cases h
            | pan y s => simp only at h; cases h
            | dfr f args s => have := op_dfr hop; rw [drawSt_slice hst ho] at this; cases this
            | rcv s => cases h
theorem Ec.drawn {C : Cfg} [hM : NoMut C] {n : Nat} {F : List (Nat × A)} {σ : St} {Q : X → Fr → St → Prop} {id : Nat} {ops : Array Oper} (hd : (drawOk C ops (Region.before ops) && drawSt C ops (Region.before ops)) = true) (h : Eo C n ops ops.toList F σ (fun x φ s => x = .normal ∧ Q .normal φ s)) : Ec C n (.region id ops true) F σ Q := by
  rw [Bool.and_eq_true] at hd
  obtain ⟨N, x, φ0, φ', σ', ⟨rfl, h1⟩, h2, h3⟩ := h
  have := runDr_of hd.2 ops.toList 0 (toFr F) σ [] [] φ' σ' (fun i => by simp) (fun p hp => by cases hp) (fun p hp => by cases hp) h3
  exact Ex.drawn hd.1 ⟨N, _, φ0, φ', σ', h1, h2, runDr_dq this⟩
theorem Eo.cutN {C : Cfg} {n : Nat} {ops : Array Oper} {Q J : X → Fr → St → Prop} {F : List (Nat × A)} {σ : St} {l : List Oper} (j : Nat) (h : Eo C n ops (l.take j) F σ J) (hq : ∀ x φ s, J x φ s → x = .normal ∧ ExO C n ops (l.drop j) φ s Q) : Eo C n ops l F σ Q :=
  Eo.cut (List.take_append_drop j l).symm h (fun _φ _s hj => (hq _ _ _ hj).2) (fun _x _φ _s hj hne => absurd (hq _ _ _ hj).1 hne)
theorem Fl.trans {F G : List (Nat × A)} {φ : Fr} (h : Fl F (toFr G)) (g : Fl G φ) : Fl F φ := Fr.le.trans h g
theorem Eo.cutF {C : Cfg} {n : Nat} {ops : Array Oper} {Q : X → Fr → St → Prop} {F : List (Nat × A)} {σ : St} {l : List Oper} (j : Nat) (G : List (Nat × A)) (h : Eo C n ops (l.take j) F σ (fun x φ s => x = .normal ∧ s = σ ∧ Fl G φ)) (hk : Eo C n ops (l.drop j) G σ Q) : Eo C n ops l F σ Q :=
  Eo.cutN j h (fun x φ s ⟨h1, h2, h3⟩ => ⟨h1, by subst h2; exact Eo.of h3 hk⟩)

/-! structs that are compared -/
section
variable {P : Program}
theorem det_ite {α : Type} {c : Prop} [Decidable c] (a b : Sem α) : det P (if c then a else b) = if c then det P a else det P b := by split <;> rfl
theorem det_equalIn_struct (d : Nat) (t : TypeId) (xs ys : Array Value) (ht : P.underlying t = some (.struct (P.fieldsOf t))) (hp : P.stoodInHeld t = false) :
    det P (Op.equalIn (d + 1) t (.agg xs) (.agg ys)) = det P (Op.eqFields d xs ys (P.fieldsOf t).toList) := by
  simp only [Op.equalIn, det_bind, det_underlying ht, Option.bind_some, show det P program = some P from rfl, hp, Bool.false_eq_true, if_false]
  rw [← Array.forIn_toList]
  generalize (P.fieldsOf t).toList = fs
  clear ht
  induction fs with
  | nil => simp [Op.eqFields, det_pure]
  | cons f fs ih =>
    simp only [List.forIn_cons, Op.eqFields, det_bind, det_ite]
    split
    · simp only [Option.bind_assoc]
      cases det P (part f.type xs f.offset) with
      | none => simp
      | some a =>
        simp only [Option.bind_some]
        cases det P (part f.type ys f.offset) with
        | none => simp
        | some b =>
          simp only [Option.bind_some]
          cases det P (Op.equalIn d f.type a b) with
          | none => simp
          | some r => cases r <;> first | rfl | exact ih | (simp [det_pure]; done)
    · simpa [det_pure] using ih
theorem det_eqF_nil {d : Nat} {xs ys : Array Value} : det P (Op.eqFields d xs ys []) = some true := rfl
theorem det_eqF_cons {d : Nat} {xs ys : Array Value} {f : Field} {fs : List Field} {a b : Value} {r r' : Bool} (hn : decide (f.name ≠ "_") = true) (ha : det P (part f.type xs f.offset) = some a) (hb : det P (part f.type ys f.offset) = some b) (hr : det P (Op.equalIn d f.type a b) = some r) (hf : det P (Op.eqFields d xs ys fs) = some r') :
    det P (Op.eqFields d xs ys (f :: fs)) = some (r && r') := by
  simp only [Op.eqFields]
  rw [if_pos (of_decide_eq_true hn)]
  simp only [det_bind, ha, hb, hr, Option.bind_some, det_ite, hf, det_pure]
  cases r <;> simp
theorem det_eqI {d : Nat} {t : TypeId} {k k' : IntKind} {a b : Int} (h : P.underlying t = some (.int k')) : det P (Op.equalIn (d + 1) t (.int k a) (.int k b)) = some (a == b) := by
  simp [Op.equalIn, det_bind, det_underlying h, det_pure]
theorem det_eqB {d : Nat} {t : TypeId} {a b : Bool} (h : P.underlying t = some .bool) : det P (Op.equalIn (d + 1) t (.bool a) (.bool b)) = some (a == b) := by
  simp [Op.equalIn, det_bind, det_underlying h, det_pure]
theorem det_eqS {d : Nat} {t : TypeId} {a b : ByteArray} (h : P.underlying t = some .string) : det P (Op.equalIn (d + 1) t (.string a) (.string b)) = some (decide (a = b)) := by
  rw [← seq_eq, ← beq_toListBytes]
  simp [Op.equalIn, det_bind, det_underlying h, det_pure]
theorem det_equal_eq (t : TypeId) (x y : Value) (_d : Nat) (r : Bool) (h : ∀ d, det P (Op.equalIn (d + 1) t x y) = some r) : det P (Op.equal t x y) = some r := by
  have : Op.maxDepth = 9999 + 1 := rfl
  unfold Op.equal
  rw [this]; exact h 9999
end
section
variable {C : Cfg} {ρ : Operand → Option A} {o : Oper} {σ : St}
theorem det_eqGuard {P : Program} {op : BinOp} {t : TypeId} {x y : Operand} {xs ys : Array Value} (hm : P.eqGuardType P.depth t = false) : det P (eqGuard op t x y (.agg xs) (.agg ys)) = some () := by
  unfold eqGuard
  cases op <;> simp [det_bind, det_pure, show det P program = some P from rfl, hm, det_ite]
theorem op_eqSt {t u : TypeId} {x y : Operand} {xs ys : List A} {vs ws : List Value} {r : Bool} (hop : o.op = .binOp .eql t x y u) (hx : ρ x = some (.agg xs)) (hy : ρ y = some (.agg ys)) (hxs : toVals xs = some vs) (hys : toVals ys = some ws) (ht : C.P.underlying t = some (.struct (C.P.fieldsOf t))) (hp : C.P.stoodInHeld t = false) (hg : C.P.eqGuardType C.P.depth t = false)
    (he : ∀ d, det C.P (Op.eqFields (d + 1) vs.toArray ws.toArray (C.P.fieldsOf t).toList) = some r) : op C ρ o σ = some (.val (.v (.bool r)) σ) := by
  have h1 : valOf ρ x = .agg vs.toArray := by simp [valOf, hx, toVal, hxs]
  have h2 : valOf ρ y = .agg ws.toArray := by simp [valOf, hy, toVal, hys]
  have hq : det C.P (Op.equal t (.agg vs.toArray) (.agg ws.toArray)) = some r := by
    have : Op.maxDepth = 9998 + 1 + 1 := rfl
    unfold Op.equal
    rw [this, det_equalIn_struct _ _ _ _ ht hp]; exact he 9998
  have hd : detIf C ρ o σ = some (.val (.v (.bool r)) σ) := by
    refine detIf_of (u := .bool r) ?_ ?_ rfl
    · simp [hop, Op.operands, plainOps, hx, hy, toVal, hxs, hys]
    · simp only [execOp, hop, h1, h2, binOp, det_bind, det_eqGuard hg, Option.bind_some, hq, det_pure]
  simp only [op, hop, hx, hy]
  have : eqA C.P t (.agg xs) (.agg ys) = none := by unfold eqA; rw [ht]
  rw [this]; exact hd
theorem op_neSt {t u : TypeId} {x y : Operand} {xs ys : List A} {vs ws : List Value} {r : Bool} (hop : o.op = .binOp .neq t x y u) (hx : ρ x = some (.agg xs)) (hy : ρ y = some (.agg ys)) (hxs : toVals xs = some vs) (hys : toVals ys = some ws) (ht : C.P.underlying t = some (.struct (C.P.fieldsOf t))) (hp : C.P.stoodInHeld t = false) (hg : C.P.eqGuardType C.P.depth t = false)
    (he : ∀ d, det C.P (Op.eqFields (d + 1) vs.toArray ws.toArray (C.P.fieldsOf t).toList) = some r) : op C ρ o σ = some (.val (.v (.bool (!r))) σ) := by
  have h1 : valOf ρ x = .agg vs.toArray := by simp [valOf, hx, toVal, hxs]
  have h2 : valOf ρ y = .agg ws.toArray := by simp [valOf, hy, toVal, hys]
  have hq : det C.P (Op.equal t (.agg vs.toArray) (.agg ws.toArray)) = some r := by
    have : Op.maxDepth = 9998 + 1 + 1 := rfl
    unfold Op.equal
    rw [this, det_equalIn_struct _ _ _ _ ht hp]; exact he 9998
  have hd : detIf C ρ o σ = some (.val (.v (.bool (!r))) σ) := by
    refine detIf_of (u := .bool (!r)) ?_ ?_ rfl
    · simp [hop, Op.operands, plainOps, hx, hy, toVal, hxs, hys]
    · simp only [execOp, hop, h1, h2, binOp, det_bind, det_eqGuard hg, Option.bind_some, hq, det_pure]
  simp only [op, hop, hx, hy]
  have : eqA C.P t (.agg xs) (.agg ys) = none := by unfold eqA; rw [ht]
  rw [this]; exact hd
end
end Go.DM
namespace Go.DM
open Go Go.RowKit

/-- a call of a function that is given by hand -/
theorem Ca.prim {C : Cfg} {f : FuncId} {g : List A → St → Option (A × St)} {args : List A} {σ σ' : St} {x : A} {Q : A → St → Prop} (hf : C.prim f = some g) (hg : g args σ = some (x, σ')) (hq : Q x σ') : Ca C f args σ Q :=
  ⟨x, σ', Cl.of (k := 1) (by simp only [call, hf, hg]), hq⟩

theorem cells_strs : ∀ (l : List ByteArray), Cells rS (strsA l) l
  | [] => .nil
  | b :: l => Cells.cons (r := rS) (c := [.v (.string b)]) rfl (cells_strs l)
section
variable {C : Cfg} {f : FuncId} {σ : St} {R : List Res}
theorem containsT_ok {s t : ByteArray} (hf : C.prim f = some containsG) (hp : Hp σ R) {r : Bool} (H : containsT s t = some r) : Ca C f [.v (.string s), .v (.string t)] σ (fun x σ' => x = .v (.bool r) ∧ Hp σ' R) :=
  Ca.prim hf (σ' := σ) (x := .v (.bool r)) (by simp [containsG, H]) ⟨rfl, hp⟩
theorem trimLeftT_ok {s t : ByteArray} (hf : C.prim f = some trimLeftG) (hp : Hp σ R) {r : ByteArray} (H : trimLeftT s t = some r) : Ca C f [.v (.string s), .v (.string t)] σ (fun x σ' => x = .v (.string r) ∧ Hp σ' R) :=
  Ca.prim hf (σ' := σ) (x := .v (.string r)) (by simp [trimLeftG, H]) ⟨rfl, hp⟩
theorem indexByteT_ok {s : ByteArray} {c : Int} (hf : C.prim f = some indexByteG) (hp : Hp σ R) {r : Int} (H : indexByteT s c = some r) : Ca C f [.v (.string s), .v (.int .u8 c)] σ (fun x σ' => x = .v (.int .i64 r) ∧ Hp σ' R) :=
  Ca.prim hf (σ' := σ) (x := .v (.int .i64 r)) (by simp [indexByteG, H]) ⟨rfl, hp⟩
theorem splitT_ok {s t : ByteArray} (hf : C.prim f = some splitG) (hp : Hp σ R) {r : List ByteArray} (H : splitT s t = some r) : Ca C f [.v (.string s), .v (.string t)] σ (fun x σ' => ∃ a, x = a ∧ Sl rS a r ∧ Hp σ' R) :=
  Ca.prim hf (σ' := σ) (x := .sl 1 (strsA r) .no) (by simp [splitG, H]) ⟨_, rfl, .inr ⟨_, _, rfl, cells_strs r⟩, hp⟩
end
/-- a call that comes to true, by the walk -/
theorem calls_true' {C : Cfg} (hm : C.P.follows .mixedOrders = true) {w : World} (hpr : PrimOk C w) (hg : GlobOk C (start w)) {f : FuncId} {args : List A} {us : List Value} (hr : RelL (start w) args us)
    (h : Ca C f args σ0 (fun x _ => x = .v (.bool true))) : Calls C.P f us.toArray w fun e w' => e = .returned (.bool true) ∧ Below w.heap.size w w' := by
  obtain ⟨x, σ', hc, rfl⟩ := h
  obtain ⟨k, hk⟩ := hc.run
  refine (calls_of_run' hm hpr hg hr hk).mono (fun e w' ⟨v, k', h1, h2, h3⟩ => ?_)
  have := rel_v_inv h3
  subst this
  exact ⟨h1, h2⟩
end Go.DM
namespace Go.DM
open Go Go.RowKit

/-- the bytes as a string -/
def strT (l : List Int) : Option ByteArray := if l.length ≤ 9223372036854775807 then some (ofB l) else none
theorem strT_some {l : List Int} {r : ByteArray} (h : strT l = some r) : l.length ≤ 9223372036854775807 ∧ ofB l = r := by
  unfold strT at h
  split at h
  · rename_i hl; cases h; exact ⟨hl, rfl⟩
  · cases h
def AddrOk (a0 : A) (b : Nat) : Prop := a0 = .v (.pointer none) ∨ a0 = .ptr b 0
def NotEx (a : A) : Prop := ∀ sz cs ap, a = .sl sz cs ap → ap ≠ .ex ∧ cs ≠ []
def BufIs (a : A) (l : List Int) : Prop := Sl (rI .u8) a l ∧ NotEx a
theorem BufIs.nil : BufIs nilS [] := ⟨Sl.nil, fun _ _ _ h => by cases h⟩
theorem BufIs.str {a : A} {l : List Int} {σ : St} {e : TypeId} {R : List Res} {x : Res} (h : BufIs a l) (hp : Hp σ (x :: .app a e :: R)) : (a = nilS ∧ l = []) ∨ ∃ cs id, a = .sl 1 cs (.gr id) ∧ Cells (rI .u8) cs l ∧ 0 < cs.length ∧ σ.live id = some e := by
  rcases h.1 with hn | ⟨cs, ap, rfl, hc⟩
  · exact .inl hn
  · right
    obtain ⟨h1, h2⟩ := h.2 _ _ _ rfl
    have hr : AppOk σ (.sl (rI IntKind.u8).sz cs ap) e := hp.ok (.app _ e) (by simp)
    rcases hr with hh | ⟨sz, cs2, ap2, hh, hap⟩
    · simp [nilS] at hh
    · cases hh
      rcases hap with rfl | ⟨id, rfl, hl, _⟩
      · exact absurd rfl h1
      · exact ⟨cs, id, rfl, hc, List.length_pos_iff.2 h2, hl⟩

section
variable {C : Cfg} {n : Nat} {ops : Array Oper} {Q : X → Fr → St → Prop} {F : List (Nat × A)} {σ : St} {o : Oper} {l : List Oper} {d : Nat} {L : List Res} {ρ : Operand → Option A}
theorem Ret.mkN {fn : Func} {K : A → St → Prop} {xs : List A} (h : resL F fn.results.toList = some xs) (hk : K (oneOrTup xs) σ) : Ret C fn K .normal (toFr F) σ := ⟨.inl rfl, rfl, xs, resL_resA h, hk⟩
theorem op_toUnsafe {s t u : TypeId} {x : Operand} {b : Nat} {cs : List A} {e : TypeId} {m : Nat} (hp : Hp σ L) (i : Nat) (hi : L[i]? = some (.blk b (.cells cs e))) (hop : o.op = .convert s t x) (hx : ρ x = some (.ptr b 0)) (hs : C.P.underlying s = some (.pointer u)) (ht : C.P.underlying t = some .unsafePointer) (hz : sizeOfT C.P u = some m) (hm : 0 < m) (hc : 0 < cs.length) :
    op C ρ o σ = some (.val (.ptr b 0) σ) := by
  have hg := hp.get hi
  simp only [op, hop, hx]
  have : convertOp C.P s t (.ptr b 0) σ = some (.ptr b 0, σ) := by
    unfold convertOp
    rw [hs, ht]
    simp only [hz, St.cells, hg]
    rw [if_pos ⟨hm, hc⟩]
  rw [this]
theorem op_fromUnsafe {s t u : TypeId} {x : Operand} {b : Nat} {cs : List A} {e : TypeId} {m : Nat} (hp : Hp σ L) (i : Nat) (hi : L[i]? = some (.blk b (.cells cs e))) (hop : o.op = .convert s t x) (hx : ρ x = some (.ptr b 0)) (hs : C.P.underlying s = some .unsafePointer) (ht : C.P.underlying t = some (.pointer u)) (hz : sizeOfT C.P u = some m) (hm : 0 < m) (hl : liesAt C.P C.P.depth e (cs.length / C.P.cellsOf e) 0 u 1 = true) (he : e < offX := by decide) :
    op C ρ o σ = some (.val (.ptr b 0) σ) := by
  have hg := hp.get hi
  simp only [op, hop, hx]
  have : convertOp C.P s t (.ptr b 0) σ = some (.ptr b 0, σ) := by
    unfold convertOp
    rw [hs, ht]
    simp only [hz, St.cells, hg]
    rw [if_pos ⟨hm, he, hl⟩]
  rw [this]
theorem op_ptrNe {t u e : TypeId} {x y : Operand} {b off : Nat} {m : Nat} (hop : o.op = .binOp .neq t x y u) (hx : ρ x = some (.ptr b off)) (hy : ρ y = some (.ptr b off)) (ht : C.P.underlying t = some (.pointer e)) (hz : sizeOfT C.P e = some (m + 1)) : op C ρ o σ = some (.val (.v (.bool false)) σ) := by
  have : eqA C.P t (.ptr b off) (.ptr b off) = some true := by
    unfold eqA
    rw [ht]
    simp [hz]
  simp only [op, hop, hx, hy, this]
  rfl
theorem op_sliceData {c : Call} {x : Operand} {cs : List A} {sz : Nat} {ap : Ap} (hop : o.op = .call c) (hc : c.callee = .builtin .unsafeSliceData) (ha : c.args.toList = [x]) (hx : ρ x = some (.sl sz cs ap)) (hne : 0 < cs.length) : op C ρ o σ = some (.val (.sp cs 0 ap) σ) := by
  simp only [op, hop, hc, builtinOp, ha, hx, sliceDataOp, if_pos hne]
theorem op_sliceDataNil {c : Call} {x : Operand} (hop : o.op = .call c) (hc : c.callee = .builtin .unsafeSliceData) (ha : c.args.toList = [x]) (hx : ρ x = some nilS) : op C ρ o σ = some (.val (.v (.pointer none)) σ) := by
  have hd : detIf C ρ o σ = some (.val (.v (.pointer none)) σ) := by
    refine detIf_of (u := .pointer none) ?_ ?_ rfl
    · have : o.op.operands.toList = [x] := by simp [hop, Op.operands, Call.operands, hc, ha]
      rw [this]; simp [plainOps, hx, toVal, nilS]
    · rw [exec_builtin hop hc, args1 ha, valOf_v (u := .slice none 0 0) (by rw [hx]; rfl)]
      rfl
  simp only [op, hop, hc, builtinOp, ha, hx, nilS, sliceDataOp]
  exact hd
theorem op_unsafeStringNil {c : Call} {x y : Operand} {t : TypeId} {k : IntKind} (hop : o.op = .call c) (hc : c.callee = .builtin .unsafeString) (ha : c.args.toList = [x, y]) (hx : ρ x = some (.v (.pointer none))) (hy : ρ y = some (.v (.int k 0))) (h0 : c.argTypes[0]? = some t) : op C ρ o σ = some (.val (.v (.string (ofB []))) σ) := by
  have hd : detIf C ρ o σ = some (.val (.v (.string (ofB []))) σ) := by
    refine detIf_of (u := .string (ofB [])) ?_ ?_ rfl
    · have : o.op.operands.toList = [x, y] := by simp [hop, Op.operands, Call.operands, hc, ha]
      rw [this]; simp [plainOps, hx, hy, toVal]
    · rw [exec_builtin hop hc, args2 ha, valOf_v hx, valOf_v hy]
      have e : ∀ (ty : TypeId), det C.P (Builtin.unsafeString_ c.argTypes ty #[.pointer none, .int k 0]) = some (.string (ofB [])) := by
        intro ty
        have e2 : Builtin.unsafeString_ c.argTypes ty #[.pointer none, .int k 0] = (do
            let n ← asInt (.int k 0)
            let some pt := c.argTypes[0]? | stuck "unsafe.String: no argument types"
            if n < 0 then runtimePanic (.error "unsafe.String: len out of range")
            if n > IntKind.i64.max then unsupported (.unsafePointer "String: a length above the largest int")
            if n = 0 then pure (.string .empty) else runtimePanic (.error "unsafe.String: ptr is nil and len is not zero")) := rfl
        rw [e2, h0]
        rfl
      simp only [builtin, det_bind, e, Option.bind_some, det_pure]
  simp only [op, hop, hc, builtinOp, ha, hx, hy, h0, unsafeStringOp]
  exact hd
theorem op_unsafeString {c : Call} {x y : Operand} {cs : List A} {id : Nat} {l : List Int} {t e : TypeId} {k : IntKind} {i : TypeInfo} (hcs : Cells (rI .u8) cs l) (hne : 0 < cs.length) (hl : l.length ≤ 9223372036854775807) (hlv : σ.live id = some e) (hop : o.op = .call c) (hc : c.callee = .builtin .unsafeString) (ha : c.args.toList = [x, y]) (hx : ρ x = some (.sp cs 0 (.gr id))) (hy : ρ y = some (.v (.int k ((l.length : Nat) : Int)))) (h0 : c.argTypes[0]? = some t) (ht : C.P.underlying t = some (.pointer e)) (he : C.P.underlying e = some (.int .u8)) (hi : C.P.info? e = some i) (hz : i.size = 1) :
    op C ρ o σ = some (.val (.v (.string (ofB l))) σ) := by
  have hlen : cs.length = l.length := by have := hcs.length; rw [this]; show l.length * 1 = l.length; omega
  have hn : asNat (.v (.int k ((l.length : Nat) : Int))) = some l.length := by simp [asNat]
  have htk : cs.take l.length = cs := List.take_of_length_le (by omega)
  simp only [op, hop, hc, builtinOp, ha, hx, hy, h0, unsafeStringOp, hn, ht, he, hi, hlv]
  rw [if_pos ⟨hz, trivial, by omega, by omega, hl⟩, htk, toBytes_cells hcs]
  rfl
theorem Eo.append' [hM : NoMut C] {α : Type} {r : RepT α} {c : Call} {s x : Operand} {t t' e : TypeId} {a b : A} {p m q : List α} {i : TypeInfo} {dt : TypeDesc} (hp : Hp σ L) (j : Nat) (hj : L[j]? = some (.app a e)) (ha : Sl r a p) (hne : NotEx a) (hb : New σ r b m) (hq : appL i.bytes p m = some q)
    (hop : o.op = .call c) (hc : c.callee = .builtin .append) (hargs : c.args.toList = [s, x]) (hs : evL C F s = some a) (hx : evL C F x = some b) (h0 : c.argTypes[0]? = some t) (h1 : c.argTypes[1]? = some t') (ht' : C.P.underlying t' = some dt) (hnot : (match dt with | .int _ => true | _ => false) = false)
    (ht : C.P.underlying t = some (.slice e)) (hi : C.P.info? e = some i) (hz : i.size = r.sz) (hz1 : i.zero.isSome = true) (hz2 : (i.zero.map (·.cells.size)) = some i.size) (hb0 : Nat.ble 1 i.bytes = true)
    (hw : wantedL ops F o = some true) (hd : o.dst = some d) (hdn : Nat.ble (d + 1) n = true)
    (h : ∀ a' σ', Sl r a' q → NotEx a' → Hp σ' (L.set j (.app a' e)) → Eo C n ops l ((d, a') :: F) σ' Q) : Eo C n ops (o :: l) F σ Q := by
  obtain ⟨new, hnew, hcn⟩ := hb.ex
  unfold appL at hq
  split at hq
  case isFalse => cases hq
  rename_i hbnd
  cases hq
  have hop' : ∀ (res : Option (A × St)), appendOp C.P t a b σ = res → op C (evL C F) o σ = wrapS res := by
    intro res hr
    simp only [op, hop, hc, builtinOp, hargs, hs, hx, h0, h1, ht', hM.no, Bool.false_eq_true, if_false, hr]
    cases dt <;> first | rfl | simp at hnot
  have hn' : appended σ i.size b = some new := by rw [hz]; exact hnew
  have hpos : 0 < i.size := by rw [hz]; exact r.pos
  have hbytes : 0 < i.bytes := Nat.le_of_ble_eq_true hb0
  have hnl : new.length / i.size = m.length := by rw [hcn.length, hz, Nat.mul_div_cancel _ r.pos]
  have hgr : ∀ sz cs id, cs ≠ [] → NotEx (.sl sz cs (.gr id)) := fun sz cs id h sz' cs' ap' e => by cases e; exact ⟨by simp, h⟩
  by_cases hnn : new = []
  · have hm : m = [] := hcn.nil_iff.1 hnn
    subst hm
    have hsl : isSl a = true := by rcases ha with ⟨rfl, _⟩ | ⟨cs, ap, rfl, _⟩ <;> rfl
    have hr : appendOp C.P t a b σ = some (a, σ) := by
      simp only [appendOp, ht, hi, hn', if_pos hpos, if_pos hnn, hsl]; rfl
    refine Eo.val (hop' _ hr) hw hd hdn (h a σ (by rw [List.append_nil]; exact ha) hne ?_)
    have : L.set j (.app a e) = L := by
      apply List.ext_getElem?
      intro k
      rw [List.getElem?_set]
      split
      · rename_i hk; subst hk
        have hlt := (List.getElem?_eq_some_iff.1 hj).1
        rw [if_pos hlt, hj]
      · rfl
    rw [this]; exact hp
  · have h1n : allOne new = true := hcn.one
    rcases ha with ⟨rfl, rfl⟩ | ⟨cs, ap, rfl, hcs⟩
    · have hr := append_nil (σ := σ) (x := b) ht hi hn' hpos hnn h1n hz1 hz2 hbytes (by rw [hnl]; simpa using hbnd)
      refine Eo.val (hop' _ hr) hw hd hdn (h _ _ (.inr ⟨_, _, by rw [hz], by simpa using hcn⟩) (hgr _ _ _ hnn) (hp.tok hj _ _ _))
    · have hlen : (cs.length + new.length) / i.size = p.length + m.length := by
        rw [hcs.length, hcn.length, hz, ← Nat.add_mul, Nat.mul_div_cancel _ r.pos]
      have hbnd' : (2 * ((cs.length + new.length) / i.size) + 1024) * i.bytes ≤ 281474976710656 := by rw [hlen]; exact hbnd
      rcases hp.getApp hj with hh | ⟨sz, cs2, ap2, hh, hap⟩
      · simp [nilS] at hh
      · cases hh
        rcases hap with rfl | ⟨id, rfl, hl, _⟩
        · exact absurd rfl (hne _ _ _ rfl).1
        · have hr := append_own (σ := σ) (cs := cs) (x := b) ht hi hn' hpos hnn h1n hz1 hz2 hbytes hbnd' hl
          rw [hz] at hr
          exact Eo.val (hop' _ hr) hw hd hdn (h _ _ (.inr ⟨_, _, rfl, hcs.append hcn⟩) (hgr _ _ _ (by simp [hnn])) (hp.retok hj _ _))
end
end Go.DM
namespace Go.DM
open Go Go.RowKit
/-! strings.Join -/
def joinT (l : List ByteArray) (sep : ByteArray) : Option ByteArray :=
  if l.length ≤ 140737488355328 ∧ (Lib.join (l.map (·.data.toList)) sep.data.toList).length ≤ 140737488355328 then some ⟨(Lib.join (l.map (·.data.toList)) sep.data.toList).toArray⟩ else none
def strsOf : List A → Option (List ByteArray)
  | [] => some []
  | .v (.string b) :: r => (strsOf r).map fun l => b :: l
  | _ :: _ => none
def joinG : List A → St → Option (A × St)
  | [.v (.slice none 0 0), .v (.string sep)], σ => (joinT [] sep).map fun b => (.v (.string b), σ)
  | [.sl 1 cs _, .v (.string sep)], σ => match strsOf cs with
    | some l => (joinT l sep).map fun b => (.v (.string b), σ)
    | none => none
  | _, _ => none
theorem strsOf_cells : ∀ {cs : List A} {l : List ByteArray}, Cells rS cs l → strsOf cs = some l
  | _, _, .nil => rfl
  | _, _, .cons (c := c) hx hc => by
    have : c = [.v (.string _)] := hx
    subst this
    simp only [List.cons_append, List.nil_append, strsOf, strsOf_cells hc, Option.map_some]
theorem strsOf_inv : ∀ {cs : List A} {l : List ByteArray}, strsOf cs = some l → cs = strsA l
  | [], l, h => by cases h; rfl
  | .v (.string b) :: r, l, h => by
    simp only [strsOf] at h
    obtain ⟨m, hm, rfl⟩ := Option.map_eq_some_iff.1 h
    rw [strsOf_inv hm]; rfl
theorem joinT_ok {C : Cfg} {f : FuncId} {σ : St} {R : List Res} {a : A} {l : List ByteArray} {s : ByteArray} (hf : C.prim f = some joinG) (ha : Sl rS a l) (hp : Hp σ R) {r : ByteArray} (H : joinT l s = some r) : Ca C f [a, .v (.string s)] σ (fun x σ' => x = .v (.string r) ∧ Hp σ' R) := by
  rcases ha with ⟨rfl, rfl⟩ | ⟨cs, ap, rfl, hc⟩
  · exact Ca.prim hf (σ' := σ) (x := .v (.string r)) (by simp [joinG, nilS, H]) ⟨rfl, hp⟩
  · refine Ca.prim hf (σ' := σ) (x := .v (.string r)) ?_ ⟨rfl, hp⟩
    have h1 : rS.sz = 1 := rfl
    rw [h1]
    simp [joinG, strsOf_cells hc, H]
/-- a slice of strings in the world -/
theorem rel_strs {k : K} {l : List ByteArray} {ap : Ap} {v : Value} {w0 : World} {σ : St} (hI : Inv w0 σ k) (h : Rel k (.sl 1 (strsA l) ap) v) : (l = [] ∧ ∃ a cap, v = .slice (some a) 0 cap) ∨ ∃ c i cap, v = .slice (some ⟨c, i, none⟩) l.length cap ∧ c < k.w.heap.size ∧ l.length ≤ cap ∧ ∀ (j : Nat) x, l[j]? = some x → k.w.cell? ⟨c, i + j, none⟩ = some (.string x) := by
  have hlen : (strsA l).length = l.length := by simp [strsA]
  rcases l with _ | ⟨s, l⟩
  · obtain ⟨a, cap, rfl⟩ := h.slInv
    exact .inl ⟨rfl, a, cap, by simp [strsA]⟩
  refine .inr ?_
  have hne : strsA (s :: l) ≠ [] := by simp [strsA]
  generalize hL : s :: l = L at *
  generalize hC : strsA L = C at *
  cases h with
  | sl u hf h1 h2 h3 h4 h5 h6 h7 =>
    rename_i c i n cap
    subst hC
    rw [hlen, Nat.div_one] at *
    refine ⟨c, i, cap, rfl, hI.frz_lt hf, h6, fun j x hj => ?_⟩
    have hlt := (List.getElem?_eq_some_iff.1 hj).1
    have hj' : (strsA L)[j]? = some (.v (.string x)) := by simp [strsA, hj]
    rw [h2 j _ hj', rel_v_inv (h3 j _ hj')]
  | sl0 => exact absurd rfl hne
end Go.DM
namespace Go.DM
open Go

theorem bs_length (s : ByteArray) : (bs s).length = s.size := by
  show (s.data.toList.map _).length = s.data.size
  rw [List.length_map, Array.length_toList]
theorem bs_inj {s t : ByteArray} (h : bs s = bs t) : s = t := by
  obtain ⟨⟨a⟩⟩ := s
  obtain ⟨⟨b⟩⟩ := t
  have : a = b := by
    have h' : a.map (fun b : UInt8 => (b.toNat : Int)) = b.map (fun b : UInt8 => (b.toNat : Int)) := h
    exact List.map_inj_right (fun x y hxy => UInt8.toNat.inj (by omega)) |>.1 h'
  rw [this]
theorem bs_nil {s : ByteArray} : bs s = [] ↔ s = ByteArray.mk #[] := ⟨fun h => bs_inj (by rw [h]; rfl), fun h => by rw [h]; rfl⟩
theorem ofB_bs (s : ByteArray) : ofB (bs s) = s := by
  obtain ⟨⟨a⟩⟩ := s
  simp [ofB, bs, List.map_map, Function.comp_def]
theorem bs_byte {s : ByteArray} {c : Int} (h : c ∈ bs s) : 0 ≤ c ∧ c < 256 := by
  simp only [bs, List.mem_map] at h
  obtain ⟨b, _, rfl⟩ := h
  have := b.toNat_lt
  omega
theorem bs_ofB {l : List Int} (h : ∀ c ∈ l, 0 ≤ c ∧ c < 256) : bs (ofB l) = l := by
  simp only [bs, ofB, List.toList_toArray, List.map_map]
  rw [List.map_congr_left (g := id)]
  · simp
  · intro c hc
    have := h c hc
    simp only [Function.comp_apply, UInt8.toNat_ofNat', id_eq]
    omega
theorem bs_extract (s : ByteArray) (a b : Nat) : bs (s.extract a b) = ((bs s).drop a).take (b - a) := by
  simp [bs, List.map_drop, List.map_take]
theorem atS_bs (s : ByteArray) (i : Nat) : atS s (i : Int) = (bs s)[i]? := by
  unfold atS
  rw [if_pos (by omega)]
  simp only [Int.toNat_natCast, bs, List.getElem?_map]
  have : s[i]? = s.data.toList[i]? := by
    obtain ⟨⟨a⟩⟩ := s
    simp only [getElem?_def, ByteArray.getElem_eq_getElem_data]
    rfl
  rw [this]
theorem atL_nat {α : Type} (l : List α) (i : Nat) : atL l (i : Int) = l[i]? := by
  unfold atL; rw [if_pos (by omega)]; simp
theorem subS_nat (s : ByteArray) (a b : Nat) (h : a ≤ b) (hb : b ≤ s.size) : subS s (a : Int) (b : Int) = some (s.extract a b) := by
  unfold subS; rw [if_pos ⟨by omega, by omega, by omega⟩]; simp
theorem subL_nat {α : Type} (l : List α) (a b : Nat) (h : a ≤ b) (hb : b ≤ l.length) : subL l (a : Int) (b : Int) = some ((l.take b).drop a) := by
  unfold subL; rw [if_pos ⟨by omega, by omega, by omega⟩]; simp
theorem extract_ofB (s : ByteArray) (a b : Nat) : s.extract a b = ofB (((bs s).drop a).take (b - a)) := by
  rw [← bs_extract, ofB_bs]
theorem appL_ok {α : Type} {n : Nat} {l m : List α} (h : l.length + m.length ≤ 8388608) (hn : n ≤ 4096) : appL n l m = some (l ++ m) := by
  unfold appL
  have : (2 * (l.length + m.length) + 1024) * n ≤ (2 * 8388608 + 1024) * 4096 := Nat.mul_le_mul (by omega) hn
  rw [if_pos (by omega)]
theorem w64 {n : Int} (h0 : -9223372036854775808 ≤ n) (h1 : n < 9223372036854775808) : IntKind.wrap .i64 n = n := wrap_i64 h0 h1
theorem w64_succ {n : Nat} (h : n < 4611686018427387904) : IntKind.wrap .i64 ((n : Int) + 1) = ((n + 1 : Nat) : Int) := by rw [w64] <;> omega
/-- a byte that a list of bytes begins with -/
theorem drop_cons_at {l : List Int} {i : Nat} {c : Int} {r : List Int} (h : l.drop i = c :: r) : l[i]? = some c ∧ l.drop (i + 1) = r ∧ i < l.length := by
  have hlt : i < l.length := by
    rcases Nat.lt_or_ge i l.length with h' | h'
    · exact h'
    · rw [List.drop_eq_nil_of_le h'] at h; cases h
  rw [List.drop_eq_getElem_cons hlt] at h
  cases h
  exact ⟨by simp [hlt], rfl, hlt⟩
theorem drop_nil_le {l : List Int} {i : Nat} (h : l.drop i = []) : l.length ≤ i := by
  have := congrArg List.length h
  simp at this; omega
end Go.DM
