/- Plain laws of ResolveOrder, first part: the functions that only look at data give an answer; copies are the same. No condition. -/
import Derived.Test.YtiidocaofjmomaaSetT
import Derived.Test.YtiidocaofjmomaaDmF
import Derived.Test.YtiidocaofjmomaaOpenT
namespace Go.DM
open Go Go.Proofs
set_option maxRecDepth 100000
theorem tb {α β : Type} {x : Option α} {f : α → Option β} (h : ∃ a, x = some a) (g : ∀ a, x = some a → ∃ b, f a = some b) : ∃ b, x.bind f = some b := by
  obtain ⟨a, rfl⟩ := h
  exact g a rfl
theorem tc {α : Type} {b : Bool} {x y : Option α} (h : b = true → ∃ r, x = some r) (g : b = false → ∃ r, y = some r) : ∃ r, cond b x y = some r := by
  cases b
  · exact g rfl
  · exact h rfl
theorem atL_tot {α : Type} {l : List α} {i : Int} (h0 : 0 ≤ i) (h1 : i < (l.length : Nat)) : ∃ r, atL l i = some r := by
  unfold atL
  rw [if_pos h0]
  exact ⟨_, List.getElem?_eq_getElem (by omega)⟩
theorem named_tot (n : Nat) (s : ByteArray) : ∃ r, gelfobj_named n s = some r := ⟨_, rfl⟩
theorem sec_tot (n : Nat) (s : TSec) : ∃ r, gelfobj_soundSec n s = some r := by
  unfold gelfobj_soundSec
  exact tb (tc (fun _ => ⟨_, rfl⟩) (fun _ => ⟨_, rfl⟩)) fun _ _ => tb (named_tot n _) fun _ _ => tb (tc (fun _ => tb ⟨_, rfl⟩ fun _ _ => ⟨_, rfl⟩) (fun _ => ⟨_, rfl⟩)) fun _ _ => ⟨_, rfl⟩
theorem sec1_tot (n : Nat) (s : TSec) : ∃ r, gelfobj_Sound_1 n s = some r := by
  unfold gelfobj_Sound_1
  exact tb (sec_tot n s) fun _ _ => ⟨_, rfl⟩
theorem link1_tot (n : Nat) (s : TSym) : ∃ r, gresolve_linkable_1 n s = some r := by
  unfold gresolve_linkable_1
  exact tb (tc (fun _ => tb ⟨_, rfl⟩ fun _ _ => ⟨_, rfl⟩) (fun _ => ⟨_, rfl⟩)) fun _ _ => ⟨_, rfl⟩
theorem idxSec_tot (N : Nat) (l : List TSec) (hl : l.length ≤ 2000000) : ∀ (k y m : Nat), l.length - y ≤ k → k < m → y ≤ l.length → ∃ r, gslices_IndexFunc_30_23_L1 N l m (y : Int) = some r := by
  intro k
  induction k with
  | zero =>
    intro y m hk hm hy
    obtain ⟨m, rfl⟩ : ∃ m', m = m' + 1 := ⟨m - 1, by omega⟩
    rw [gslices_IndexFunc_30_23_L1]
    exact tc (fun h => absurd (of_decide_eq_true h) (by omega)) fun _ => ⟨_, rfl⟩
  | succ k ih =>
    intro y m hk hm hy
    obtain ⟨m, rfl⟩ : ∃ m', m = m' + 1 := ⟨m - 1, by omega⟩
    rw [gslices_IndexFunc_30_23_L1]
    refine tc (fun h => ?_) fun _ => ⟨_, rfl⟩
    have hlt := of_decide_eq_true h
    refine tb (atL_tot (by omega) hlt) fun _ _ => tb (sec1_tot N _) fun _ _ => tc (fun _ => ⟨_, rfl⟩) fun _ => ?_
    rw [w64_succ (by omega)]
    exact ih (y + 1) m (by omega) (by omega) (by omega)
theorem idxSym_tot (N : Nat) (l : List TSym) (hl : l.length ≤ 2000000) : ∀ (k y m : Nat), l.length - y ≤ k → k < m → y ≤ l.length → ∃ r, gslices_IndexFunc_26_15_L1 N l m (y : Int) = some r := by
  intro k
  induction k with
  | zero =>
    intro y m hk hm hy
    obtain ⟨m, rfl⟩ : ∃ m', m = m' + 1 := ⟨m - 1, by omega⟩
    rw [gslices_IndexFunc_26_15_L1]
    exact tc (fun h => absurd (of_decide_eq_true h) (by omega)) fun _ => ⟨_, rfl⟩
  | succ k ih =>
    intro y m hk hm hy
    obtain ⟨m, rfl⟩ : ∃ m', m = m' + 1 := ⟨m - 1, by omega⟩
    rw [gslices_IndexFunc_26_15_L1]
    refine tc (fun h => ?_) fun _ => ⟨_, rfl⟩
    have hlt := of_decide_eq_true h
    refine tb (atL_tot (by omega) hlt) fun _ _ => tb (link1_tot N _) fun _ _ => tc (fun _ => ⟨_, rfl⟩) fun _ => ?_
    rw [w64_succ (by omega)]
    exact ih (y + 1) m (by omega) (by omega) (by omega)
theorem sound1_tot (N : Nat) (o : TObj) (hl : o.f_Syms.length ≤ 2000000) : ∀ (k y m : Nat), o.f_Syms.length - y ≤ k → k < m → y ≤ o.f_Syms.length → ∃ r, gelfobj_Sound_L1 N o m (y : Int) = some r := by
  intro k
  induction k with
  | zero =>
    intro y m hk hm hy
    obtain ⟨m, rfl⟩ : ∃ m', m = m' + 1 := ⟨m - 1, by omega⟩
    rw [gelfobj_Sound_L1]
    exact tc (fun h => absurd (of_decide_eq_true h) (by omega)) fun _ => ⟨_, rfl⟩
  | succ k ih =>
    intro y m hk hm hy
    obtain ⟨m, rfl⟩ : ∃ m', m = m' + 1 := ⟨m - 1, by omega⟩
    rw [gelfobj_Sound_L1]
    refine tc (fun h => ?_) fun _ => ⟨_, rfl⟩
    have hlt := of_decide_eq_true h
    refine tb (atL_tot (by omega) hlt) fun _ _ => tb (named_tot N _) fun _ _ => tc (fun _ => ⟨_, rfl⟩) fun _ => tb (tc (fun h => ?_) fun _ => ⟨_, rfl⟩) fun _ _ => tc (fun _ => ⟨_, rfl⟩) fun _ => ?_
    · have hy : (y : Int) > 0 := by
        rw [Bool.and_eq_true] at h
        exact of_decide_eq_true h.1
      rw [w64 (by omega) (by omega)]
      exact tb (atL_tot (by omega) (by omega)) fun _ _ => ⟨_, rfl⟩
    · rw [w64_succ (by omega)]
      exact ih (y + 1) m (by omega) (by omega) (by omega)
theorem sound2_tot (N : Nat) (o : TObj) (hl : o.f_Rels.length ≤ 2000000) : ∀ (k y m : Nat), o.f_Rels.length - y ≤ k → k < m → y ≤ o.f_Rels.length → ∃ r, gelfobj_Sound_L2 N o m (y : Int) = some r := by
  intro k
  induction k with
  | zero =>
    intro y m hk hm hy
    obtain ⟨m, rfl⟩ : ∃ m', m = m' + 1 := ⟨m - 1, by omega⟩
    rw [gelfobj_Sound_L2]
    exact tc (fun h => absurd (of_decide_eq_true h) (by omega)) fun _ => ⟨_, rfl⟩
  | succ k ih =>
    intro y m hk hm hy
    obtain ⟨m, rfl⟩ : ∃ m', m = m' + 1 := ⟨m - 1, by omega⟩
    rw [gelfobj_Sound_L2]
    refine tc (fun h => ?_) fun _ => ⟨_, rfl⟩
    have hlt := of_decide_eq_true h
    refine tb (atL_tot (by omega) hlt) fun x _ => tb (tc (fun _ => ⟨_, rfl⟩) fun h1 => tc (fun _ => ⟨_, rfl⟩) fun h2 => tc (fun _ => ⟨_, rfl⟩) fun _ => tb (atL_tot ?_ ?_) fun _ _ => tc (fun _ => ⟨_, rfl⟩) fun _ => tc (fun _ => ⟨_, rfl⟩) fun _ => tc (fun _ => ⟨_, rfl⟩) fun _ => tc (fun _ => ⟨_, rfl⟩) fun _ => ⟨_, rfl⟩) fun _ _ => tc (fun _ => ⟨_, rfl⟩) fun _ => tb (tc (fun h => ?_) fun _ => ⟨_, rfl⟩) fun _ _ => tc (fun _ => ⟨_, rfl⟩) fun _ => ?_
    · have := of_decide_eq_false h1; omega
    · have := of_decide_eq_false h2; omega
    · have hy : (y : Int) > 0 := of_decide_eq_true h
      rw [w64 (by omega) (by omega)]
      exact tb (atL_tot (by omega) (by omega)) fun _ _ => ⟨_, rfl⟩
    · rw [w64_succ (by omega)]
      exact ih (y + 1) m (by omega) (by omega) (by omega)
/-- an object of moderate size -/
structure Mod (o : TObj) : Prop where
  sec : o.f_Secs.length ≤ 2000000
  sym : o.f_Syms.length ≤ 2000000
  rel : o.f_Rels.length ≤ 2000000
  dat : ∀ s ∈ o.f_Secs, s.f_Data.length ≤ 2000000
theorem sound_tot (n : Nat) (hn : 2000000 < n) (o : TObj) (ho : Mod o) : ∃ r, gelfobj_Sound n o = some r := by
  unfold gelfobj_Sound
  refine tb (tc (fun _ => ⟨_, rfl⟩) fun _ => tb ?_ fun _ _ => ⟨_, rfl⟩) fun _ _ => tc (fun _ => ⟨_, rfl⟩) fun _ => tb (sound1_tot n o ho.sym _ 0 n (Nat.le_refl _) (by have := ho.sym; omega) (Nat.zero_le _)) fun v _ => ?_
  · unfold gslices_ContainsFunc_22_23 gslices_IndexFunc_30_23
    exact tb (tb (idxSec_tot n _ ho.sec _ 0 n (Nat.le_refl _) (by have := ho.sec; omega) (Nat.zero_le _)) fun v _ => by cases v <;> exact ⟨_, rfl⟩) fun _ _ => ⟨_, rfl⟩
  · cases v with
    | ret r => exact ⟨_, rfl⟩
    | out u =>
      refine tb (sound2_tot n o ho.rel _ 0 n (Nat.le_refl _) (by have := ho.rel; omega) (Nat.zero_le _)) fun v _ => ?_
      cases v <;> exact ⟨_, rfl⟩
theorem link_tot (n : Nat) (hn : 2000000 < n) (o : TObj) (ho : Mod o) : ∃ r, gresolve_linkable n o = some r := by
  unfold gresolve_linkable
  refine tb (sound_tot n hn o ho) fun _ _ => tb (tc (fun _ => tb ?_ fun _ _ => ⟨_, rfl⟩) fun _ => ⟨_, rfl⟩) fun _ _ => ⟨_, rfl⟩
  unfold gslices_ContainsFunc_18_15 gslices_IndexFunc_26_15
  exact tb (tb (idxSym_tot n _ ho.sym _ 0 n (Nat.le_refl _) (by have := ho.sym; omega) (Nat.zero_le _)) fun v _ => by cases v <;> exact ⟨_, rfl⟩) fun _ _ => ⟨_, rfl⟩
end Go.DM
namespace Go.DM
open Go Go.Proofs
set_option maxRecDepth 100000
theorem copy1 (N : Nat) (o : TObj) (ho : Mod o) : ∀ (k y m : Nat), o.f_Secs.length - y ≤ k → k < m → y ≤ o.f_Secs.length → gdovetailref17_Copy_L1 N o m (y : Int) (o.f_Secs.take y) = some o.f_Secs := by
  have hl := ho.sec
  intro k
  induction k with
  | zero =>
    intro y m hk hm hy
    obtain ⟨m, rfl⟩ : ∃ m', m = m' + 1 := ⟨m - 1, by omega⟩
    rw [gdovetailref17_Copy_L1, decide_eq_false (by omega), List.take_of_length_le (by omega)]; rfl
  | succ k ih =>
    intro y m hk hm hy
    obtain ⟨m, rfl⟩ : ∃ m', m = m' + 1 := ⟨m - 1, by omega⟩
    rw [gdovetailref17_Copy_L1]
    by_cases hlt : y < o.f_Secs.length
    · have hd := ho.dat _ (List.getElem_mem hlt)
      rw [decide_eq_true (by omega), atL_nat, List.getElem?_eq_getElem hlt]
      simp only [cond_true, Option.bind_some]
      rw [appL_ok (by simp; omega) (by omega)]
      simp only [Option.bind_some, List.nil_append]
      rw [appL_ok (by simp; omega) (by omega)]
      simp only [Option.bind_some]
      rw [w64_succ (by omega)]
      have := ih (y + 1) m (by omega) (by omega) (by omega)
      rw [List.take_add_one, List.getElem?_eq_getElem hlt] at this
      exact this
    · rw [decide_eq_false (by omega), List.take_of_length_le (by omega)]; rfl
theorem copy_eq (n : Nat) (hn : 2000000 < n) (o : TObj) (ho : Mod o) : gdovetailref17_Copy n o = some o := by
  have h1 := ho.sym
  have h2 := ho.rel
  have h3 := ho.sec
  unfold gdovetailref17_Copy
  rw [appL_ok (by simp; omega) (by omega)]
  simp only [Option.bind_some]
  rw [appL_ok (by simp; omega) (by omega)]
  simp only [Option.bind_some, List.nil_append]
  have := copy1 n o ho o.f_Secs.length 0 n (by omega) (by omega) (by omega)
  rw [List.take_zero] at this
  rw [show (((0 : Nat) : Nat) : Int) = 0 from rfl] at this
  rw [this]
  rfl
theorem copies1 (N : Nat) (hN : 2000000 < N) (l : List TObj) (hl : l.length ≤ 2000000) (hm : ∀ o ∈ l, Mod o) : ∀ (k y m : Nat), l.length - y ≤ k → k < m → y ≤ l.length → gdovetailref20_Copy_L1 N l m (l.take y) (y : Int) = some l := by
  intro k
  induction k with
  | zero =>
    intro y m hk hm hy
    obtain ⟨m, rfl⟩ : ∃ m', m = m' + 1 := ⟨m - 1, by omega⟩
    rw [gdovetailref20_Copy_L1, decide_eq_false (by omega), List.take_of_length_le (by omega)]; rfl
  | succ k ih =>
    intro y m hk hm' hy
    obtain ⟨m, rfl⟩ : ∃ m', m = m' + 1 := ⟨m - 1, by omega⟩
    rw [gdovetailref20_Copy_L1]
    by_cases hlt : y < l.length
    · rw [decide_eq_true (by omega), atL_nat, List.getElem?_eq_getElem hlt]
      simp only [cond_true, Option.bind_some]
      rw [copy_eq N hN _ (hm _ (List.getElem_mem hlt))]
      simp only [Option.bind_some]
      rw [appL_ok (by simp; omega) (by omega)]
      simp only [Option.bind_some]
      rw [w64_succ (by omega)]
      have := ih (y + 1) m (by omega) (by omega) (by omega)
      rw [List.take_add_one, List.getElem?_eq_getElem hlt] at this
      exact this
    · rw [decide_eq_false (by omega), List.take_of_length_le (by omega)]; rfl
theorem copies_eq (n : Nat) (hn : 2000000 < n) (l : List TObj) (hl : l.length ≤ 2000000) (hm : ∀ o ∈ l, Mod o) : gdovetailref20_Copy n l = some l := by
  unfold gdovetailref20_Copy
  have := copies1 n hn l hl hm l.length 0 n (by omega) (by omega) (by omega)
  rw [List.take_zero] at this
  rw [show (((0 : Nat) : Nat) : Int) = 0 from rfl] at this
  rw [this]
  rfl
/-- how many symbols -/
def cntS : List TObj → Nat
  | [] => 0
  | o :: r => o.f_Syms.length + cntS r
theorem cntS_take : ∀ (l : List TObj) (y : Nat) (h : y < l.length), cntS (l.take (y + 1)) = cntS (l.take y) + l[y].f_Syms.length
  | o :: r, 0, _ => by simp [cntS]
  | o :: r, y + 1, h => by
    have := cntS_take r y (by simpa using h)
    simp only [List.take_succ_cons, cntS, List.getElem_cons_succ, this]; omega
theorem cntS_le : ∀ (l : List TObj) (y : Nat), cntS (l.take y) ≤ cntS l
  | [], y => by simp
  | o :: r, 0 => by simp [cntS]
  | o :: r, y + 1 => by simp only [List.take_succ_cons, cntS]; have := cntS_le r y; omega
theorem small1 (N : Nat) (l : List TObj) (hl : l.length ≤ 2000000) (hc : cntS l ≤ 2000000) : ∀ (k y m : Nat), l.length - y ≤ k → k < m → y ≤ l.length → gdovetaillaw20_small_L1 N l m ((cntS (l.take y) : Nat) : Int) (y : Int) = some ((cntS l : Nat) : Int) := by
  intro k
  induction k with
  | zero =>
    intro y m hk hm hy
    obtain ⟨m, rfl⟩ : ∃ m', m = m' + 1 := ⟨m - 1, by omega⟩
    rw [gdovetaillaw20_small_L1, decide_eq_false (by omega), List.take_of_length_le (by omega)]; rfl
  | succ k ih =>
    intro y m hk hm' hy
    obtain ⟨m, rfl⟩ : ∃ m', m = m' + 1 := ⟨m - 1, by omega⟩
    rw [gdovetaillaw20_small_L1]
    by_cases hlt : y < l.length
    · rw [decide_eq_true (by omega), atL_nat, List.getElem?_eq_getElem hlt]
      simp only [cond_true, Option.bind_some]
      have h1 := cntS_take l y hlt
      have h2 := cntS_le l (y + 1)
      rw [w64 (by omega) (by omega), w64_succ (by omega)]
      have := ih (y + 1) m (by omega) (by omega) (by omega)
      rw [h1] at this
      rw [← this]
      congr 1
    · rw [decide_eq_false (by omega), List.take_of_length_le (by omega)]; rfl
theorem small_eq (n : Nat) (hn : 2000000 < n) (l : List TObj) (hl : l.length ≤ 2000000) (hc : cntS l ≤ 2000000) : gdovetaillaw20_small n l = some (decide (cntS l ≤ 500)) := by
  unfold gdovetaillaw20_small
  have := small1 n l hl hc l.length 0 n (by omega) (by omega) (by omega)
  rw [List.take_zero] at this
  rw [show (((0 : Nat) : Nat) : Int) = 0 from rfl, show ((cntS [] : Nat) : Int) = 0 from rfl] at this
  rw [this]
  simp only [Option.bind_some]
  congr 1
  exact decide_eq_decide.2 (by omega)
end Go.DM
namespace Go.DM
open Go Go.Proofs Go.RowKit
set_option maxRecDepth 100000
theorem push_getM (σ : St) (x : Blk) : (σ.push x).blks.get σ.next = some x := by simp [St.push, Tr.get_set]
theorem push_neM {σ : St} {x : Blk} {b : Nat} (h : b < σ.next) : (σ.push x).blks.get b = σ.blks.get b := by
  simp only [St.push, Tr.get_set]; rw [if_neg (by omega)]
theorem put_getM (σ : St) (b : Nat) (x : Blk) : (σ.put b x).blks.get b = some x := by simp [St.put, Tr.get_set]
theorem put_neM {σ : St} {x : Blk} {b c : Nat} (h : b ≠ c) : (σ.put c x).blks.get b = σ.blks.get b := by
  simp only [St.put, Tr.get_set]; rw [if_neg h]
theorem op_storeM {C : Cfg} {ρ : Operand → Option A} {o : Oper} {σ : St} {t : TypeId} {a y : Operand} {x : A} {cs cs' : List A} {b i n : Nat} {e : TypeId} (hop : o.op = .store t a y) (ha : ρ a = some (.ptr b i)) (hy : ρ y = some x) (hb : σ.blks.get b = some (.cells cs e)) (hz : sizeOfT C.P t = some n) (hl : x.cells.length = n) (h1 : allOne x.cells = true) (hi : i + n ≤ cs.length) (hs : splice cs i x.cells = cs') :
    op C ρ o σ = some (.skip (σ.put b (.cells cs' e))) := by
  have hc : σ.cells b = some (cs, e) := by unfold St.cells; rw [hb]
  subst hs
  simp only [op, hop, ha, hy, storeOp, hc, hz]
  rw [if_pos ⟨hl, h1, hi⟩]; rfl
theorem op_loadM {C : Cfg} {ρ : Operand → Option A} {o : Oper} {σ : St} {t : TypeId} {a : Operand} {cs : List A} {b i : Nat} {e : TypeId} {x : A} (hop : o.op = .load t a) (ha : ρ a = some (.ptr b i)) (hb : σ.blks.get b = some (.cells cs e)) (hl : loadAt C.P t cs i = some x) : op C ρ o σ = some (.val x σ) := by
  have hc : σ.cells b = some (cs, e) := by unfold St.cells; rw [hb]
  simp only [op, hop, ha, loadOp, hc, hl]; rfl
theorem val_bl {r : Option R} {σ : St} {m n : Bool} (h : r = some (.val (.v (.bool m)) σ)) (e : m = n) : r = some (.val (.v (.bool n)) σ) := e ▸ h
/-- a name's group: its block; the strong, the weak, the common definition with their blocks; is it needed -/
structure Gr where
  b : Nat
  s : Option (Nat × TDef)
  w : Option (Nat × TDef)
  c : Option (Nat × TDef)
  nd : Bool
def ptrO : Option (Nat × TDef) → A
  | none => .v (.pointer none)
  | some d => .ptr d.1 0
def grC (g : Gr) : List A := [ptrO g.s, ptrO g.w, ptrO g.c, vB false, vB g.nd]
def addG (g : Gr) (d : Nat) (k : Int) (s : TSym) : Gr :=
  if isDef s = true then (if s.f_Bind = 1 then { g with s := some (d, defV k s) } else { g with w := some (d, defV k s) })
  else if s.f_Sec = -3 then { g with c := some (d, defV k s) } else { g with nd := g.nd || (s.f_Bind == 1) }
theorem add_ca {σ : St} {g : Gr} {eg : TypeId} (s : TSym) (k : Int) (hb : σ.blks.get g.b = some (.cells (grC g) eg)) (hlt : g.b < σ.next) (hs : isDef s = true → s.f_Bind = 1 → g.s = none) (hw : isDef s = true → s.f_Bind ≠ 1 → g.w = none) (hc : isDef s = false → s.f_Sec = -3 → g.c = none) :
    Ca cfgW 11 [.ptr g.b 0, vI k, .agg (symC s)] σ (fun x σ' => x = .tup [] ∧ σ'.blks.get g.b = some (.cells (grC (addG g (σ.next + 1) k s)) eg) ∧ σ'.blks.get (σ.next + 1) = some (.cells (defC (defV k s)) 42) ∧ (∀ b, b < σ.next → b ≠ g.b → σ'.blks.get b = σ.blks.get b) ∧ σ'.next = σ.next + 2 ∧ σ'.toks = σ.toks ∧ σ'.nextT = σ.nextT) := by
  refine Ca.enter Try.func11 rfl rfl (Nat.le_of_ble_eq_true rfl) ?_
  refine Ex.seq (Ex.region ?_)
  refine ExO.val (x := .ptr σ.next 0) rfl rfl rfl (ExO.nil ?_)
  refine Ex.seq (Ex.region ?_)
  refine ExO.val rfl rfl rfl ?_
  refine ExO.val (x := .agg (symC s)) rfl (op_loadM rfl rfl (push_getM σ _) rfl) rfl ?_
  refine ExO.call rfl rfl (cl_def k s _) rfl ?_
  refine ExO.val (x := .ptr (σ.next + 1) 0) rfl rfl rfl ?_
  refine ExO.skip rfl (op_storeM (cs' := defC (defV k s)) rfl rfl rfl (push_getM _ _) rfl rfl rfl (Nat.le_refl _) rfl) rfl (ExO.nil ?_)
  refine Ex.block ?_
  generalize h3 : St.put (St.push (St.push σ _) _) _ _ = σ3
  have n3 : σ3.next = σ.next + 2 := by rw [← h3]; rfl
  have k3 : σ3.toks = σ.toks := by rw [← h3]; rfl
  have m3 : σ3.nextT = σ.nextT := by rw [← h3]; rfl
  have o3 : ∀ b, b < σ.next → σ3.blks.get b = σ.blks.get b := fun b hb => by
    rw [← h3, put_neM (by show b ≠ σ.next + 1; omega), push_neM (by show b < σ.next + 1; omega), push_neM hb]
  have s3 : ∃ e5, σ3.blks.get σ.next = some (.cells (symC s) e5) := ⟨_, by
    rw [← h3, put_neM (by show σ.next ≠ σ.next + 1; omega), push_neM (by show σ.next < σ.next + 1; omega), push_getM]; rfl⟩
  have d3 : σ3.blks.get (σ.next + 1) = some (.cells (defC (defV k s)) 42) := by rw [← h3]; exact put_getM _ _ _
  clear h3
  obtain ⟨e5, s3⟩ := s3
  have g3 := (o3 g.b hlt).trans hb
  refine Ex.seq (Ex.region ?_)
  refine ExO.val (x := .agg (symC s)) rfl (op_loadM rfl rfl s3 rfl) rfl ?_
  refine ExO.call rfl rfl (cl_isDef s σ3) rfl ?_
  refine ExO.val (x := vB (isDef s)) rfl rfl rfl ?_
  have fin : ∀ (σ4 : St) (g' : Gr), g' = addG g (σ.next + 1) k s → σ4.blks.get g.b = some (.cells (grC g') eg) → (∀ b, b ≠ g.b → σ4.blks.get b = σ3.blks.get b) → σ4.next = σ3.next → σ4.toks = σ3.toks → σ4.nextT = σ3.nextT → σ4.blks.get g.b = some (.cells (grC (addG g (σ.next + 1) k s)) eg) ∧ σ4.blks.get (σ.next + 1) = some (.cells (defC (defV k s)) 42) ∧ (∀ b, b < σ.next → b ≠ g.b → σ4.blks.get b = σ.blks.get b) ∧ σ4.next = σ.next + 2 ∧ σ4.toks = σ.toks ∧ σ4.nextT = σ.nextT := by
    rintro σ4 g' rfl h1 h2 h3 h4 h5
    exact ⟨h1, (h2 _ (by omega)).trans d3, fun b q1 q2 => (h2 b q2).trans (o3 b q1), h3.trans n3, h4.trans k3, h5.trans m3⟩
  cases hd : isDef s with
  | true =>
    rw [hd] at hs hw
    refine ExO.val (x := .ptr σ.next 1) rfl rfl rfl ?_
    refine ExO.val (x := vI s.f_Bind) rfl (op_loadM rfl rfl s3 rfl) rfl ?_
    by_cases hbd : s.f_Bind = 1
    · have hgs := hs rfl hbd
      have g3' : σ3.blks.get g.b = some (.cells [.v (.pointer none), ptrO g.w, ptrO g.c, vB false, vB g.nd] eg) := by rw [g3, grC, hgs]; rfl
      refine ExO.val (x := vB true) rfl (val_bl rfl (by simp [hbd])) rfl (ExO.val (x := vB true) rfl rfl rfl (ExO.val (x := vB true) rfl rfl rfl (ExO.nil ?_)))
      refine Ex.cond (t := true) rfl (Ex.seq (Ex.region ?_))
      refine ExO.val (x := .ptr g.b 0) rfl rfl rfl (ExO.val (x := .ptr g.b 0) rfl rfl rfl (ExO.val (x := .ptr g.b 0) rfl rfl rfl (ExO.val (x := .ptr g.b 0) rfl rfl rfl ?_)))
      refine ExO.val (x := .v (.pointer none)) rfl (op_loadM rfl rfl g3' rfl) rfl ?_
      refine ExO.val (x := vB false) rfl rfl rfl (ExO.val (x := .ptr g.b 0) rfl rfl rfl (ExO.val (x := .ptr g.b 3) rfl rfl rfl ?_))
      refine ExO.skip rfl (op_storeM (cs' := [.v (.pointer none), ptrO g.w, ptrO g.c, vB false, vB g.nd]) rfl rfl rfl g3' rfl rfl rfl (Nat.le_of_ble_eq_true rfl) rfl) rfl (ExO.nil ?_)
      refine Ex.region ?_
      refine ExO.val (x := .ptr g.b 0) rfl rfl rfl (ExO.val (x := .ptr g.b 0) rfl rfl rfl (ExO.val (x := .ptr g.b 0) rfl rfl rfl ?_))
      refine ExO.skip rfl (op_storeM (cs' := grC { g with s := some (σ.next + 1, defV k s) }) rfl rfl rfl (put_getM _ _ _) rfl rfl rfl (Nat.le_of_ble_eq_true rfl) rfl) rfl (ExO.nil ?_)
      exact ⟨.inl rfl, rfl, [], rfl, rfl, fin _ { g with s := some (σ.next + 1, defV k s) } (by unfold addG; rw [hd, if_pos rfl, if_pos hbd]) (put_getM _ _ _) (fun b h => (put_neM h).trans (put_neM h)) rfl rfl rfl⟩
    · have hgs := hw rfl hbd
      have g3' : σ3.blks.get g.b = some (.cells [ptrO g.s, .v (.pointer none), ptrO g.c, vB false, vB g.nd] eg) := by rw [g3, grC, hgs]; rfl
      refine ExO.val (x := vB false) rfl (val_bl rfl (by simp [hbd])) rfl (ExO.val (x := vB false) rfl rfl rfl (ExO.val (x := vB false) rfl rfl rfl (ExO.nil ?_)))
      refine Ex.cond (t := false) rfl (Ex.seq (Ex.region ?_))
      refine ExO.val (x := .agg (symC s)) rfl (op_loadM rfl rfl s3 rfl) rfl ?_
      refine ExO.call rfl rfl (cl_isDef s σ3) rfl ?_
      rw [hd]
      refine ExO.val (x := vB true) rfl rfl rfl (ExO.nil ?_)
      refine Ex.cond (t := true) rfl (Ex.seq (Ex.region ?_))
      refine ExO.val (x := .ptr g.b 0) rfl rfl rfl (ExO.val (x := .ptr g.b 0) rfl rfl rfl (ExO.val (x := .ptr g.b 1) rfl rfl rfl ?_))
      refine ExO.val (x := .v (.pointer none)) rfl (op_loadM rfl rfl g3' rfl) rfl ?_
      refine ExO.val (x := vB true) rfl rfl rfl (ExO.nil ?_)
      refine Ex.cond (t := true) rfl (Ex.region ?_)
      refine ExO.val (x := .ptr g.b 0) rfl rfl rfl (ExO.val (x := .ptr g.b 0) rfl rfl rfl (ExO.val (x := .ptr g.b 1) rfl rfl rfl ?_))
      refine ExO.skip rfl (op_storeM (cs' := grC { g with w := some (σ.next + 1, defV k s) }) rfl rfl rfl g3' rfl rfl rfl (Nat.le_of_ble_eq_true rfl) rfl) rfl (ExO.nil ?_)
      exact ⟨.inl rfl, rfl, [], rfl, rfl, fin _ { g with w := some (σ.next + 1, defV k s) } (by unfold addG; rw [hd, if_pos rfl, if_neg hbd]) (put_getM _ _ _) (fun b h => put_neM h) rfl rfl rfl⟩
  | false =>
    rw [hd] at hc
    refine ExO.off rfl rfl (ExO.off rfl rfl (ExO.off rfl rfl ?_))
    refine ExO.val (x := vB false) rfl rfl rfl (ExO.val (x := vB false) rfl rfl rfl (ExO.nil ?_))
    refine Ex.cond (t := false) rfl (Ex.seq (Ex.region ?_))
    refine ExO.val (x := .agg (symC s)) rfl (op_loadM rfl rfl s3 rfl) rfl ?_
    refine ExO.call rfl rfl (cl_isDef s σ3) rfl ?_
    rw [hd]
    refine ExO.val (x := vB false) rfl rfl rfl (ExO.nil ?_)
    refine Ex.cond (t := false) rfl (Ex.seq (Ex.region ?_))
    refine ExO.val (x := .ptr σ.next 3) rfl rfl rfl ?_
    refine ExO.val (x := vI s.f_Sec) rfl (op_loadM rfl rfl s3 rfl) rfl ?_
    by_cases hsc : s.f_Sec = -3
    · have hgs := hc rfl hsc
      have g3' : σ3.blks.get g.b = some (.cells [ptrO g.s, ptrO g.w, .v (.pointer none), vB false, vB g.nd] eg) := by rw [g3, grC, hgs]; rfl
      refine ExO.val (x := vB true) rfl (val_bl rfl (by simp [hsc])) rfl (ExO.val (x := vB true) rfl rfl rfl ?_)
      refine ExO.val (x := .ptr g.b 0) rfl rfl rfl (ExO.val (x := .ptr g.b 0) rfl rfl rfl (ExO.val (x := .ptr g.b 2) rfl rfl rfl ?_))
      refine ExO.val (x := .v (.pointer none)) rfl (op_loadM rfl rfl g3' rfl) rfl ?_
      refine ExO.val (x := vB true) rfl rfl rfl (ExO.val (x := vB true) rfl rfl rfl (ExO.val (x := vB true) rfl rfl rfl (ExO.nil ?_)))
      refine Ex.cond (t := true) rfl (Ex.region ?_)
      refine ExO.val (x := .ptr g.b 0) rfl rfl rfl (ExO.val (x := .ptr g.b 0) rfl rfl rfl (ExO.val (x := .ptr g.b 2) rfl rfl rfl ?_))
      refine ExO.skip rfl (op_storeM (cs' := grC { g with c := some (σ.next + 1, defV k s) }) rfl rfl rfl g3' rfl rfl rfl (Nat.le_of_ble_eq_true rfl) rfl) rfl (ExO.nil ?_)
      exact ⟨.inl rfl, rfl, [], rfl, rfl, fin _ { g with c := some (σ.next + 1, defV k s) } (by unfold addG; rw [hd, if_neg (by simp), if_pos hsc]) (put_getM _ _ _) (fun b h => put_neM h) rfl rfl rfl⟩
    · refine ExO.val (x := vB false) rfl (val_bl rfl (by simp [hsc])) rfl (ExO.val (x := vB false) rfl rfl rfl ?_)
      refine ExO.off rfl rfl (ExO.off rfl rfl (ExO.off rfl rfl (ExO.off rfl rfl (ExO.off rfl rfl ?_))))
      refine ExO.val (x := vB false) rfl rfl rfl (ExO.val (x := vB false) rfl rfl rfl (ExO.nil ?_))
      refine Ex.cond (t := false) rfl (Ex.seq (Ex.region ?_))
      refine ExO.val (x := .ptr σ.next 3) rfl rfl rfl ?_
      refine ExO.val (x := vI s.f_Sec) rfl (op_loadM rfl rfl s3 rfl) rfl ?_
      refine ExO.val (x := vB false) rfl (val_bl rfl (by simp [hsc])) rfl (ExO.val (x := vB false) rfl rfl rfl (ExO.nil ?_))
      refine Ex.cond (t := false) rfl (Ex.region ?_)
      refine ExO.val (x := .ptr g.b 0) rfl rfl rfl (ExO.val (x := .ptr g.b 0) rfl rfl rfl (ExO.val (x := .ptr g.b 0) rfl rfl rfl (ExO.val (x := .ptr g.b 4) rfl rfl rfl ?_)))
      refine ExO.val (x := vB g.nd) rfl (op_loadM rfl rfl g3 rfl) rfl ?_
      refine ExO.val (x := vB g.nd) rfl rfl rfl ?_
      cases hn : g.nd with
      | true =>
        refine ExO.off rfl rfl (ExO.off rfl rfl (ExO.off rfl rfl ?_))
        refine ExO.val (x := vB true) rfl rfl rfl (ExO.val (x := .ptr g.b 0) rfl rfl rfl (ExO.val (x := .ptr g.b 4) rfl rfl rfl ?_))
        refine ExO.skip rfl (op_storeM (cs' := grC { g with nd := true }) rfl rfl rfl g3 rfl rfl rfl (Nat.le_of_ble_eq_true rfl) rfl) rfl (ExO.nil ?_)
        exact ⟨.inl rfl, rfl, [], rfl, rfl, fin _ { g with nd := true } (by unfold addG; rw [hd, if_neg (by simp), if_neg hsc, hn]; rfl) (put_getM _ _ _) (fun b h => put_neM h) rfl rfl rfl⟩
      | false =>
        refine ExO.val (x := .ptr σ.next 1) rfl rfl rfl ?_
        refine ExO.val (x := vI s.f_Bind) rfl (op_loadM rfl rfl s3 rfl) rfl ?_
        refine ExO.val (x := vB (s.f_Bind == 1)) rfl rfl rfl (ExO.val (x := vB (s.f_Bind == 1)) rfl rfl rfl ?_)
        refine ExO.val (x := .ptr g.b 0) rfl rfl rfl (ExO.val (x := .ptr g.b 4) rfl rfl rfl ?_)
        refine ExO.skip rfl (op_storeM (cs' := grC { g with nd := s.f_Bind == 1 }) rfl rfl rfl g3 rfl rfl rfl (Nat.le_of_ble_eq_true rfl) rfl) rfl (ExO.nil ?_)
        exact ⟨.inl rfl, rfl, [], rfl, rfl, fin _ { g with nd := s.f_Bind == 1 } (by unfold addG; rw [hd, if_neg (by simp), if_neg hsc, hn]; rfl) (put_getM _ _ _) (fun b h => put_neM h) rfl rfl rfl⟩
end Go.DM
namespace Go.DM
open Go Go.Proofs Go.RowKit
set_option maxRecDepth 100000
theorem opQ_loadM {C : Cfg} {ρ : Operand → Option A} {o : Oper} {σ : St} {t : TypeId} {a : Operand} {cs : List A} {b i : Nat} {e : TypeId} {x : A} (hop : o.op = .load t a) (ha : ρ a = some (.ptr b i)) (hb : σ.blks.get b = some (.cells cs e)) (hl : loadAt C.P t cs i = some x) : opQ C ρ o σ = some x := by
  have hc : σ.cells b = some (cs, e) := by unfold St.cells; rw [hb]
  simp only [opQ, hop, op, ha, loadOp, hc, hl]; rfl
theorem op_lenM {C : Cfg} {ρ : Operand → Option A} {o : Oper} {σ : St} {c : Call} {x : Operand} {cs : List A} {sz m : Nat} {ap : Ap} {t e : TypeId} (hop : o.op = .call c) (hc : c.callee = .builtin .len) (ha : c.args.toList = [x]) (h0 : c.argTypes[0]? = some t) (hx : ρ x = some (.sl sz cs ap)) (ht : C.P.underlying t = some (.slice e)) (hm : cs.length / sz = m) :
    op C ρ o σ = some (.val (vI (m : Nat)) σ) := by subst hm; exact op_lenS hop hc ha h0 hx ht
theorem opQ_lenM {C : Cfg} {ρ : Operand → Option A} {o : Oper} {σ : St} {c : Call} {x : Operand} {cs : List A} {sz m : Nat} {ap : Ap} {t e : TypeId} (hop : o.op = .call c) (hc : c.callee = .builtin .len) (ha : c.args.toList = [x]) (h0 : c.argTypes[0]? = some t) (hx : ρ x = some (.sl sz cs ap)) (ht : C.P.underlying t = some (.slice e)) (hm : cs.length / sz = m) :
    opQ C ρ o σ = some (vI (m : Nat)) := by
  simp only [opQ, hop, hc, op_lenM hop hc ha h0 hx ht hm]
theorem op_atM {C : Cfg} {ρ : Operand → Option A} {o : Oper} {σ : St} {t e : TypeId} {x ix : Operand} {cs : List A} {sz j : Nat} {ap : Ap} (hop : o.op = .indexAddr t x ix) (hx : ρ x = some (.sl sz cs ap)) (hi : ρ ix = some (vI (j : Nat))) (ht : C.P.underlying t = some (.slice e)) (hs : sizeOfT C.P e = some sz) (h0 : 0 < sz) (hl : j < cs.length / sz) :
    op C ρ o σ = some (.val (.sp cs (j * sz) .no) σ) := by
  have := op_at (σ := σ) hop hx hi ht hs h0 (Int.natCast_nonneg j) (Int.ofNat_lt.2 hl)
  rwa [Int.toNat_natCast] at this
def zeroD : TDef := ⟨ByteArray.mk #[], 0, 0, 0, 0, 0⟩
def chosenV (g : Gr) (n : ByteArray) : TDef × Int := match g.s with
  | some d => (d.2, 0)
  | none => match g.c with
    | some d => (d.2, 0)
    | none => match g.w with
      | some d => (d.2, 0)
      | none => if g.nd = true then (zeroD, 205) else (⟨n, -1, -2, 0, 0, 0⟩, 0)
theorem b3 (a b c : Option (Nat × TDef)) : buildSliceOp cfgW.P 68 3 [(0, ptrO a), (1, ptrO b), (2, ptrO c)] = some (.sl 1 [ptrO a, ptrO b, ptrO c] .ex) := by
  cases a <;> cases b <;> cases c <;> rfl
theorem jO (a : Option (Nat × TDef)) : isJunk (ptrO a) = false := by cases a <;> rfl
theorem opQ_b3 {ρ : Operand → Option A} {o : Oper} {σ : St} {x y z : Operand} {a b c : Option (Nat × TDef)} (hop : o.op = .buildSlice 68 3 #[(0, x), (1, y), (2, z)]) (hx : ρ x = some (ptrO a)) (hy : ρ y = some (ptrO b)) (hz : ρ z = some (ptrO c)) : opQ cfgW ρ o σ = some (.sl 1 [ptrO a, ptrO b, ptrO c] .ex) := by
  have hm : cfgW.mutB 68 = false := rfl
  simp only [opQ, op, hop, partsOf, hx, hy, hz, jO, hm, b3, Bool.false_eq_true, if_false]
  rfl
/-- a group's definitions lie in their blocks -/
structure GrOk (σ : St) (g : Gr) : Prop where
  lt : g.b < σ.next
  blk : ∃ eg, σ.blks.get g.b = some (.cells (grC g) eg)
  defs : ∀ d, g.s = some d ∨ g.c = some d ∨ g.w = some d → d.1 < σ.next ∧ σ.blks.get d.1 = some (.cells (defC d.2) 42)
theorem res_cell {C : Cfg} {φ : Fr} {σ : St} {a b : Nat} {t e : TypeId} {cs : List A} {x : A} {r : List ResultVar} {xs : List A} (ha : φ.s.get a = some (.ptr b 0)) (hb : σ.blks.get b = some (.cells cs e)) (hl : loadAt C.P t cs 0 = some x) (h : resA C φ σ r = some xs) : resA C φ σ (.cell a t :: r) = some (x :: xs) := by
  have hc : σ.cells b = some (cs, e) := by unfold St.cells; rw [hb]
  simp only [resA, ha, loadOp, hc, hl, h]
theorem chosen_ca {σ : St} {g : Gr} (n : ByteArray) (hg : GrOk σ g) :
    Ca cfgW 14 [.ptr g.b 0, vS n] σ (fun x σ' => x = .tup [.agg (defC (chosenV g n).1), vI (chosenV g n).2] ∧ (∀ b, b < σ.next → σ'.blks.get b = σ.blks.get b) ∧ σ'.next = σ.next + 1 ∧ σ'.toks = σ.toks ∧ σ'.nextT = σ.nextT) := by
  obtain ⟨hlt, ⟨eg, hb⟩, hdf⟩ := hg
  refine Ca.enter Try.func14 rfl rfl (Nat.le_of_ble_eq_true rfl) ?_
  refine Ex.seq (Ex.region ?_)
  refine ExO.val (x := .ptr σ.next 0) rfl rfl rfl (ExO.val (x := vI 0) rfl rfl rfl (ExO.nil ?_))
  generalize h3 : St.push σ _ = σ3
  have n3 : σ3.next = σ.next + 1 := by rw [← h3]; rfl
  have k3 : σ3.toks = σ.toks := by rw [← h3]; rfl
  have m3 : σ3.nextT = σ.nextT := by rw [← h3]; rfl
  have o3 : ∀ b, b < σ.next → σ3.blks.get b = σ.blks.get b := fun b hb => by rw [← h3]; exact push_neM hb
  have d3 : σ3.blks.get σ.next = some (.cells (defC zeroD) 42) := by rw [← h3, push_getM]; rfl
  clear h3
  have g3 := (o3 g.b hlt).trans hb
  have fin : ∀ (r : TDef × Int), r = chosenV g n → ∀ (φ : Fr) (σ4 : St) (e : TypeId), σ4.blks.get σ.next = some (.cells (defC r.1) e) → (∀ b, b < σ.next → σ4.blks.get b = σ.blks.get b) → σ4.next = σ.next + 1 → σ4.toks = σ.toks → σ4.nextT = σ.nextT → φ.s.get 4 = some (.ptr σ.next 0) → φ.s.get 5 = some (vI r.2) →
      ∃ xs, resA cfgW φ σ4 Try.f14.results.toList = some xs ∧ (oneOrTup xs = .tup [.agg (defC (chosenV g n).1), vI (chosenV g n).2] ∧ (∀ b, b < σ.next → σ4.blks.get b = σ.blks.get b) ∧ σ4.next = σ.next + 1 ∧ σ4.toks = σ.toks ∧ σ4.nextT = σ.nextT) := by
    rintro r rfl φ σ4 e h1 h2 h3 h4 h5 h6 h7
    have hr : resA cfgW φ σ4 [.tmp 5] = some [vI (chosenV g n).2] := by simp only [resA, h7]
    exact ⟨[.agg (defC (chosenV g n).1), vI (chosenV g n).2], res_cell h6 h1 rfl hr, rfl, h2, h3, h4, h5⟩
  refine Ex.seq (Ex.seq (Ex.drawn (by kernel_rfl) ?_))
  refine ExD.val (x := .ptr g.b 0) rfl rfl rfl rfl rfl (ExD.val (x := .ptr g.b 0) rfl rfl rfl rfl rfl (ExD.val (x := .ptr g.b 0) rfl rfl rfl rfl rfl ?_))
  refine ExD.val (x := ptrO g.s) rfl rfl (opQ_loadM rfl rfl g3 rfl) rfl rfl ?_
  refine ExD.val (x := .ptr g.b 0) rfl rfl rfl rfl rfl (ExD.val (x := .ptr g.b 0) rfl rfl rfl rfl rfl (ExD.val (x := .ptr g.b 2) rfl rfl rfl rfl rfl ?_))
  refine ExD.val (x := ptrO g.c) rfl rfl (opQ_loadM rfl rfl g3 rfl) rfl rfl ?_
  refine ExD.val (x := .ptr g.b 0) rfl rfl rfl rfl rfl (ExD.val (x := .ptr g.b 0) rfl rfl rfl rfl rfl (ExD.val (x := .ptr g.b 1) rfl rfl rfl rfl rfl ?_))
  refine ExD.val (x := ptrO g.w) rfl rfl (opQ_loadM rfl rfl g3 rfl) rfl rfl ?_
  refine ExD.val (x := .sl 1 [ptrO g.s, ptrO g.c, ptrO g.w] .ex) rfl rfl (opQ_b3 rfl rfl rfl rfl) rfl rfl (ExD.val (x := vI 3) rfl rfl (opQ_lenM rfl rfl rfl rfl rfl Try.underlying68 (by simp)) rfl rfl (ExD.val (x := vI 0) rfl rfl rfl rfl rfl (ExD.nil ?_)))
  refine Ex.block ?_
  refine Ex.loop1 ?_
  refine Ex.seq (Ex.region ?_)
  refine ExO.val (x := vB true) rfl rfl rfl (ExO.nil ?_)
  refine Ex.seq (Ex.cond (t := true) rfl (Ex.skip ?_))
  refine Ex.seq (Ex.block ?_)
  refine Ex.seq (Ex.region ?_)
  refine ExO.val rfl (op_atM (j := 0) (sz := 1) rfl rfl rfl Try.underlying68 rfl (by omega) (by simp)) rfl (ExO.val (x := ptrO g.s) rfl rfl rfl (ExO.val (x := ptrO g.s) rfl rfl rfl (ExO.nil ?_)))
  cases hs : g.s with
  | some d =>
    obtain ⟨h1, h2⟩ := hdf d (.inl hs)
    refine Ex.seq (Ex.region ?_)
    refine ExO.val (x := .ptr d.1 0) rfl rfl rfl (ExO.val (x := vB true) rfl rfl rfl (ExO.nil ?_))
    refine Ex.cond (t := true) rfl (Ex.seq (Ex.region ?_))
    refine ExO.val (x := .ptr d.1 0) rfl rfl rfl (ExO.val (x := .ptr d.1 0) rfl rfl rfl ?_)
    refine ExO.val (x := .agg (defC d.2)) rfl (op_loadM rfl rfl ((o3 _ h1).trans h2) rfl) rfl ?_
    refine ExO.skip rfl (op_storeM (cs' := defC d.2) rfl rfl rfl d3 rfl rfl rfl (Nat.le_of_ble_eq_true rfl) rfl) rfl (ExO.val (x := vI 0) rfl rfl rfl (ExO.nil ?_))
    refine Ex.ret ?_
    exact ⟨.inr rfl, rfl, fin (d.2, 0) (by simp [chosenV, hs]) _ _ _ (put_getM _ _ _) (fun b h => (put_neM (by omega)).trans (o3 b h)) n3 k3 m3 rfl rfl⟩
  | none =>
    refine Ex.seq (Ex.region ?_)
    refine ExO.val (x := .v (.pointer none)) rfl rfl rfl (ExO.val (x := vB false) rfl rfl rfl (ExO.nil ?_))
    refine Ex.cond (t := false) rfl (Ex.skip ?_)
    refine Ex.region ?_
    refine ExO.val (x := vI 1) rfl rfl rfl (ExO.val (x := vI 1) rfl rfl rfl (ExO.nil ?_))
    refine Ex.loop1 ?_
    refine Ex.seq (Ex.region ?_)
    refine ExO.val (x := vB true) rfl rfl rfl (ExO.nil ?_)
    refine Ex.seq (Ex.cond (t := true) rfl (Ex.skip ?_))
    refine Ex.seq (Ex.block ?_)
    refine Ex.seq (Ex.region ?_)
    refine ExO.val rfl (op_atM (j := 1) (sz := 1) rfl rfl rfl Try.underlying68 rfl (by omega) (by simp)) rfl (ExO.val (x := ptrO g.c) rfl rfl rfl (ExO.val (x := ptrO g.c) rfl rfl rfl (ExO.nil ?_)))
    cases hc : g.c with
    | some d =>
      obtain ⟨h1, h2⟩ := hdf d (.inr (.inl hc))
      refine Ex.seq (Ex.region ?_)
      refine ExO.val (x := .ptr d.1 0) rfl rfl rfl (ExO.val (x := vB true) rfl rfl rfl (ExO.nil ?_))
      refine Ex.cond (t := true) rfl (Ex.seq (Ex.region ?_))
      refine ExO.val (x := .ptr d.1 0) rfl rfl rfl (ExO.val (x := .ptr d.1 0) rfl rfl rfl ?_)
      refine ExO.val (x := .agg (defC d.2)) rfl (op_loadM rfl rfl ((o3 _ h1).trans h2) rfl) rfl ?_
      refine ExO.skip rfl (op_storeM (cs' := defC d.2) rfl rfl rfl d3 rfl rfl rfl (Nat.le_of_ble_eq_true rfl) rfl) rfl (ExO.val (x := vI 0) rfl rfl rfl (ExO.nil ?_))
      refine Ex.ret ?_
      exact ⟨.inr rfl, rfl, fin (d.2, 0) (by simp [chosenV, hs, hc]) _ _ _ (put_getM _ _ _) (fun b h => (put_neM (by omega)).trans (o3 b h)) n3 k3 m3 rfl rfl⟩
    | none =>
      refine Ex.seq (Ex.region ?_)
      refine ExO.val (x := .v (.pointer none)) rfl rfl rfl (ExO.val (x := vB false) rfl rfl rfl (ExO.nil ?_))
      refine Ex.cond (t := false) rfl (Ex.skip ?_)
      refine Ex.region ?_
      refine ExO.val (x := vI 2) rfl rfl rfl (ExO.val (x := vI 2) rfl rfl rfl (ExO.nil ?_))
      refine Ex.loop1 ?_
      refine Ex.seq (Ex.region ?_)
      refine ExO.val (x := vB true) rfl rfl rfl (ExO.nil ?_)
      refine Ex.seq (Ex.cond (t := true) rfl (Ex.skip ?_))
      refine Ex.seq (Ex.block ?_)
      refine Ex.seq (Ex.region ?_)
      refine ExO.val rfl (op_atM (j := 2) (sz := 1) rfl rfl rfl Try.underlying68 rfl (by omega) (by simp)) rfl (ExO.val (x := ptrO g.w) rfl rfl rfl (ExO.val (x := ptrO g.w) rfl rfl rfl (ExO.nil ?_)))
      cases hw : g.w with
      | some d =>
        obtain ⟨h1, h2⟩ := hdf d (.inr (.inr hw))
        refine Ex.seq (Ex.region ?_)
        refine ExO.val (x := .ptr d.1 0) rfl rfl rfl (ExO.val (x := vB true) rfl rfl rfl (ExO.nil ?_))
        refine Ex.cond (t := true) rfl (Ex.seq (Ex.region ?_))
        refine ExO.val (x := .ptr d.1 0) rfl rfl rfl (ExO.val (x := .ptr d.1 0) rfl rfl rfl ?_)
        refine ExO.val (x := .agg (defC d.2)) rfl (op_loadM rfl rfl ((o3 _ h1).trans h2) rfl) rfl ?_
        refine ExO.skip rfl (op_storeM (cs' := defC d.2) rfl rfl rfl d3 rfl rfl rfl (Nat.le_of_ble_eq_true rfl) rfl) rfl (ExO.val (x := vI 0) rfl rfl rfl (ExO.nil ?_))
        refine Ex.ret ?_
        exact ⟨.inr rfl, rfl, fin (d.2, 0) (by simp [chosenV, hs, hc, hw]) _ _ _ (put_getM _ _ _) (fun b h => (put_neM (by omega)).trans (o3 b h)) n3 k3 m3 rfl rfl⟩
      | none =>
        refine Ex.seq (Ex.region ?_)
        refine ExO.val (x := .v (.pointer none)) rfl rfl rfl (ExO.val (x := vB false) rfl rfl rfl (ExO.nil ?_))
        refine Ex.cond (t := false) rfl (Ex.skip ?_)
        refine Ex.region ?_
        refine ExO.val (x := vI 3) rfl rfl rfl (ExO.val (x := vI 3) rfl rfl rfl (ExO.nil ?_))
        refine Ex.loop1 ?_
        refine Ex.seq (Ex.region ?_)
        refine ExO.val (x := vB false) rfl rfl rfl (ExO.nil ?_)
        refine Ex.seq (Ex.cond (t := false) rfl (Ex.exit ?_))
        refine Ex.seq (Ex.seq (Ex.region ?_))
        refine ExO.val (x := .ptr g.b 0) rfl rfl rfl (ExO.val (x := .ptr g.b 0) rfl rfl rfl (ExO.val (x := .ptr g.b 4) rfl rfl rfl ?_))
        refine ExO.val (x := vB g.nd) rfl (op_loadM rfl rfl g3 rfl) rfl (ExO.nil ?_)
        cases hn : g.nd with
        | true =>
          refine Ex.cond (t := true) rfl (Ex.seq (Ex.region ?_))
          refine ExO.val (x := .agg (defC zeroD)) rfl rfl rfl ?_
          refine ExO.skip rfl (op_storeM (cs' := defC zeroD) rfl rfl rfl d3 rfl rfl rfl (Nat.le_of_ble_eq_true rfl) rfl) rfl (ExO.val (x := vI 205) rfl rfl rfl (ExO.nil ?_))
          refine Ex.ret ?_
          exact ⟨.inr rfl, rfl, fin (zeroD, 205) (by simp [chosenV, hs, hc, hw, hn]) _ _ _ (put_getM _ _ _) (fun b h => (put_neM (by omega)).trans (o3 b h)) n3 k3 m3 rfl rfl⟩
        | false =>
          refine Ex.cond (t := false) rfl (Ex.skip ?_)
          refine Ex.seq (Ex.region ?_)
          refine ExO.val (x := vS n) rfl rfl rfl ?_
          refine ExO.val (x := .agg (defC ⟨n, -1, -2, 0, 0, 0⟩)) rfl rfl rfl ?_
          refine ExO.skip rfl (op_storeM (cs' := defC ⟨n, -1, -2, 0, 0, 0⟩) rfl rfl rfl d3 rfl rfl rfl (Nat.le_of_ble_eq_true rfl) rfl) rfl (ExO.val (x := vI 0) rfl rfl rfl (ExO.nil ?_))
          refine Ex.ret ?_
          exact ⟨.inr rfl, rfl, fin (⟨n, -1, -2, 0, 0, 0⟩, 0) (by simp [chosenV, hs, hc, hw, hn]) _ _ _ (put_getM _ _ _) (fun b h => (put_neM (by omega)).trans (o3 b h)) n3 k3 m3 rfl rfl⟩
end Go.DM
namespace Go.DM
open Go Go.Proofs Go.RowKit
set_option maxRecDepth 100000
theorem eqL_inv : ∀ {x y : List UInt8}, eqL x y = true → x = y
  | [], [], _ => rfl
  | [], _ :: _, h => by simp [eqL] at h
  | _ :: _, [], h => by simp [eqL] at h
  | a :: x, b :: y, h => by
    simp only [eqL, Bool.and_eq_true] at h
    have h1 := Nat.eq_of_beq_eq_true h.1
    rw [UInt8.toNat.inj h1, eqL_inv h.2]
theorem nodupL_of : ∀ {l : List (List UInt8)}, l.Nodup → nodupL l = true
  | [], _ => rfl
  | x :: r, h => by
    obtain ⟨h1, h2⟩ := List.nodup_cons.1 h
    simp only [nodupL, Bool.and_eq_true, List.all_eq_true, Bool.not_eq_true']
    refine ⟨fun y hy => ?_, nodupL_of h2⟩
    cases he : eqL x y with
    | false => rfl
    | true => exact absurd (eqL_inv he ▸ hy) h1
section
variable {α : Type} {f : α → A}
theorem keysA_G : ∀ (l : List (ByteArray × α)) (j : Nat), (∀ p ∈ l, p.1.size ≤ 4000000) → keysA (mapEsG f j l) = some (l.map (·.1.data.toList))
  | [], _, _ => rfl
  | (k, v) :: r, j, h => by
    simp only [mapEsG, keysA, keysA_G r (j + 1) (fun p hp => h p (List.mem_cons_of_mem _ hp))]
    rw [if_pos (h (k, v) (by simp))]; rfl
theorem bornsB_G : ∀ (l : List (ByteArray × α)) (j c : Nat), j + l.length ≤ c → bornsB c j (mapEsG f j l) = true
  | [], _, _, _ => rfl
  | (k, v) :: r, j, c, h => by
    rw [List.length_cons] at h
    have h1 : Nat.ble j j = true := Nat.ble_eq_true_of_le (Nat.le_refl _)
    have h2 : Nat.blt j c = true := Nat.blt_eq.mpr (by omega)
    simp only [mapEsG, bornsB, h1, h2, bornsB_G r (j + 1) c (by omega), Bool.and_self]
/-- a list's names -/
def nmL (l : List (ByteArray × α)) : List (List UInt8) := l.map (·.1.data.toList)
theorem sorted_cl {σ : St} {b b' : Nat} {T : TypeId} {l : List (ByteArray × α)} (h1 : σ.blks.get b' = some (.cells [.mp b] T)) (h2 : σ.blks.get b = some (mapG f l)) (hn : (nmL l).Nodup) (hz : ∀ p ∈ l, p.1.size ≤ 4000000) (hl : l.length ≤ 4000000) :
    Cl cfgW 12 [.fn (.func 21) [] [.ptr b' 0]] σ (.ret (rowA (sortL (nmL l)))) σ := by
  have hG : sortedG 21 [.fn (.func 21) [] [.ptr b' 0]] σ = some (rowA (sortL (nmL l)), σ) := by
    have hb := bornsB_G (f := f) l 0 l.length (by omega)
    have hsz : (nmL l).length = l.length := List.length_map _
    have hd := nodupL_of hn
    have h3 : Nat.ble l.length 4000000 = true := Nat.ble_eq_true_of_le hl
    have hk : keysA (mapEsG f 0 l) = some (nmL l) := keysA_G l 0 hz
    simp only [sortedG, if_true, St.cells, h1, h2, mapG, hk, hd, hsz, h3, hb, Bool.and_self]
  refine Cl.of (k := 1) ?_
  have hp : cfgW.prim 12 = some (sortedG 21) := rfl
  simp only [call, hp, hG]
end
theorem keys_ca {σ : St} (b : Nat) : Ca cfgW 13 [.mp b] σ (fun x σ' => x = .fn (.func 21) [] [.ptr σ.next 0] ∧ σ' = σ.push (.cells [.mp b] 47)) := by
  refine Ca.enter Try.func13 rfl rfl (Nat.le_of_ble_eq_true rfl) ?_
  refine Ex.seq (Ex.region ?_)
  refine ExO.val (x := .ptr σ.next 0) rfl rfl rfl (ExO.val (x := .v .nilFunc) rfl rfl rfl (ExO.nil ?_))
  refine Ex.seq (Ex.region ?_)
  refine ExO.val (x := .fn (.func 21) [] [.ptr σ.next 0]) rfl rfl rfl (ExO.val (x := .fn (.func 21) [] [.ptr σ.next 0]) rfl rfl rfl (ExO.nil ?_))
  refine Ex.ret ?_
  exact ⟨.inr rfl, rfl, [.fn (.func 21) [] [.ptr σ.next 0]], rfl, rfl, rfl⟩
end Go.DM
namespace Go.DM
open Go Go.Proofs Go.RowKit
set_option maxRecDepth 100000
/-- a group without its blocks -/
structure Gv where
  s : Option TDef
  w : Option TDef
  c : Option TDef
  nd : Bool
def g0 : Gv := ⟨none, none, none, false⟩
def Gr.v (g : Gr) : Gv := ⟨g.s.map (·.2), g.w.map (·.2), g.c.map (·.2), g.nd⟩
def addV (g : Gv) (k : Int) (s : TSym) : Gv :=
  if isDef s = true then (if s.f_Bind = 1 then { g with s := some (defV k s) } else { g with w := some (defV k s) })
  else if s.f_Sec = -3 then { g with c := some (defV k s) } else { g with nd := g.nd || (s.f_Bind == 1) }
theorem addG_v (g : Gr) (d : Nat) (k : Int) (s : TSym) : (addG g d k s).v = addV g.v k s := by
  unfold addG addV
  split
  · split <;> rfl
  · split <;> rfl
def chosenG (g : Gv) (n : ByteArray) : TDef × Int := match g.s with
  | some d => (d, 0)
  | none => match g.c with
    | some d => (d, 0)
    | none => match g.w with
      | some d => (d, 0)
      | none => if g.nd = true then (zeroD, 205) else (⟨n, -1, -2, 0, 0, 0⟩, 0)
theorem chosenV_v (g : Gr) (n : ByteArray) : chosenV g n = chosenG g.v n := by
  unfold chosenV chosenG Gr.v
  cases g.s <;> cases g.c <;> cases g.w <;> rfl
/-- the groups behind one more symbol -/
def stepM (gs : List (ByteArray × Gv)) (k : Int) (s : TSym) : List (ByteArray × Gv) :=
  if s.f_Bind = 0 then gs else updG gs s.f_Name (addV (lookG g0 gs s.f_Name) k s)
/-- what add asks of a group -/
def OkAdd (g : Gv) (s : TSym) : Prop := (isDef s = true → s.f_Bind = 1 → g.s = none) ∧ (isDef s = true → s.f_Bind ≠ 1 → g.w = none) ∧ (isDef s = false → s.f_Sec = -3 → g.c = none)
/-- the symbols of objects, each with its object's number, from a number on -/
def symsFrom : Nat → List TObj → List (Int × TSym)
  | _, [] => []
  | i, o :: r => o.f_Syms.map (fun s => ((i : Int), s)) ++ symsFrom (i + 1) r
def foldM (gs : List (ByteArray × Gv)) (q : List (Int × TSym)) : List (ByteArray × Gv) := q.foldl (fun gs x => stepM gs x.1 x.2) gs
/-- the local symbols' definitions -/
def locD : List (Int × TSym) → List TDef
  | [] => []
  | x :: r => if x.2.f_Bind = 0 then defV x.1 x.2 :: locD r else locD r
theorem locD_app : ∀ (a b : List (Int × TSym)), locD (a ++ b) = locD a ++ locD b
  | [], b => rfl
  | x :: r, b => by
    rw [List.cons_append, locD, locD, locD_app r b]
    split <;> rfl
/-- one object's row behind its first symbols: a local symbol's place; n: how many definitions are ahead of it -/
def rowM : Nat → List TSym → List Int
  | _, [] => []
  | n, s :: r => if s.f_Bind = 0 then (n : Int) :: rowM (n + 1) r else 0 :: rowM n r
theorem rowM_len : ∀ (n : Nat) (l : List TSym), (rowM n l).length = l.length
  | _, [] => rfl
  | n, s :: r => by
    rw [rowM]
    split <;> simp [rowM_len]
end Go.DM
namespace Go.DM
open Go Go.Proofs Go.RowKit
set_option maxRecDepth 100000
/-- a list that is appended to: nil, or cells with the right to append -/
def SlE (σ : St) (z : Nat) (e : TypeId) (a : A) (cs : List A) : Prop := (a = nilS ∧ cs = []) ∨ ∃ id, a = .sl z cs (.gr id) ∧ σ.live id = some e ∧ id < σ.nextT
theorem SlE.one {σ : St} {z : Nat} {e : TypeId} {a : A} {cs : List A} (h : SlE σ z e a cs) : a.cells = [a] ∧ allOne [a] = true := by
  rcases h with ⟨rfl, _⟩ | ⟨id, rfl, _⟩ <;> exact ⟨rfl, rfl⟩
theorem SlE.app {P : Program} {σ : St} {t e : TypeId} {i : TypeInfo} {cs new : List A} {a x : A} (h : SlE σ i.size e a cs) (ht : P.underlying t = some (.slice e)) (hi : P.info? e = some i) (hx : appended σ i.size x = some new) (hz : 0 < i.size) (hn : new ≠ []) (h1 : allOne new = true)
    (h2 : i.zero.isSome = true) (h3 : (i.zero.map (·.cells.size)) = some i.size) (h4 : 0 < i.bytes) (hb : (2 * ((cs.length + new.length) / i.size) + 1024) * i.bytes ≤ 281474976710656) :
    ∃ a' σ2, appendOp P t a x σ = some (a', σ2) ∧ SlE σ2 i.size e a' (cs ++ new) ∧ σ2.blks = σ.blks ∧ σ2.next = σ.next ∧ σ2.nextT = σ.nextT + 1 ∧ ∀ id e', σ.live id = some e' → e' ≠ e → id < σ.nextT → σ2.live id = some e' := by
  rcases h with ⟨rfl, rfl⟩ | ⟨id, rfl, hl, hid⟩
  · refine ⟨_, _, append_nil ht hi hx hz hn h1 h2 h3 h4 (by simpa using hb), .inr ⟨σ.nextT, rfl, by simp [St.live, St.tok, Tr.get_set], by show σ.nextT < σ.nextT + 1; omega⟩, rfl, rfl, rfl, fun id e' h5 _ h6 => ?_⟩
    simp only [St.live, St.tok, Tr.get_set]
    rw [if_neg (by omega)]; exact h5
  · refine ⟨_, _, append_own ht hi hx hz hn h1 h2 h3 h4 hb hl, .inr ⟨σ.nextT, rfl, by simp [St.live, St.tok, St.untok, Tr.get_set], by show σ.nextT < σ.nextT + 1; omega⟩, rfl, rfl, rfl, fun id' e' h5 h7 h6 => ?_⟩
    have hne : id' ≠ id := by rintro rfl; rw [hl] at h5; cases h5; exact h7 rfl
    simp only [St.live, St.tok, St.untok, Tr.get_set, Tr.get_del]
    rw [if_neg (by omega), if_neg hne]; exact h5
/-! maps from names -/
def lookO {α : Type} : List (ByteArray × α) → ByteArray → Option α
  | [], _ => none
  | (k, v) :: r, s => if s = k then some v else lookO r s
theorem find_O {α : Type} {f : α → A} (s : ByteArray) : ∀ (l : List (ByteArray × α)) (i j : Nat),
    (lookO l s = none ∧ findA .string (.string s) (mapEsG f j l) i = some none) ∨ ∃ v p q, lookO l s = some v ∧ findA .string (.string s) (mapEsG f j l) i = some (some (p, f v, q))
  | [], i, j => .inl ⟨rfl, rfl⟩
  | (k, v) :: r, i, j => by
    simp only [mapEsG, findA, same_str, lookO]
    by_cases h : s = k
    · right
      rw [decide_eq_true h, if_pos h]
      exact ⟨v, i, j, rfl, rfl⟩
    · rw [decide_eq_false h, if_neg h]
      exact find_O s r (i + 1) (j + 1)
theorem fits_str (s : ByteArray) : keyFits .string (.string s) = true := by
  unfold keyFits
  rw [same_str, decide_eq_true rfl]; rfl
theorem op_look {α : Type} {f : α → A} {C : Cfg} {ρ : Operand → Option A} {o : Oper} {σ : St} {t e : TypeId} {m k : Operand} {b : Nat} {l : List (ByteArray × α)} {s : ByteArray} {z : A} {ok : Bool} (hb : σ.blks.get b = some (mapG f l)) (hop : o.op = .lookup t m k ok) (hm : ρ m = some (.mp b)) (hk : ρ k = some (.v (.string s))) (hd : keyDesc C.P t = some (.string, e)) (hz : zeroA C.P e = some z) :
    op C ρ o σ = some (.val (match lookO l s with | some v => (if ok then .tup [f v, vB true] else f v) | none => (if ok then .tup [z, vB false] else z)) σ) := by
  simp only [op, hop, hm, hk, lookupOp, hd]
  rw [if_pos (fits_str s), hb]
  simp only [mapG]
  rcases find_O (f := f) s l 0 0 with ⟨h1, h2⟩ | ⟨v, p, q, h1, h2⟩
  · rw [h1, h2]; simp only [hz]; rfl
  · rw [h1, h2]; rfl
theorem op_upd {α : Type} {f : α → A} {C : Cfg} {ρ : Operand → Option A} {o : Oper} {σ : St} {t e : TypeId} {m k x : Operand} {b : Nat} {q : List (ByteArray × α)} {s : ByteArray} {v : α} (hb : σ.blks.get b = some (mapG f q)) (hop : o.op = .mapUpdate t m k x) (hm : ρ m = some (.mp b)) (hk : ρ k = some (.v (.string s))) (hx : ρ x = some (f v)) (hd : keyDesc C.P t = some (.string, e)) :
    op C ρ o σ = some (.skip (σ.put b (mapG f (updG q s v)))) := by
  simp only [op, hop, hm, hk, hx, updateOp, hd]
  rw [if_pos (fits_str s), hb]
  simp only [mapG]
  rcases find_esG (f := f) v s q 0 0 with ⟨h1, h2, h3⟩ | ⟨p, w, h0, h1, h2, h3, h4⟩
  · rw [h1, h3 v]
    simp only [mapEsG_app, List.length_append, List.length_singleton, Nat.zero_add]
    rfl
  · rw [h1]
    obtain ⟨g1, g2⟩ := h4 v
    simp only [setVal, Nat.zero_add] at h3 ⊢
    rw [h3]
    simp only [wrapU]
    rw [g1, g2]
    simp only [Nat.zero_add]
/-- an answer without a table -/
def badR (n : ByteArray) (e : Int) : A := .tup [.agg [nilS, nilS], vS n, vI e]
theorem resolve_many {σ : St} {cs : List A} {ap : Ap} {l : List TObj} (hc : Cells rTObj cs l) (hl : 64 < l.length) :
    Ca cfgW 7 [.sl 4 cs ap] σ (fun x σ' => x = badR (ByteArray.mk #[]) 203 ∧ (∀ b, b < σ.next → σ'.blks.get b = σ.blks.get b) ∧ σ.next ≤ σ'.next) := by
  have hlen : cs.length / 4 = l.length := by rw [hc.length]; exact Nat.mul_div_cancel _ (by decide)
  refine Ca.enter Try.func7 rfl rfl (Nat.le_of_ble_eq_true rfl) ?_
  refine Ex.seq (Ex.region ?_)
  refine ExO.val (x := .ptr σ.next 0) rfl rfl rfl (ExO.val rfl rfl rfl (ExO.val rfl rfl rfl (ExO.nil ?_)))
  refine Ex.seq (Ex.seq (Ex.region ?_))
  refine ExO.val rfl rfl rfl (ExO.val (x := vI (l.length : Nat)) rfl (op_lenM rfl rfl rfl rfl rfl Try.underlying22 hlen) rfl ?_)
  refine ExO.val (x := vB true) rfl (val_bl rfl (by simp; omega)) rfl (ExO.nil ?_)
  refine Ex.cond (t := true) rfl (Ex.seq (Ex.region ?_))
  refine ExO.val (x := .agg [nilS, nilS]) rfl rfl rfl ?_
  refine ExO.skip rfl (op_storeM (cs' := [nilS, nilS]) rfl rfl rfl (push_getM _ _) rfl rfl rfl (Nat.le_refl _) rfl) rfl ?_
  refine ExO.val (x := vS (ByteArray.mk #[])) rfl rfl rfl (ExO.val (x := vI 203) rfl rfl rfl (ExO.nil ?_))
  refine Ex.ret ?_
  refine ⟨.inr rfl, rfl, [.agg [nilS, nilS], vS (ByteArray.mk #[]), vI 203], res_cell rfl (put_getM _ _ _) rfl rfl, rfl, fun b hb => ?_, ?_⟩
  · rw [put_neM (by omega), push_neM hb]
  · exact Nat.le_succ _
end Go.DM
namespace Go.DM
open Go Go.Proofs Go.RowKit
set_option maxRecDepth 100000
def ptrG (g : Gr) : A := .ptr g.b 0
/-- a group lies in its block, its definitions in theirs -/
structure GrAt (N0 : Nat) (σ : St) (g : Gr) : Prop where
  lo : N0 ≤ g.b
  lt : g.b < σ.next
  blk : σ.blks.get g.b = some (.cells (grC g) 54)
  defs : ∀ d, g.s = some d ∨ g.c = some d ∨ g.w = some d → d.1 < σ.next ∧ σ.blks.get d.1 = some (.cells (defC d.2) 42)
theorem GrAt.ok {N0 : Nat} {σ : St} {g : Gr} (h : GrAt N0 σ g) : GrOk σ g := ⟨h.lt, ⟨_, h.blk⟩, h.defs⟩
/-- what a call leaves as it was -/
structure Keep (σ σ' : St) : Prop where
  get : ∀ b, b < σ.next → σ'.blks.get b = σ.blks.get b
  next : σ.next ≤ σ'.next
  toks : σ'.toks = σ.toks
  nextT : σ'.nextT = σ.nextT
theorem Keep.refl (σ : St) : Keep σ σ := ⟨fun _ _ => rfl, Nat.le_refl _, rfl, rfl⟩
theorem Keep.trans {a b c : St} (h : Keep a b) (g : Keep b c) : Keep a c :=
  ⟨fun x hx => (g.get x (Nat.lt_of_lt_of_le hx h.next)).trans (h.get x hx), Nat.le_trans h.next g.next, g.toks.trans h.toks, g.nextT.trans h.nextT⟩
theorem Keep.push (σ : St) (x : Blk) : Keep σ (σ.push x) := ⟨fun _ h => push_neM h, Nat.le_succ _, rfl, rfl⟩
theorem Keep.putNew {σ σ' : St} (h : Keep σ σ') {b : Nat} (x : Blk) (hb : σ.next ≤ b) : Keep σ (σ'.put b x) :=
  ⟨fun c hc => (put_neM (by omega)).trans (h.get c hc), h.next, h.toks, h.nextT⟩
theorem Keep.live {σ σ' : St} (h : Keep σ σ') (id : Nat) : σ'.live id = σ.live id := by simp only [St.live, h.toks]
theorem SlE.keep {σ σ' : St} (k : Keep σ σ') {z : Nat} {e : TypeId} {a : A} {cs : List A} (h : SlE σ z e a cs) : SlE σ' z e a cs := by
  rcases h with h | ⟨id, h1, h2, h3⟩
  · exact .inl h
  · exact .inr ⟨id, h1, (k.live id).trans h2, by rw [k.nextT]; exact h3⟩
theorem GrAt.keep {N0 : Nat} {σ σ' : St} (k : Keep σ σ') {g : Gr} (h : GrAt N0 σ g) : GrAt N0 σ' g :=
  ⟨h.lo, Nat.lt_of_lt_of_le h.lt k.next, (k.get _ h.lt).trans h.blk, fun d hd => by
    obtain ⟨h1, h2⟩ := h.defs d hd
    exact ⟨Nat.lt_of_lt_of_le h1 k.next, (k.get _ h1).trans h2⟩⟩
/-- a row of Of: its numbers -/
def RowAt (N0 : Nat) (σ : St) (r : A) (xs : List Int) : Prop :=
  (xs = [] ∧ ∃ id, r = .sl 1 [] (.gr id)) ∨ ∃ b, r = .ms b 0 xs.length xs.length ∧ N0 ≤ b ∧ b < σ.next ∧ σ.blks.get b = some (.cells (xs.map fun x => vI x) 3)
theorem RowAt.keep {N0 : Nat} {σ σ' : St} (k : Keep σ σ') {r : A} {xs : List Int} (h : RowAt N0 σ r xs) : RowAt N0 σ' r xs := by
  rcases h with h | ⟨b, h1, h2, h3, h4⟩
  · exact .inl h
  · exact .inr ⟨b, h1, h2, Nat.lt_of_lt_of_le h3 k.next, (k.get _ h3).trans h4⟩
def rowB : A → List Nat
  | .ms b _ _ _ => [b]
  | _ => []
/-- the table, the map, the groups, the rows -/
structure Tab (N0 bT bM : Nat) (σ : St) (G : List (ByteArray × Gr)) (defs : List TDef) (rws : List A) (xs : List (List Int)) : Prop where
  t0 : N0 ≤ bT
  t1 : bT < σ.next
  m0 : N0 ≤ bM
  m1 : bM < σ.next
  tab : ∃ aD aO, σ.blks.get bT = some (.cells [aD, aO] 36) ∧ SlE σ 6 42 aD (defs.flatMap defC) ∧ SlE σ 1 43 aO rws
  map : σ.blks.get bM = some (mapG ptrG G)
  grp : ∀ x ∈ G, GrAt N0 σ x.2
  nam : (G.map (·.1)).Nodup
  nob : (G.map (·.2.b)).Nodup
  row : All2 (RowAt N0 σ) rws xs
  nor : (rws.flatMap rowB).Nodup
theorem All2.imp {α β : Type} {D D' : α → β → Prop} (h : ∀ x y, D x y → D' x y) {l : List α} {m : List β} (g : All2 D l m) : All2 D' l m := by
  induction g with
  | nil => exact .nil
  | cons hx _ ih => exact .cons (h _ _ hx) ih
theorem Tab.keep {N0 bT bM : Nat} {σ σ' : St} (k : Keep σ σ') {G : List (ByteArray × Gr)} {defs : List TDef} {rws : List A} {xs : List (List Int)} (h : Tab N0 bT bM σ G defs rws xs) : Tab N0 bT bM σ' G defs rws xs := by
  obtain ⟨aD, aO, h1, h2, h3⟩ := h.tab
  exact ⟨h.t0, Nat.lt_of_lt_of_le h.t1 k.next, h.m0, Nat.lt_of_lt_of_le h.m1 k.next, ⟨aD, aO, (k.get _ h.t1).trans h1, h2.keep k, h3.keep k⟩, (k.get _ h.m1).trans h.map, fun x hx => (h.grp x hx).keep k, h.nam, h.nob, h.row.imp fun _ _ g => g.keep k, h.nor⟩
end Go.DM
namespace Go.DM
open Go Go.Proofs Go.RowKit
set_option maxRecDepth 100000
/-! lists of names -/
theorem lookO_mem {α : Type} {s : ByteArray} {v : α} : ∀ {l : List (ByteArray × α)}, lookO l s = some v → (s, v) ∈ l
  | (k, w) :: r, h => by
    rw [lookO] at h
    by_cases hs : s = k
    · rw [if_pos hs] at h; cases h; subst hs; simp
    · rw [if_neg hs] at h; exact List.mem_cons_of_mem _ (lookO_mem h)
theorem lookO_no {α : Type} {s : ByteArray} : ∀ {l : List (ByteArray × α)}, lookO l s = none → s ∉ l.map (·.1)
  | [], _ => by simp
  | (k, w) :: r, h => by
    rw [lookO] at h
    by_cases hs : s = k
    · rw [if_pos hs] at h; cases h
    · rw [if_neg hs] at h
      have := lookO_no h
      simp only [List.map_cons, List.mem_cons, not_or]
      exact ⟨hs, this⟩
theorem updG_no {α : Type} {s : ByteArray} {v : α} : ∀ {l : List (ByteArray × α)}, lookO l s = none → updG l s v = l ++ [(s, v)]
  | [], _ => rfl
  | (k, w) :: r, h => by
    rw [lookO] at h
    by_cases hs : s = k
    · rw [if_pos hs] at h; cases h
    · rw [if_neg hs] at h
      rw [updG, if_neg hs, updG_no h]; rfl
theorem updG_map {α β : Type} {s : ByteArray} {v w : α} (f : α → β) (hf : f v = f w) : ∀ {l : List (ByteArray × α)}, lookO l s = some w → (updG l s v).map (fun x => (x.1, f x.2)) = l.map (fun x => (x.1, f x.2))
  | (k, u) :: r, h => by
    rw [lookO] at h
    by_cases hs : s = k
    · rw [if_pos hs] at h; cases h
      rw [updG, if_pos hs]
      simp only [List.map_cons, hf]
    · rw [if_neg hs] at h
      rw [updG, if_neg hs]
      simp only [List.map_cons, updG_map f hf h]
theorem updG_mem {α : Type} {s : ByteArray} {v : α} {x : ByteArray × α} : ∀ {l : List (ByteArray × α)}, (l.map (·.1)).Nodup → x ∈ updG l s v → x = (s, v) ∨ (x ∈ l ∧ x.1 ≠ s)
  | [], _, h => by simp [updG] at h; exact .inl h
  | (k, u) :: r, hn, h => by
    simp only [List.map_cons, List.nodup_cons] at hn
    rw [updG] at h
    by_cases hs : s = k
    · rw [if_pos hs] at h
      rcases List.mem_cons.1 h with h | h
      · subst hs; exact .inl h
      · refine .inr ⟨List.mem_cons_of_mem _ h, fun e => hn.1 ?_⟩
        rw [← hs, ← e]
        exact List.mem_map_of_mem h
    · rw [if_neg hs] at h
      rcases List.mem_cons.1 h with h | h
      · subst h; exact .inr ⟨by simp, fun e => hs e.symm⟩
      · rcases updG_mem hn.2 h with h | ⟨h1, h2⟩
        · exact .inl h
        · exact .inr ⟨List.mem_cons_of_mem _ h1, h2⟩
section
variable {N0 bT bM : Nat} {σ : St} {G : List (ByteArray × Gr)} {defs : List TDef} {rws : List A} {xs : List (List Int)}
theorem ne_of_get {σ : St} {b c : Nat} {x y : Blk} (h1 : σ.blks.get b = some x) (h2 : σ.blks.get c = some y) (h : x ≠ y) : b ≠ c := by
  rintro rfl
  rw [h1] at h2
  cases h2
  exact h rfl
theorem cells_ne {a b : List A} {e f : TypeId} (h : e ≠ f) : (Blk.cells a e) ≠ .cells b f := by
  intro g
  injection g with _ g
  exact h g
/-- one block is written: what lies in others stays -/
theorem GrAt.put {g : Gr} (h : GrAt N0 σ g) {b : Nat} {x : Blk} (h1 : g.b ≠ b) (h2 : ∀ d, g.s = some d ∨ g.c = some d ∨ g.w = some d → d.1 ≠ b) : GrAt N0 (σ.put b x) g :=
  ⟨h.lo, h.lt, (put_neM h1).trans h.blk, fun d hd => ⟨(h.defs d hd).1, (put_neM (h2 d hd)).trans (h.defs d hd).2⟩⟩
theorem RowAt.put {r : A} {l : List Int} (h : RowAt N0 σ r l) {b : Nat} {x : Blk} (h1 : ∀ c ∈ rowB r, c ≠ b) : RowAt N0 (σ.put b x) r l := by
  rcases h with h | ⟨c, rfl, h2, h3, h4⟩
  · exact .inl h
  · exact .inr ⟨c, rfl, h2, h3, (put_neM (h1 c (by simp [rowB]))).trans h4⟩
theorem RowAt.other {r : A} {l : List Int} (h : RowAt N0 σ r l) {b : Nat} {y : Blk} (hb : σ.blks.get b = some y) (hy : ∀ cs, y ≠ .cells cs 3) : ∀ c ∈ rowB r, c ≠ b := by
  rcases h with ⟨_, id, rfl⟩ | ⟨c, rfl, h2, h3, h4⟩
  · simp [rowB]
  · intro c' hc
    simp only [rowB, List.mem_singleton] at hc
    subst hc
    exact ne_of_get h4 hb fun e => hy _ e.symm
theorem Tab.set {σ2 : St} {aD aO : A} {defs' : List TDef} {rws' : List A} {xs' : List (List Int)} (h : Tab N0 bT bM σ G defs rws xs) (hb : σ2.blks = σ.blks) (hn : σ2.next = σ.next) (hD : SlE σ2 6 42 aD (defs'.flatMap defC)) (hO : SlE σ2 1 43 aO rws')
    (hr : All2 (RowAt N0 σ) rws' xs') (hq : (rws'.flatMap rowB).Nodup) : Tab N0 bT bM (σ2.put bT (.cells [aD, aO] 36)) G defs' rws' xs' := by
  obtain ⟨a0, a1, ht, _, _⟩ := h.tab
  have hbt : ∀ (b : Nat) (y : Blk), σ.blks.get b = some y → (∀ cs, y ≠ .cells cs 36) → (σ2.put bT (.cells [aD, aO] 36)).blks.get b = some y := fun b y h1 h2 => by
    rw [put_neM (ne_of_get h1 ht (h2 _)), hb]; exact h1
  refine ⟨h.t0, by show bT < σ2.next; rw [hn]; exact h.t1, h.m0, by show bM < σ2.next; rw [hn]; exact h.m1, ⟨aD, aO, put_getM _ _ _, hD, hO⟩, hbt _ _ h.map (fun cs e => by cases e), fun x hx => ?_, h.nam, h.nob, hr.imp fun r l g => ?_, hq⟩
  · have g := h.grp x hx
    exact ⟨g.lo, by show x.2.b < σ2.next; rw [hn]; exact g.lt, hbt _ _ g.blk (fun cs => cells_ne (by decide)), fun d hd => ⟨by show d.1 < σ2.next; rw [hn]; exact (g.defs d hd).1, hbt _ _ (g.defs d hd).2 (fun cs => cells_ne (by decide))⟩⟩
  · rcases g with g | ⟨b, h1, h2, h3, h4⟩
    · exact .inl g
    · exact .inr ⟨b, h1, h2, by show b < σ2.next; rw [hn]; exact h3, hbt _ _ h4 (fun cs => cells_ne (by decide))⟩
/-- a name's group is new: its block, and the map told of it -/
theorem Tab.born {s : ByteArray} (h : Tab N0 bT bM σ G defs rws xs) (hN : N0 ≤ σ.next) (hs : lookO G s = none) : Tab N0 bT bM ((σ.push (.cells (grC ⟨σ.next, none, none, none, false⟩) 54)).put bM (mapG ptrG (updG G s ⟨σ.next, none, none, none, false⟩))) (updG G s ⟨σ.next, none, none, none, false⟩) defs rws xs := by
  have k := h.keep (Keep.push σ (.cells (grC ⟨σ.next, none, none, none, false⟩) 54))
  obtain ⟨aD, aO, ht, hD, hO⟩ := k.tab
  have hm := k.map
  have hne : ∀ (b : Nat) (cs : List A) (e : TypeId), (σ.push (.cells (grC ⟨σ.next, none, none, none, false⟩) 54)).blks.get b = some (.cells cs e) → b ≠ bM := fun b cs e g => ne_of_get g hm (fun e => by cases e)
  rw [updG_no hs]
  refine ⟨k.t0, k.t1, k.m0, k.m1, ⟨aD, aO, (put_neM (hne _ _ _ ht)).trans ht, hD, hO⟩, put_getM _ _ _, fun x hx => ?_, ?_, ?_, k.row.imp fun r l g => g.put (g.other hm fun cs e => by cases e), k.nor⟩
  · rcases List.mem_append.1 hx with hx | hx
    · have g := k.grp x hx
      exact g.put (hne _ _ _ g.blk) fun d hd => hne _ _ _ (g.defs d hd).2
    · obtain rfl := List.mem_singleton.1 hx
      exact ⟨hN, Nat.lt_succ_self _, (put_neM (hne _ _ _ (push_getM _ _))).trans (push_getM _ _), fun d hd => by rcases hd with hd | hd | hd <;> cases hd⟩
  · rw [List.map_append, List.nodup_append]
    refine ⟨h.nam, by simp, fun a ha b hb e => ?_⟩
    simp at hb
    subst hb
    exact lookO_no hs (e ▸ ha)
  · rw [List.map_append, List.nodup_append]
    refine ⟨h.nob, by simp, fun a ha b hb e => ?_⟩
    simp at hb
    obtain ⟨x, hx, rfl⟩ := List.mem_map.1 ha
    have := (h.grp x hx).lt
    omega
theorem nob_eq {G : List (ByteArray × Gr)} : (G.map (·.2.b)).Nodup → ∀ {x y : ByteArray × Gr}, x ∈ G → y ∈ G → x.2.b = y.2.b → x = y := by
  induction G with
  | nil => intro _ x y hx; cases hx
  | cons z r ih =>
    intro hn x y hx hy e
    rw [List.map_cons, List.nodup_cons] at hn
    rcases List.mem_cons.1 hx with h1 | h1 <;> rcases List.mem_cons.1 hy with h2 | h2
    · rw [h1, h2]
    · exact absurd (List.mem_map.2 ⟨y, h2, by rw [← e, h1]⟩) hn.1
    · exact absurd (List.mem_map.2 ⟨x, h1, by rw [e, h2]⟩) hn.1
    · exact ih hn.2 h1 h2 e
/-- a name's group is changed in its block -/
theorem Tab.chg {σ' : St} {s : ByteArray} {g g' : Gr} (h : Tab N0 bT bM σ G defs rws xs) (hs : lookO G s = some g) (hb : g'.b = g.b) (h1 : σ'.blks.get g.b = some (.cells (grC g') 54)) (h2 : ∀ b, b < σ.next → b ≠ g.b → σ'.blks.get b = σ.blks.get b) (h3 : σ.next ≤ σ'.next) (h4 : σ'.toks = σ.toks) (h5 : σ'.nextT = σ.nextT)
    (h6 : ∀ d, g'.s = some d ∨ g'.c = some d ∨ g'.w = some d → (g.s = some d ∨ g.c = some d ∨ g.w = some d) ∨ (d.1 < σ'.next ∧ σ'.blks.get d.1 = some (.cells (defC d.2) 42))) : Tab N0 bT bM σ' (updG G s g') defs rws xs := by
  have hm := lookO_mem hs
  have hg := h.grp _ hm
  obtain ⟨aD, aO, ht, hD, hO⟩ := h.tab
  have live : ∀ id, σ'.live id = σ.live id := fun id => by simp only [St.live, h4]
  have sl : ∀ {z : Nat} {e : TypeId} {a : A} {cs : List A}, SlE σ z e a cs → SlE σ' z e a cs := by
    rintro z e a cs (g | ⟨id, g1, g2, g3⟩)
    · exact .inl g
    · exact .inr ⟨id, g1, (live id).trans g2, by rw [h5]; exact g3⟩
  have def_ : ∀ d : Nat × TDef, (d.1 < σ.next ∧ σ.blks.get d.1 = some (.cells (defC d.2) 42)) → d.1 < σ'.next ∧ σ'.blks.get d.1 = some (.cells (defC d.2) 42) := fun d hd =>
    ⟨Nat.lt_of_lt_of_le hd.1 h3, (h2 _ hd.1 (ne_of_get hd.2 hg.blk (cells_ne (by decide)))).trans hd.2⟩
  have hmp : (updG G s g').map (fun x => (x.1, ptrG x.2)) = G.map (fun x => (x.1, ptrG x.2)) := updG_map ptrG (by show ptrG g' = ptrG g; simp only [ptrG, hb]) hs
  have hnm : (updG G s g').map (·.1) = G.map (·.1) := by
    have := congrArg (List.map (fun x : ByteArray × A => x.1)) hmp
    simpa only [List.map_map, Function.comp_def] using this
  have hnb : (updG G s g').map (·.2.b) = G.map (·.2.b) := by
    have := congrArg (List.map (fun x : ByteArray × Nat => x.2)) (updG_map (s := s) (v := g') (w := g) (fun g : Gr => g.b) hb hs)
    simpa only [List.map_map, Function.comp_def] using this
  have hes : ∀ (l m : List (ByteArray × Gr)) (j : Nat), l.map (fun x => (x.1, ptrG x.2)) = m.map (fun x => (x.1, ptrG x.2)) → mapEsG ptrG j l = mapEsG ptrG j m := by
    intro l
    induction l with
    | nil => intro m j e; cases m with
      | nil => rfl
      | cons y m => simp at e
    | cons x l ih => intro m j e; cases m with
      | nil => simp at e
      | cons y m =>
        simp only [List.map_cons, List.cons.injEq, Prod.mk.injEq] at e
        obtain ⟨⟨e1, e2⟩, e3⟩ := e
        obtain ⟨x1, x2⟩ := x
        obtain ⟨y1, y2⟩ := y
        simp only at e1 e2
        subst e1
        rw [mapEsG, mapEsG, e2, ih m (j + 1) e3]
  have hmg : mapG ptrG (updG G s g') = mapG ptrG G := by
    unfold mapG
    rw [hes _ _ 0 hmp]
    have := congrArg List.length hmp
    rw [List.length_map, List.length_map] at this
    rw [this]
  refine ⟨h.t0, Nat.lt_of_lt_of_le h.t1 h3, h.m0, Nat.lt_of_lt_of_le h.m1 h3, ⟨aD, aO, (h2 _ h.t1 (ne_of_get ht hg.blk (cells_ne (by decide)))).trans ht, sl hD, sl hO⟩, ?_, fun x hx => ?_, by rw [hnm]; exact h.nam, by rw [hnb]; exact h.nob, h.row.imp fun r l q => ?_, h.nor⟩
  · rw [hmg]
    exact (h2 _ h.m1 (ne_of_get h.map hg.blk (fun e => by cases e))).trans h.map
  · rcases updG_mem h.nam hx with rfl | ⟨hx, hne⟩
    · refine ⟨by show N0 ≤ g'.b; rw [hb]; exact hg.lo, by show g'.b < σ'.next; rw [hb]; exact Nat.lt_of_lt_of_le hg.lt h3, by show σ'.blks.get g'.b = _; rw [hb]; exact h1, fun d hd => ?_⟩
      rcases h6 d hd with q | q
      · exact def_ d (hg.defs d q)
      · exact q
    · have q := h.grp x hx
      have hne' : x.2.b ≠ g.b := fun e => hne (congrArg Prod.fst (nob_eq h.nob hx hm e))
      exact ⟨q.lo, Nat.lt_of_lt_of_le q.lt h3, (h2 _ q.lt hne').trans q.blk, fun d hd => def_ d (q.defs d hd)⟩
  · rcases q with q | ⟨b, q1, q2, q3, q4⟩
    · exact .inl q
    · exact .inr ⟨b, q1, q2, Nat.lt_of_lt_of_le q3 h3, (h2 _ q3 (ne_of_get q4 hg.blk (cells_ne (by decide)))).trans q4⟩
theorem rows_put {b : Nat} {row' : List Int} (hb0 : N0 ≤ b) (hb1 : b < σ.next) : ∀ {rws : List A} {xs : List (List Int)} {i : Nat}, All2 (RowAt N0 σ) rws xs → (rws.flatMap rowB).Nodup → rws[i]? = some (.ms b 0 row'.length row'.length) →
    All2 (RowAt N0 (σ.put b (.cells (row'.map fun x => vI x) 3))) rws (xs.set i row')
  | _, _, i, .nil, _, h => by simp at h
  | _, _, 0, .cons (x := r) (y := x) (l := l) (m := m) h1 h2, hn, h => by
    simp at h
    subst h
    rw [List.flatMap_cons, List.nodup_append] at hn
    refine .cons (.inr ⟨b, rfl, hb0, hb1, put_getM _ _ _⟩) ?_
    have : ∀ {l : List A} {m : List (List Int)}, All2 (RowAt N0 σ) l m → (∀ c ∈ l.flatMap rowB, c ≠ b) → All2 (RowAt N0 (σ.put b (.cells (row'.map fun x => vI x) 3))) l m := by
      intro l m h
      induction h with
      | nil => intro _; exact .nil
      | cons g _ ih =>
        intro hc
        simp only [List.flatMap_cons, List.mem_append] at hc
        exact .cons (g.put fun c h => hc c (.inl h)) (ih fun c h => hc c (.inr h))
    exact this h2 fun c hc e => hn.2.2 b (by simp [rowB]) c hc e.symm
  | _, _, i + 1, .cons (x := r) (y := x) (l := l) (m := m) h1 h2, hn, h => by
    rw [List.getElem?_cons_succ] at h
    rw [List.flatMap_cons, List.nodup_append] at hn
    refine .cons (h1.put fun c hc e => ?_) (rows_put hb0 hb1 h2 hn.2.1 h)
    exact hn.2.2 c hc b (List.mem_flatMap.2 ⟨_, List.mem_of_getElem? h, by simp [rowB]⟩) e
theorem Tab.write {b i : Nat} {row' : List Int} (h : Tab N0 bT bM σ G defs rws xs) (hr : rws[i]? = some (.ms b 0 row'.length row'.length)) (hb0 : N0 ≤ b) (hb1 : b < σ.next) {row : List Int} (hb2 : σ.blks.get b = some (.cells (row.map fun x => vI x) 3)) :
    Tab N0 bT bM (σ.put b (.cells (row'.map fun x => vI x) 3)) G defs rws (xs.set i row') := by
  obtain ⟨aD, aO, ht, hD, hO⟩ := h.tab
  have ne : ∀ (c : Nat) (y : Blk), σ.blks.get c = some y → (∀ cs, y ≠ .cells cs 3) → c ≠ b := fun c y h1 h2 => ne_of_get h1 hb2 (h2 _)
  exact ⟨h.t0, h.t1, h.m0, h.m1, ⟨aD, aO, (put_neM (ne _ _ ht fun cs => cells_ne (by decide))).trans ht, hD, hO⟩, (put_neM (ne _ _ h.map fun cs e => by cases e)).trans h.map,
    fun x hx => (h.grp x hx).put (ne _ _ (h.grp x hx).blk fun cs => cells_ne (by decide)) fun d hd => ne _ _ ((h.grp x hx).defs d hd).2 fun cs => cells_ne (by decide), h.nam, h.nob, rows_put hb0 hb1 h.row h.nor hr, h.nor⟩
end
end Go.DM
namespace Go.DM
open Go Go.Proofs Go.RowKit
set_option maxRecDepth 100000
/-- how many symbols are local -/
def nloc : List TSym → Nat
  | [] => 0
  | s :: r => if s.f_Bind = 0 then nloc r + 1 else nloc r
def rowsFrom : Nat → List TObj → List (List Int)
  | _, [] => []
  | n, o :: r => rowM n o.f_Syms :: rowsFrom (n + nloc o.f_Syms) r
def nlocs : List TObj → Nat
  | [] => 0
  | o :: r => nloc o.f_Syms + nlocs r
/-- the symbols ahead of an object's k-th -/
def pre (l : List TObj) (i k : Nat) (ss : List TSym) : List (Int × TSym) := symsFrom 0 (l.take i) ++ (ss.take k).map fun s => ((i : Int), s)
theorem symsFrom_app : ∀ (i : Nat) (a b : List TObj), symsFrom i (a ++ b) = symsFrom i a ++ symsFrom (i + a.length) b
  | i, [], b => by simp [symsFrom]
  | i, o :: r, b => by
    rw [List.cons_append, symsFrom, symsFrom, symsFrom_app (i + 1) r b, List.append_assoc, List.length_cons]
    rw [show i + 1 + r.length = i + (r.length + 1) by omega]
theorem pre_next {l : List TObj} {i : Nat} (h : i < l.length) : pre l (i + 1) 0 [] = pre l i l[i].f_Syms.length l[i].f_Syms := by
  unfold pre
  rw [List.take_add_one, List.getElem?_eq_getElem h, symsFrom_app]
  simp only [Option.toList, List.take_zero, List.map_nil, List.append_nil, List.take_length]
  congr 1
  rw [List.length_take, Nat.min_eq_left (by omega), symsFrom, symsFrom, List.append_nil]
  simp
theorem pre_succ {l : List TObj} {i k : Nat} {ss : List TSym} (h : k < ss.length) : pre l i (k + 1) ss = pre l i k ss ++ [((i : Int), ss[k])] := by
  unfold pre
  rw [List.take_add_one (l := ss), List.getElem?_eq_getElem h, List.map_append, ← List.append_assoc]
  rfl
theorem foldM_app (gs : List (ByteArray × Gv)) (a b : List (Int × TSym)) : foldM gs (a ++ b) = foldM (foldM gs a) b := by
  unfold foldM; rw [List.foldl_append]
theorem locD_map (i : Int) : ∀ (l : List TSym), (locD (l.map fun s => (i, s))).length = nloc l
  | [] => rfl
  | s :: r => by
    rw [List.map_cons, locD, nloc]
    split <;> simp [locD_map i r]
theorem locD_from : ∀ (i : Nat) (l : List TObj), (locD (symsFrom i l)).length = nlocs l
  | _, [] => rfl
  | i, o :: r => by rw [symsFrom, locD_app, List.length_append, locD_map, locD_from (i + 1) r, nlocs]
/-- a row that is filled up to its k-th number -/
def rowP (n : Nat) (ss : List TSym) (k : Nat) : List Int := rowM n (ss.take k) ++ List.replicate (ss.length - k) 0
theorem rowP_len (n : Nat) (ss : List TSym) (k : Nat) (h : k ≤ ss.length) : (rowP n ss k).length = ss.length := by
  unfold rowP; rw [List.length_append, rowM_len, List.length_replicate, List.length_take]; omega
theorem rowP_zero (n : Nat) (ss : List TSym) : rowP n ss 0 = List.replicate ss.length 0 := by
  unfold rowP; rw [List.take_zero, rowM]; simp
theorem rowP_full (n : Nat) (ss : List TSym) : rowP n ss ss.length = rowM n ss := by
  unfold rowP; rw [List.take_length]; simp
theorem rowM_app : ∀ (n : Nat) (a b : List TSym), rowM n (a ++ b) = rowM n a ++ rowM (n + nloc a) b
  | n, [], b => by simp [rowM, nloc]
  | n, s :: r, b => by
    rw [List.cons_append, rowM, rowM, nloc]
    split
    · rw [rowM_app (n + 1) r b, List.cons_append, show n + 1 + nloc r = n + (nloc r + 1) by omega]
    · rw [rowM_app n r b, List.cons_append]
theorem rowP_skip (n : Nat) (ss : List TSym) (k : Nat) (h : k < ss.length) (hb : ss[k].f_Bind ≠ 0) : rowP n ss (k + 1) = rowP n ss k := by
  unfold rowP
  rw [List.take_add_one, List.getElem?_eq_getElem h, rowM_app]
  have : ss.length - k = ss.length - (k + 1) + 1 := by omega
  rw [this, List.replicate_succ]
  simp only [Option.toList, rowM, if_neg hb, List.append_assoc, List.cons_append, List.nil_append]
theorem rowP_set (n : Nat) (ss : List TSym) (k : Nat) (h : k < ss.length) (hb : ss[k].f_Bind = 0) : rowP n ss (k + 1) = (rowP n ss k).set k ((n + nloc (ss.take k) : Nat) : Int) := by
  unfold rowP
  rw [List.take_add_one, List.getElem?_eq_getElem h, rowM_app]
  have e : ss.length - k = ss.length - (k + 1) + 1 := by omega
  have hl : (rowM n (ss.take k)).length = k := by rw [rowM_len, List.length_take]; omega
  rw [e, List.replicate_succ, List.set_append_right _ _ (by omega), hl, Nat.sub_self, List.set_cons_zero]
  simp only [Option.toList, rowM, if_pos hb, List.append_assoc, List.cons_append, List.nil_append]
end Go.DM
namespace Go.DM
open Go Go.Proofs Go.RowKit
set_option maxRecDepth 100000
/-- a symbol that defines -/
def dfn (s : TSym) : Bool := isDef s || (s.f_Sec == -3)
/-- a symbol of a name that is not local -/
def cand (n : ByteArray) (x : Int × TSym) : Bool := decide (x.2.f_Bind ≠ 0) && decide (x.2.f_Name = n)
theorem cand_iff {n : ByteArray} {x : Int × TSym} : cand n x = true ↔ x.2.f_Bind ≠ 0 ∧ x.2.f_Name = n := by
  simp [cand]
def stepO (o : Option Gv) (x : Int × TSym) : Option Gv := some (addV (o.getD g0) x.1 x.2)
theorem lookG_O {α : Type} (d : α) : ∀ (gs : List (ByteArray × α)) (n : ByteArray), lookG d gs n = (lookO gs n).getD d
  | [], _ => rfl
  | (k, v) :: r, n => by
    simp only [lookG, lookO]
    by_cases h : n = k
    · rw [if_pos h, if_pos h]; rfl
    · rw [if_neg h, if_neg h]; exact lookG_O d r n
theorem look_upd {α : Type} (k : ByteArray) (v : α) (n : ByteArray) : ∀ (gs : List (ByteArray × α)), lookO (updG gs k v) n = if n = k then some v else lookO gs n
  | [] => rfl
  | (j, w) :: r => by
    rw [updG]
    by_cases h : k = j
    · subst h
      rw [if_pos rfl]
      simp only [lookO]
      by_cases hn : n = k
      · rw [if_pos hn, if_pos hn]
      · rw [if_neg hn, if_neg hn, if_neg hn]
    · rw [if_neg h]
      simp only [lookO, look_upd k v n r]
      by_cases hn : n = j
      · subst hn
        rw [if_pos rfl, if_neg (fun e => h e.symm), if_pos rfl]
      · rw [if_neg hn, if_neg hn]
theorem look_step (gs : List (ByteArray × Gv)) (k : Int) (s : TSym) (n : ByteArray) : lookO (stepM gs k s) n = if cand n (k, s) = true then stepO (lookO gs n) (k, s) else lookO gs n := by
  unfold stepM
  by_cases hb : s.f_Bind = 0
  · rw [if_pos hb, if_neg (fun h => (cand_iff.1 h).1 hb)]
  · rw [if_neg hb, look_upd]
    by_cases hn : n = s.f_Name
    · subst hn
      rw [if_pos rfl, if_pos ((cand_iff (n := s.f_Name) (x := (k, s))).2 ⟨hb, rfl⟩)]
      unfold stepO
      rw [lookG_O]
    · rw [if_neg hn, if_neg (fun h => hn (cand_iff.1 h).2.symm)]
theorem look_fold : ∀ (q : List (Int × TSym)) (gs : List (ByteArray × Gv)) (n : ByteArray), lookO (foldM gs q) n = (q.filter (cand n)).foldl stepO (lookO gs n)
  | [], _, _ => rfl
  | x :: r, gs, n => by
    rw [List.filter_cons]
    show lookO (foldM (stepM gs x.1 x.2) r) n = _
    rw [look_fold r, look_step]
    by_cases h : cand n x = true
    · rw [if_pos h, if_pos h]; rfl
    · rw [if_neg h, if_neg h]
def foldV (g : Gv) (f : List (Int × TSym)) : Gv := f.foldl (fun g x => addV g x.1 x.2) g
theorem foldO : ∀ (f : List (Int × TSym)) (g : Gv), f.foldl stepO (some g) = some (foldV g f)
  | [], _ => rfl
  | x :: r, g => by
    show r.foldl stepO (some (addV g x.1 x.2)) = _
    rw [foldO r]; rfl
theorem look_some (q : List (Int × TSym)) (n : ByteArray) : (q.filter (cand n) = [] ∧ lookO (foldM [] q) n = none) ∨ (q.filter (cand n) ≠ [] ∧ lookO (foldM [] q) n = some (foldV g0 (q.filter (cand n)))) := by
  rw [look_fold]
  cases h : q.filter (cand n) with
  | nil => exact .inl ⟨rfl, rfl⟩
  | cons x r =>
    refine .inr ⟨by simp, ?_⟩
    show r.foldl stepO (some (addV g0 x.1 x.2)) = _
    rw [foldO]; rfl
theorem lookG_fold (q : List (Int × TSym)) (n : ByteArray) : lookG g0 (foldM [] q) n = foldV g0 (q.filter (cand n)) := by
  rw [lookG_O]
  rcases look_some q n with ⟨h1, h2⟩ | ⟨h1, h2⟩
  · rw [h2, h1]; rfl
  · rw [h2]; rfl
theorem dfn_no {s : TSym} (h : dfn s = false) : isDef s = false ∧ s.f_Sec ≠ -3 := by
  unfold dfn at h
  rw [Bool.or_eq_false_iff] at h
  exact ⟨h.1, fun e => by rw [e] at h; exact absurd h.2 (by decide)⟩
theorem addV_no {g : Gv} {k : Int} {s : TSym} (h : dfn s = false) : addV g k s = { g with nd := g.nd || (s.f_Bind == 1) } := by
  obtain ⟨h1, h2⟩ := dfn_no h
  unfold addV
  rw [if_neg (by rw [h1]; simp), if_neg h2]
theorem foldV_no : ∀ (f : List (Int × TSym)) (g : Gv), (∀ x ∈ f, dfn x.2 = false) → foldV g f = { g with nd := g.nd || f.any fun x => x.2.f_Bind == 1 }
  | [], g, _ => by simp [foldV]
  | x :: r, g, h => by
    show foldV (addV g x.1 x.2) r = _
    rw [addV_no (h x (by simp)), foldV_no r _ fun y hy => h y (List.mem_cons_of_mem _ hy), List.any_cons, Bool.or_assoc]
/-- what a name stands for: the symbol that defines it -/
def numD (f : List (Int × TSym)) (n : ByteArray) : TDef × Int := match f.find? (fun x => dfn x.2) with
  | some x => (defV x.1 x.2, 0)
  | none => if (f.any fun x => x.2.f_Bind == 1) = true then (zeroD, 205) else (⟨n, -1, -2, 0, 0, 0⟩, 0)
theorem chosen_dfn {g : Gv} {k : Int} {s : TSym} {n : ByteArray} {b : Bool} (hs : g.s = none) (_hw : g.w = none) (hc : g.c = none) (h : dfn s = true) : chosenG { addV g k s with nd := b } n = (defV k s, 0) := by
  unfold addV
  by_cases hd : isDef s = true
  · rw [if_pos hd]
    by_cases hb : s.f_Bind = 1
    · rw [if_pos hb]; rfl
    · rw [if_neg hb]; unfold chosenG; simp only [hs, hc]
  · rw [if_neg hd]
    have h3 : s.f_Sec = -3 := by
      unfold dfn at h
      rw [Bool.or_eq_true] at h
      rcases h with h | h
      · exact absurd h hd
      · exact eq_of_beq h
    rw [if_pos h3]; unfold chosenG; simp only [hs]
theorem chosen_fold (f : List (Int × TSym)) (n : ByteArray) (h : f.Pairwise fun x y => dfn x.2 = true → dfn y.2 = false) : chosenG (foldV g0 f) n = numD f n := by
  unfold numD
  cases hf : f.find? (fun x => dfn x.2) with
  | none =>
    have hno := List.find?_eq_none.1 hf
    rw [foldV_no f g0 fun x hx => by have := hno x hx; simpa using this]
    show (if (false || f.any fun x => x.2.f_Bind == 1) = true then (zeroD, (205 : Int)) else (⟨n, -1, -2, 0, 0, 0⟩, 0)) = _
    rw [Bool.false_or]
  | some x =>
    obtain ⟨hx, a1, b1, rfl, ha⟩ := List.find?_eq_some_iff_append.1 hf
    have hb : ∀ y ∈ b1, dfn y.2 = false := fun y hy => (List.pairwise_cons.1 (List.pairwise_append.1 h).2.1).1 y hy hx
    have ha' : ∀ y ∈ a1, dfn y.2 = false := fun y hy => by have := ha y hy; simpa using this
    have e : foldV g0 (a1 ++ x :: b1) = foldV (addV (foldV g0 a1) x.1 x.2) b1 := by
      unfold foldV; rw [List.foldl_append]; rfl
    rw [e, foldV_no b1 _ hb, foldV_no a1 g0 ha']
    exact chosen_dfn rfl rfl rfl hx
theorem okAdd_pre {a : List (Int × TSym)} {s : TSym} (h : ∀ y ∈ a, cand s.f_Name y = true → dfn s = true → dfn y.2 = false) : OkAdd (lookG g0 (foldM [] a) s.f_Name) s := by
  by_cases hs : dfn s = true
  · rw [lookG_fold, foldV_no _ g0 fun y hy => by
      rw [List.mem_filter] at hy
      exact h y hy.1 hy.2 hs]
    exact ⟨fun _ _ => rfl, fun _ _ => rfl, fun _ _ => rfl⟩
  · obtain ⟨h1, h2⟩ := dfn_no (Bool.eq_false_iff.2 hs)
    exact ⟨fun h => by rw [h1] at h; exact absurd h (by simp), fun h => by rw [h1] at h; exact absurd h (by simp), fun _ h => absurd h h2⟩
theorem mem_from {x : Int × TSym} : ∀ {l : List TObj} {i : Nat}, x ∈ symsFrom i l ↔ ∃ (j : Nat) (o : TObj) (s : TSym), l[j]? = some o ∧ s ∈ o.f_Syms ∧ x = (((i + j : Nat) : Int), s)
  | [], i => by simp [symsFrom]
  | o :: r, i => by
    rw [symsFrom, List.mem_append, mem_from (l := r) (i := i + 1), List.mem_map]
    constructor
    · rintro (⟨s, hs, rfl⟩ | ⟨j, p, s, h1, h2, rfl⟩)
      · exact ⟨0, o, s, rfl, hs, rfl⟩
      · exact ⟨j + 1, p, s, by rw [List.getElem?_cons_succ]; exact h1, h2, by rw [show i + 1 + j = i + (j + 1) by omega]⟩
    · rintro ⟨j, p, s, h1, h2, rfl⟩
      cases j with
      | zero => simp at h1; subst h1; exact .inl ⟨s, h2, rfl⟩
      | succ j =>
        rw [List.getElem?_cons_succ] at h1
        exact .inr ⟨j, p, s, h1, h2, by rw [show i + 1 + j = i + (j + 1) by omega]⟩
/-- a name that is defined has no other definition -/
def HS (l : List TObj) : Prop := ∀ (i k j m : Nat) (o p : TObj) (s t : TSym), l[i]? = some o → o.f_Syms[k]? = some s → l[j]? = some p → p.f_Syms[m]? = some t → ¬ (i = j ∧ k = m) → s.f_Bind ≠ 0 → s.f_Sec ≠ -1 → s.f_Name = t.f_Name → t.f_Sec = -1
theorem dfn_sec {s : TSym} (h : dfn s = true) : s.f_Sec ≠ -1 := by
  intro e
  unfold dfn isDef at h
  rw [e] at h
  exact absurd h (by decide)
theorem sec_dfn {s : TSym} (h : s.f_Sec = -1) : dfn s = false := by
  cases hd : dfn s with
  | false => rfl
  | true => exact absurd h (dfn_sec hd)
def RR (x y : Int × TSym) : Prop := x.2.f_Bind ≠ 0 → x.2.f_Name = y.2.f_Name → dfn x.2 = true → dfn y.2 = false
theorem HS.tail {o : TObj} {r : List TObj} (h : HS (o :: r)) : HS r := fun i k j m p q s t h1 h2 h3 h4 h5 => h (i + 1) k (j + 1) m p q s t (by rw [List.getElem?_cons_succ]; exact h1) h2 (by rw [List.getElem?_cons_succ]; exact h3) h4 (by omega)
theorem pair_from : ∀ (l : List TObj) (i : Nat), HS l → (symsFrom i l).Pairwise RR
  | [], _, _ => .nil
  | o :: r, i, h => by
    rw [symsFrom, List.pairwise_append]
    refine ⟨?_, pair_from r (i + 1) h.tail, ?_⟩
    · rw [List.pairwise_map, List.pairwise_iff_getElem]
      intro a b ha hb hab h1 h2 h3
      exact sec_dfn (h 0 a 0 b o o _ _ rfl (List.getElem?_eq_getElem ha) rfl (List.getElem?_eq_getElem hb) (by omega) h1 (dfn_sec h3) h2)
    · intro x hx y hy h1 h2 h3
      obtain ⟨s, hs, rfl⟩ := List.mem_map.1 hx
      obtain ⟨j, p, t, g1, g2, rfl⟩ := mem_from.1 hy
      obtain ⟨k, hk⟩ := List.mem_iff_getElem?.1 hs
      obtain ⟨m, hm⟩ := List.mem_iff_getElem?.1 g2
      exact sec_dfn (h 0 k (j + 1) m o p s t rfl hk (by rw [List.getElem?_cons_succ]; exact g1) hm (by omega) h1 (dfn_sec h3) h2)
theorem rev_get {α : Type} {l : List α} {i : Nat} {o : α} (h : l.reverse[i]? = some o) : i < l.length ∧ l[l.length - 1 - i]? = some o := by
  have hi : i < l.length := by
    have := (List.getElem?_eq_some_iff.1 h).1
    simpa using this
  rw [List.getElem?_reverse hi] at h
  exact ⟨hi, h⟩
theorem HS.rev {l : List TObj} (h : HS l) : HS l.reverse := by
  intro i k j m o p s t h1 h2 h3 h4 h5
  obtain ⟨g1, g2⟩ := rev_get h1
  obtain ⟨g3, g4⟩ := rev_get h3
  exact h _ k _ m o p s t g2 h2 g4 h4 (by omega)
theorem pair_cand {q : List (Int × TSym)} (n : ByteArray) (h : q.Pairwise RR) : (q.filter (cand n)).Pairwise fun x y => dfn x.2 = true → dfn y.2 = false := by
  have := List.Pairwise.filter (p := cand n) h
  refine List.Pairwise.imp_of_mem ?_ this
  intro x y hx hy hr hd
  rw [List.mem_filter] at hx hy
  obtain ⟨h1, h2⟩ := cand_iff.1 hx.2
  obtain ⟨h3, h4⟩ := cand_iff.1 hy.2
  exact hr h1 (h2.trans h4.symm) hd
/-- the symbols of a name -/
def symsN (l : List TObj) (n : ByteArray) : List (Int × TSym) := (symsFrom 0 l).filter (cand n)
theorem chosen_syms {l : List TObj} (h : HS l) (n : ByteArray) : chosenG (lookG g0 (foldM [] (symsFrom 0 l)) n) n = numD (symsN l n) n := by
  rw [lookG_fold]
  exact chosen_fold _ _ (pair_cand n (pair_from l 0 h))
theorem mem_symsN {l : List TObj} {n : ByteArray} {x : Int × TSym} : x ∈ symsN l n ↔ ∃ (i : Nat) (o : TObj) (s : TSym), l[i]? = some o ∧ s ∈ o.f_Syms ∧ s.f_Bind ≠ 0 ∧ s.f_Name = n ∧ x = ((i : Int), s) := by
  unfold symsN
  rw [List.mem_filter, mem_from, cand_iff]
  constructor
  · rintro ⟨⟨i, o, s, h1, h2, rfl⟩, h3, h4⟩
    exact ⟨i, o, s, h1, h2, h3, h4, by rw [Nat.zero_add]⟩
  · rintro ⟨i, o, s, h1, h2, h3, h4, rfl⟩
    exact ⟨⟨i, o, s, h1, h2, by rw [Nat.zero_add]⟩, h3, h4⟩
theorem mem_rev {l : List TObj} {n : ByteArray} {i : Nat} {s : TSym} (hi : i < l.length) (h : ((i : Int), s) ∈ symsN l n) : (((l.length - 1 - i : Nat) : Int), s) ∈ symsN l.reverse n := by
  obtain ⟨j, o, t, h1, h2, h3, h4, h5⟩ := mem_symsN.1 h
  injection h5 with h5 h6
  have hj : i = j := by omega
  subst hj; subst h6
  refine mem_symsN.2 ⟨l.length - 1 - i, o, s, ?_, h2, h3, h4, rfl⟩
  rw [List.getElem?_reverse (by omega), show l.length - 1 - (l.length - 1 - i) = i by omega]
  exact h1
theorem mem_lt {l : List TObj} {n : ByteArray} {x : Int × TSym} (h : x ∈ symsN l n) : ∃ (i : Nat) (s : TSym), i < l.length ∧ x = ((i : Int), s) := by
  obtain ⟨j, o, t, h1, _, _, _, h5⟩ := mem_symsN.1 h
  exact ⟨j, t, (List.getElem?_eq_some_iff.1 h1).1, h5⟩
theorem uniq {l : List TObj} (h : HS l) {n : ByteArray} {x y : Int × TSym} (hx : x ∈ symsN l n) (hy : y ∈ symsN l n) (dx : dfn x.2 = true) (dy : dfn y.2 = true) : x = y := by
  obtain ⟨i, o, s, h1, h2, h3, h4, rfl⟩ := mem_symsN.1 hx
  obtain ⟨j, p, t, g1, g2, g3, g4, rfl⟩ := mem_symsN.1 hy
  obtain ⟨k, hk⟩ := List.mem_iff_getElem?.1 h2
  obtain ⟨m, hm⟩ := List.mem_iff_getElem?.1 g2
  by_cases e : i = j ∧ k = m
  · obtain ⟨rfl, rfl⟩ := e
    rw [h1] at g1; cases g1
    rw [hk] at hm; cases hm
    rfl
  · exact absurd (h i k j m o p s t h1 hk g1 hm e h3 (dfn_sec dx) (h4.trans g4.symm)) (dfn_sec dy)
/-- a definition's object, turned round as the law does -/
def backD (n : Int) (a b : TDef) : TDef := if a.f_Obj ≥ 0 ∧ b.f_Obj ≥ 0 then { b with f_Obj := n - 1 - b.f_Obj } else b
theorem backD_defV {n i : Nat} {s : TSym} (hi : i < n) : backD n (defV i s) (defV ((n - 1 - i : Nat) : Int) s) = defV i s := by
  unfold backD defV
  cases decide (s.f_Sec < 0)
  · simp only [cond_false]
    rw [if_pos (by omega)]
    congr 1
    omega
  · simp only [cond_true]
    rw [if_neg (by omega)]
theorem any_rev (l : List TObj) (n : ByteArray) : ((symsN l n).any fun x => x.2.f_Bind == 1) = true → ((symsN l.reverse n).any fun x => x.2.f_Bind == 1) = true := by
  intro h
  obtain ⟨x, hx, hb⟩ := List.any_eq_true.1 h
  obtain ⟨i, s, hi, rfl⟩ := mem_lt hx
  exact List.any_eq_true.2 ⟨_, mem_rev hi hx, hb⟩
theorem numD_rev {l : List TObj} (h : HS l) (n : ByteArray) : (numD (symsN l.reverse n) n).2 = (numD (symsN l n) n).2 ∧ ((numD (symsN l n) n).2 = 0 → backD l.length (numD (symsN l n) n).1 (numD (symsN l.reverse n) n).1 = (numD (symsN l n) n).1) := by
  have hr : l.reverse.reverse = l := List.reverse_reverse l
  have hl : l.reverse.length = l.length := List.length_reverse
  unfold numD
  cases hf : (symsN l n).find? (fun x => dfn x.2) with
  | some x =>
    have hx := List.mem_of_find?_eq_some hf
    have dx : dfn x.2 = true := by have := List.find?_some hf; simpa using this
    obtain ⟨i, s, hi, rfl⟩ := mem_lt hx
    have hy := mem_rev hi hx
    cases hf' : (symsN l.reverse n).find? (fun x => dfn x.2) with
    | none => exact absurd dx (by have := List.find?_eq_none.1 hf' _ hy; simpa using this)
    | some z =>
      have hz := List.mem_of_find?_eq_some hf'
      have dz : dfn z.2 = true := by have := List.find?_some hf'; simpa using this
      have := uniq h.rev hz hy dz dx
      subst this
      exact ⟨rfl, fun _ => backD_defV hi⟩
  | none =>
    cases hf' : (symsN l.reverse n).find? (fun x => dfn x.2) with
    | some z =>
      have hz := List.mem_of_find?_eq_some hf'
      have dz : dfn z.2 = true := by have := List.find?_some hf'; simpa using this
      obtain ⟨i, s, hi, rfl⟩ := mem_lt hz
      have := mem_rev hi hz
      rw [hr] at this
      exact absurd dz (by have := List.find?_eq_none.1 hf _ this; simpa using this)
    | none =>
      have e : ((symsN l.reverse n).any fun x => x.2.f_Bind == 1) = ((symsN l n).any fun x => x.2.f_Bind == 1) := by
        rw [Bool.eq_iff_iff]
        refine ⟨fun h => ?_, any_rev l n⟩
        have := any_rev l.reverse n h
        rwa [hr] at this
      rw [e]
      cases ((symsN l n).any fun x => x.2.f_Bind == 1) with
      | true => exact ⟨rfl, fun h => absurd (show (205 : Int) = 0 from h) (by decide)⟩
      | false => exact ⟨rfl, fun _ => rfl⟩
theorem numD_name {l : List TObj} {n : ByteArray} (h : (numD (symsN l n) n).2 = 0) : (numD (symsN l n) n).1.f_Name = n := by
  unfold numD at h ⊢
  cases hf : (symsN l n).find? (fun x => dfn x.2) with
  | some x =>
    obtain ⟨i, o, s, _, _, _, h4, rfl⟩ := mem_symsN.1 (List.mem_of_find?_eq_some hf)
    exact h4
  | none =>
    rw [hf] at h
    simp only at h ⊢
    split at h
    · exact absurd h (by decide)
    · rename_i hb
      rw [if_neg hb]
theorem numD_err (f : List (Int × TSym)) (n : ByteArray) : (numD f n).2 = 0 ∨ (numD f n).2 = 205 := by
  unfold numD
  split
  · exact .inl rfl
  · split
    · exact .inr rfl
    · exact .inl rfl
/-! the names -/
theorem fold_nodup : ∀ (q : List (Int × TSym)) (gs : List (ByteArray × Gv)), (gs.map (·.1)).Nodup → ((foldM gs q).map (·.1)).Nodup
  | [], _, h => h
  | x :: r, gs, h => by
    refine fold_nodup r (stepM gs x.1 x.2) ?_
    unfold stepM
    split
    · exact h
    · cases hl : lookO gs x.2.f_Name with
      | none =>
        rw [updG_no hl, List.map_append, List.nodup_append]
        refine ⟨h, by simp, fun a ha b hb e => ?_⟩
        simp at hb
        subst hb
        exact lookO_no hl (e ▸ ha)
      | some w =>
        have := congrArg (List.map (fun x : ByteArray × Unit => x.1)) (updG_map (s := x.2.f_Name) (v := addV (lookG g0 gs x.2.f_Name) x.1 x.2) (w := w) (fun _ : Gv => ()) rfl hl)
        simp only [List.map_map, Function.comp_def] at this
        rw [this]; exact h
theorem names_mem {q : List (Int × TSym)} {n : ByteArray} : n ∈ (foldM [] q).map (·.1) ↔ ∃ x ∈ q, cand n x = true := by
  rcases look_some q n with ⟨h1, h2⟩ | ⟨h1, h2⟩
  · refine ⟨fun h => absurd h (lookO_no h2), ?_⟩
    rintro ⟨x, hx, hc⟩
    have : x ∈ q.filter (cand n) := List.mem_filter.2 ⟨hx, hc⟩
    rw [h1] at this; cases this
  · refine ⟨fun _ => ?_, fun _ => List.mem_map.2 ⟨_, lookO_mem h2, rfl⟩⟩
    obtain ⟨x, hx⟩ := List.exists_mem_of_ne_nil _ h1
    rw [List.mem_filter] at hx
    exact ⟨x, hx.1, hx.2⟩
/-- the names of objects, in order -/
def namesL (l : List TObj) : List (List UInt8) := sortL (nmL (foldM [] (symsFrom 0 l)))
def bN (n : List UInt8) : ByteArray := ⟨n.toArray⟩
theorem bN_data (n : ByteArray) : bN n.data.toList = n := by cases n; simp [bN]
theorem bN_inj {a b : List UInt8} (h : bN a = bN b) : a = b := by
  have := congrArg (fun x : ByteArray => x.data.toList) h
  simpa [bN] using this
theorem nm_nodup {α : Type} {G : List (ByteArray × α)} (h : (G.map (·.1)).Nodup) : (nmL G).Nodup := by
  have e : nmL G = (G.map (·.1)).map fun n => n.data.toList := by unfold nmL; rw [List.map_map]; rfl
  rw [e]
  refine List.Pairwise.map _ (fun a b hab e => hab ?_) h
  rw [← bN_data a, ← bN_data b, e]
theorem namesL_nodup (l : List TObj) : (namesL l).Nodup := (sortL_perm _).nodup_iff.2 (nm_nodup (fold_nodup _ _ (by simp)))
theorem sortL_congr {a b : List (List UInt8)} (h : a.Perm b) : sortL a = sortL b := (sortL_eq (List.Perm.refl a)).symm.trans (sortL_eq h)
theorem namesL_mem {l : List TObj} {n : List UInt8} : n ∈ namesL l ↔ symsN l (bN n) ≠ [] := by
  unfold namesL
  rw [(sortL_perm _).mem_iff]
  unfold nmL
  have : n ∈ (foldM [] (symsFrom 0 l)).map (fun x => x.1.data.toList) ↔ bN n ∈ (foldM [] (symsFrom 0 l)).map (·.1) := by
    rw [List.mem_map, List.mem_map]
    constructor
    · rintro ⟨x, hx, rfl⟩; exact ⟨x, hx, (bN_data _).symm⟩
    · rintro ⟨x, hx, e⟩; exact ⟨x, hx, by rw [e]; simp [bN]⟩
  rw [this, names_mem]
  constructor
  · rintro ⟨x, hx, hc⟩ e
    have : x ∈ symsN l (bN n) := List.mem_filter.2 ⟨hx, hc⟩
    rw [e] at this; cases this
  · intro h
    obtain ⟨x, hx⟩ := List.exists_mem_of_ne_nil _ h
    obtain ⟨h1, h2⟩ := List.mem_filter.1 hx
    exact ⟨x, h1, h2⟩
theorem namesL_rev (l : List TObj) : namesL l.reverse = namesL l := by
  have key : ∀ (l : List TObj) (n : List UInt8), n ∈ namesL l → n ∈ namesL l.reverse := by
    intro l n h
    rw [namesL_mem] at h ⊢
    obtain ⟨x, hx⟩ := List.exists_mem_of_ne_nil _ h
    obtain ⟨i, s, hi, rfl⟩ := mem_lt hx
    intro e
    have := mem_rev hi hx
    rw [e] at this; cases this
  have hp : (namesL l.reverse).Perm (namesL l) := by
    rw [List.perm_ext_iff_of_nodup (namesL_nodup _) (namesL_nodup _)]
    intro n
    refine ⟨fun h => ?_, key l n⟩
    have := key l.reverse n h
    rwa [List.reverse_reverse] at this
  have h1 : (nmL (foldM [] (symsFrom 0 l.reverse))).Perm (nmL (foldM [] (symsFrom 0 l))) := ((sortL_perm _).symm.trans hp).trans (sortL_perm _)
  exact sortL_congr h1
end Go.DM
