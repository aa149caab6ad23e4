/- ResolveOrder: the law, by hand: its look at all pairs of symbols. No condition. -/
import Derived.Test.YtiidocaofjmomaaLawU
namespace Go.DM
open Go Go.Proofs Go.RowKit
set_option maxRecDepth 100000
/-- one pair of symbols is as the law wants it -/
def okP (l : List TObj) (i k j m : Nat) : Prop := ∀ (o p : TObj) (s t : TSym), l[i]? = some o → o.f_Syms[k]? = some s → l[j]? = some p → p.f_Syms[m]? = some t → ¬ (i = j ∧ k = m) → s.f_Bind ≠ 0 → s.f_Sec ≠ -1 → s.f_Name = t.f_Name → t.f_Sec = -1
theorem hs_of {l : List TObj} (h : ∀ i k j m, okP l i k j m) : HS l := fun i k j m o p s t => h i k j m o p s t
noncomputable def G1 (a : A) (n i : Nat) : Fr := ((((fr0.set 0 a).set 35 a).set 36 (vI n)).set 37 (vI i))
theorem G1_le {a : A} {n i : Nat} {ψ : Fr} (hd : ψ.ds = []) (e0 : ψ.s.get 0 = some a) (e35 : ψ.s.get 35 = some a) (e36 : ψ.s.get 36 = some (vI n)) (e37 : ψ.s.get 37 = some (vI i)) : (G1 a n i).le ψ := frS_le e37 (frS_le e36 (frS_le e35 (frS_le e0 (fr0_le hd))))
noncomputable def G2 (a : A) (n i : Nat) (aS : A) (m k : Nat) : Fr := ((((G1 a n i).set 3 (vI i)).set 43 aS).set 44 (vI m)).set 45 (vI k)
theorem G2_le {a : A} {n i : Nat} {aS : A} {m k : Nat} {ψ : Fr} (h : (G1 a n i).le ψ) (e3 : ψ.s.get 3 = some (vI i)) (e43 : ψ.s.get 43 = some aS) (e44 : ψ.s.get 44 = some (vI m)) (e45 : ψ.s.get 45 = some (vI k)) : (G2 a n i aS m k).le ψ := frS_le e45 (frS_le e44 (frS_le e43 (frS_le e3 h)))
noncomputable def G3 (a : A) (n i : Nat) (aS : A) (m k b6 j : Nat) : Fr := (((((G2 a n i aS m k).set 5 (vI k)).set 6 (.ptr b6 0)).set 58 a).set 59 (vI n)).set 60 (vI j)
theorem G3_le {a : A} {n i : Nat} {aS : A} {m k b6 j : Nat} {ψ : Fr} (h : (G2 a n i aS m k).le ψ) (e5 : ψ.s.get 5 = some (vI k)) (e6 : ψ.s.get 6 = some (.ptr b6 0)) (e58 : ψ.s.get 58 = some a) (e59 : ψ.s.get 59 = some (vI n)) (e60 : ψ.s.get 60 = some (vI j)) : (G3 a n i aS m k b6 j).le ψ := frS_le e60 (frS_le e59 (frS_le e58 (frS_le e6 (frS_le e5 h))))
noncomputable def G4 (a : A) (n i : Nat) (aS : A) (m k b6 j : Nat) (aT : A) (mT q : Nat) : Fr := ((((G3 a n i aS m k b6 j).set 7 (vI j)).set 66 aT).set 67 (vI mT)).set 68 (vI q)
theorem G4_le {a : A} {n i : Nat} {aS : A} {m k b6 j : Nat} {aT : A} {mT q : Nat} {ψ : Fr} (h : (G3 a n i aS m k b6 j).le ψ) (e7 : ψ.s.get 7 = some (vI j)) (e66 : ψ.s.get 66 = some aT) (e67 : ψ.s.get 67 = some (vI mT)) (e68 : ψ.s.get 68 = some (vI q)) : (G4 a n i aS m k b6 j aT mT q).le ψ := frS_le e68 (frS_le e67 (frS_le e66 (frS_le e7 h)))
noncomputable def cA1 : Code := subC [1,1,1,0,1] (bodyF Try.f3)
noncomputable def cA2 : Code := subC [1,1,1,0,1, 0,0,1,1,0, 0,1,1] (bodyF Try.f3)
noncomputable def cA3 : Code := subC [1,1,1,0,1, 0,0,1,1,0, 0,1,1, 0,0,1,1,0, 0,1,1,1] (bodyF Try.f3)
noncomputable def cA4 : Code := subC [1,1,1,0,1, 0,0,1,1,0, 0,1,1, 0,0,1,1,0, 0,1,1,1, 0,0,1,1,0, 0,1,1] (bodyF Try.f3)
theorem nm_ne {a b : ByteArray} (h : ¬ a = b) : ¬ a.toList = b.toList := by
  intro e
  apply h
  have h1 : (a.toList == b.toList) = true := by rw [e]; simp
  rw [seq_eq] at h1
  exact of_decide_eq_true h1
structure M4 (l : List TObj) (i k j b6 mT : Nat) (s : TSym) where
  m : Nat
  hm : m ≤ mT
  σ : St
  d6 : σ.blks.get b6 = some (.cells (symC s) 31)
  lt : b6 < σ.next
  inv : ∀ m' < m, okP l i k j m'
section
variable {l : List TObj} {n : Nat} {a aS : A} {cs : List A} {ap : Ap} {Q : X → Fr → St → Prop}
theorem chk4 {i k j m b6 : Nat} {aT : A} {o p : TObj} {s : TSym} (ho : l[i]? = some o) (hs : o.f_Syms[k]? = some s) (hp : l[j]? = some p) (hcT : Sl rTSym aT p.f_Syms) (hmT : p.f_Syms.length ≤ 2000000)
    (hret : ∀ φ σ', φ.ds = [] → φ.s.get 2 = some (vB true) → Q .ret φ σ')
    (h : ∀ σ', σ'.blks.get b6 = some (.cells (symC s) 31) → b6 < σ'.next → (∀ m, okP l i k j m) → Q .normal (G3 a n i aS m k b6 j) σ') (q : M4 l i k j b6 p.f_Syms.length s) :
    Ex cfgW 227 cA4 (G4 a n i aS m k b6 j aT p.f_Syms.length q.m) q.σ Q := by
  refine Ex.block (Ex.loop (fun q : M4 l i k j b6 p.f_Syms.length s => G4 a n i aS m k b6 j aT p.f_Syms.length q.m) (fun q => q.σ) (fun q => p.f_Syms.length - q.m) ?_ q)
  intro q
  refine Ex.seq (Ex.region ?_)
  refine ExO.val (x := vB (decide (((q.m : Nat) : Int) < ((p.f_Syms.length : Nat) : Int)))) rfl rfl rfl (ExO.nil ?_)
  refine Ex.seq (Ex.split (t := decide (((q.m : Nat) : Int) < ((p.f_Syms.length : Nat) : Int))) rfl (fun hlt => ?_) (fun hlt => ?_))
  case refine_2 =>
    have hk : q.m = p.f_Syms.length := by have := of_decide_eq_false hlt; have := q.hm; omega
    refine Ex.exitw (ψ := G3 a n i aS m k b6 j) (G3_le (G2_le (G1_le rfl rfl rfl rfl rfl) rfl rfl rfl rfl) rfl rfl rfl rfl rfl) ?_
    refine h _ q.d6 q.lt fun m' => ?_
    by_cases hm' : m' < q.m
    · exact q.inv m' hm'
    · intro o' p' s' t' g1 g2 g3 g4
      rw [hp] at g3; cases g3
      have := (List.getElem?_eq_some_iff.1 g4).1
      omega
  have hk : q.m < p.f_Syms.length := by have := of_decide_eq_true hlt; omega
  refine Ex.skip ?_
  rcases hcT with ⟨_, e⟩ | ⟨cs, ap, rfl, hc⟩
  · have e2 : p.f_Syms.length = 0 := congrArg List.length e
    exact absurd hk (by omega)
  have hlen : cs.length / 6 = p.f_Syms.length := by rw [hc.length]; exact Nat.mul_div_cancel _ (by decide)
  obtain ⟨c, hrc, hat⟩ := hc.at (i := q.m) (List.getElem?_eq_getElem hk)
  have hgt := List.getElem?_eq_getElem hk
  generalize p.f_Syms[q.m] = t at hrc hgt
  obtain rfl : c = symC t := hrc
  refine Ex.seq (Ex.block ?_)
  refine Ex.seq (Ex.region ?_)
  refine ExO.val (x := vI q.m) rfl rfl rfl ?_
  refine ExO.val rfl (op_atM (j := q.m) (sz := 6) rfl rfl rfl Try.underlying26 rfl (by decide) (by rw [hlen]; exact hk)) rfl ?_
  refine ExO.val (x := .agg (symC t)) rfl (op_load rfl rfl (load_at (i := _) hat rfl rfl rfl)) rfl ?_
  refine ExO.val (x := .ptr q.σ.next 0) (σ' := q.σ.push (.cells [vS (ByteArray.mk #[]), vI 0, vI 0, vI 0, vI 0, vI 0] 31)) rfl rfl rfl ?_
  refine ExO.val (x := vI q.m) rfl rfl rfl ?_
  refine ExO.skip rfl (op_storeM (cs' := symC t) rfl rfl rfl (push_getM _ _) rfl rfl rfl (Nat.le_refl _) rfl) rfl (ExO.nil ?_)
  have kp : Keep q.σ ((q.σ.push (.cells [vS (ByteArray.mk #[]), vI 0, vI 0, vI 0, vI 0, vI 0] 31)).put q.σ.next (.cells (symC t) 31)) := (Keep.push _ _).putNew _ (Nat.le_refl _)
  have d10 : ((q.σ.push (.cells [vS (ByteArray.mk #[]), vI 0, vI 0, vI 0, vI 0, vI 0] 31)).put q.σ.next (.cells (symC t) 31)).blks.get q.σ.next = some (.cells (symC t) 31) := put_getM _ _ _
  generalize (q.σ.push (.cells [vS (ByteArray.mk #[]), vI 0, vI 0, vI 0, vI 0, vI 0] 31)).put q.σ.next (.cells (symC t) 31) = σ2 at kp d10 ⊢
  have d6 := (kp.get b6 q.lt).trans q.d6
  have hlt6 : b6 < σ2.next := Nat.lt_of_lt_of_le q.lt kp.next
  have fin : okP l i k j q.m → Ex cfgW 227 (subC [0,0,1,1,1] cA4) (G4 a n i aS m k b6 j (.sl 6 cs ap) p.f_Syms.length q.m) σ2 (Then (fun φ' σ' => ∃ j_1 : M4 l i k j b6 p.f_Syms.length s, p.f_Syms.length - j_1.m < p.f_Syms.length - q.m ∧ (G4 a n i aS m k b6 j (.sl 6 cs ap) p.f_Syms.length j_1.m).le φ' ∧ σ' = j_1.σ) (Blk' 6 Q)) := by
    intro hok
    refine Ex.region ?_
    refine ExO.val (x := vI ((q.m + 1 : Nat) : Int)) rfl (val_int rfl (add_oneM (n := q.m) (by omega))) rfl (ExO.val (x := vI ((q.m + 1 : Nat) : Int)) rfl rfl rfl (ExO.nil ?_))
    refine ⟨⟨q.m + 1, hk, σ2, d6, hlt6, fun m' hm' => ?_⟩, by show p.f_Syms.length - (q.m + 1) < p.f_Syms.length - q.m; omega, G4_le (G3_le (G2_le (G1_le rfl rfl rfl rfl rfl) rfl rfl rfl rfl) rfl rfl rfl rfl rfl) rfl rfl rfl rfl, rfl⟩
    by_cases e : m' = q.m
    · rw [e]; exact hok
    · exact q.inv m' (by omega)
  have same : ∀ o' p' s' t', l[i]? = some o' → o'.f_Syms[k]? = some s' → l[j]? = some p' → p'.f_Syms[q.m]? = some t' → s' = s ∧ t' = t := by
    intro o' p' s' t' g1 g2 g3 g4
    rw [ho] at g1; cases g1
    rw [hs] at g2; cases g2
    rw [hp] at g3; cases g3
    rw [hgt] at g4; cases g4
    exact ⟨rfl, rfl⟩
  refine Ex.seq (Ex.region ?_)
  refine ExO.val (x := vI i) rfl rfl rfl (ExO.val (x := vI j) rfl rfl rfl ?_)
  by_cases hij : i = j
  · refine ExO.val (x := vB false) rfl (val_bl rfl (by simp [hij])) rfl (ExO.val (x := vB false) rfl rfl rfl ?_)
    refine ExO.val (x := vI k) rfl rfl rfl (ExO.val (x := vI q.m) rfl rfl rfl ?_)
    by_cases hkm : k = q.m
    · refine ExO.val (x := vB false) rfl (val_bl rfl (by simp [hkm])) rfl (ExO.val (x := vB false) rfl rfl rfl (ExO.val (x := vB false) rfl rfl rfl ?_))
      refine ExO.off rfl rfl (ExO.off rfl rfl (ExO.off rfl rfl (ExO.off rfl rfl (ExO.off rfl rfl ?_))))
      refine ExO.val (x := vB false) rfl rfl rfl (ExO.val (x := vB false) rfl rfl rfl ?_)
      refine ExO.off rfl rfl (ExO.off rfl rfl (ExO.off rfl rfl ?_))
      refine ExO.val (x := vB false) rfl rfl rfl (ExO.nil ?_)
      refine Ex.cond (t := false) rfl (Ex.skipw (ψ := G4 a n i aS m k b6 j (.sl 6 cs ap) p.f_Syms.length q.m) (G4_le (G3_le (G2_le (G1_le rfl rfl rfl rfl rfl) rfl rfl rfl rfl) rfl rfl rfl rfl rfl) rfl rfl rfl rfl) ?_)
      exact fin fun _ _ _ _ _ _ _ _ g => absurd ⟨hij, hkm⟩ g
    · refine ExO.val (x := vB true) rfl (val_bl rfl (by simp; omega)) rfl (ExO.val (x := vB true) rfl rfl rfl (ExO.val (x := vB true) rfl rfl rfl ?_))
      refine ExO.val (x := .ptr b6 0) rfl rfl rfl (ExO.val (x := vS s.f_Name) rfl (op_loadM rfl rfl d6 rfl) rfl (ExO.val (x := .ptr q.σ.next 0) rfl rfl rfl (ExO.val (x := vS t.f_Name) rfl (op_loadM rfl rfl d10 rfl) rfl ?_)))
      by_cases hnm : s.f_Name = t.f_Name
      · refine ExO.val (x := vB true) rfl (val_bl rfl (by simp [hnm])) rfl (ExO.val (x := vB true) rfl rfl rfl (ExO.val (x := vB true) rfl rfl rfl ?_))
        refine ExO.val (x := .ptr q.σ.next 3) rfl rfl rfl (ExO.val (x := vI t.f_Sec) rfl (op_loadM rfl rfl d10 rfl) rfl ?_)
        by_cases hse : t.f_Sec = -1
        · refine ExO.val (x := vB false) rfl (val_bl rfl (by simp [hse])) rfl (ExO.val (x := vB false) rfl rfl rfl (ExO.nil ?_))
          refine Ex.cond (t := false) rfl (Ex.skipw (ψ := G4 a n i aS m k b6 j (.sl 6 cs ap) p.f_Syms.length q.m) (G4_le (G3_le (G2_le (G1_le rfl rfl rfl rfl rfl) rfl rfl rfl rfl) rfl rfl rfl rfl rfl) rfl rfl rfl rfl) ?_)
          refine fin fun o' p' s' t' g1 g2 g3 g4 _ _ _ _ => ?_
          obtain ⟨_, rfl⟩ := same o' p' s' t' g1 g2 g3 g4
          exact hse
        · refine ExO.val (x := vB true) rfl (val_bl rfl (by simp [hse])) rfl (ExO.val (x := vB true) rfl rfl rfl (ExO.nil ?_))
          refine Ex.cond (t := true) rfl (Ex.seq (Ex.region (ExO.val (x := vB true) rfl rfl rfl (ExO.nil (Ex.ret ?_)))))
          exact hret _ _ rfl rfl
      · refine ExO.val (x := vB false) rfl (val_bl rfl (by simp [nm_ne hnm])) rfl (ExO.val (x := vB false) rfl rfl rfl (ExO.val (x := vB false) rfl rfl rfl ?_))
        refine ExO.off rfl rfl (ExO.off rfl rfl (ExO.off rfl rfl ?_))
        refine ExO.val (x := vB false) rfl rfl rfl (ExO.nil ?_)
        refine Ex.cond (t := false) rfl (Ex.skipw (ψ := G4 a n i aS m k b6 j (.sl 6 cs ap) p.f_Syms.length q.m) (G4_le (G3_le (G2_le (G1_le rfl rfl rfl rfl rfl) rfl rfl rfl rfl) rfl rfl rfl rfl rfl) rfl rfl rfl rfl) ?_)
        refine fin fun o' p' s' t' g1 g2 g3 g4 _ _ _ g => ?_
        obtain ⟨rfl, rfl⟩ := same o' p' s' t' g1 g2 g3 g4
        exact absurd g hnm
  · refine ExO.val (x := vB true) rfl (val_bl rfl (by simp; omega)) rfl (ExO.val (x := vB true) rfl rfl rfl ?_)
    refine ExO.off rfl rfl (ExO.off rfl rfl (ExO.off rfl rfl ?_))
    refine ExO.val (x := vB true) rfl rfl rfl (ExO.val (x := vB true) rfl rfl rfl ?_)
    refine ExO.val (x := .ptr b6 0) rfl rfl rfl (ExO.val (x := vS s.f_Name) rfl (op_loadM rfl rfl d6 rfl) rfl (ExO.val (x := .ptr q.σ.next 0) rfl rfl rfl (ExO.val (x := vS t.f_Name) rfl (op_loadM rfl rfl d10 rfl) rfl ?_)))
    by_cases hnm : s.f_Name = t.f_Name
    · refine ExO.val (x := vB true) rfl (val_bl rfl (by simp [hnm])) rfl (ExO.val (x := vB true) rfl rfl rfl (ExO.val (x := vB true) rfl rfl rfl ?_))
      refine ExO.val (x := .ptr q.σ.next 3) rfl rfl rfl (ExO.val (x := vI t.f_Sec) rfl (op_loadM rfl rfl d10 rfl) rfl ?_)
      by_cases hse : t.f_Sec = -1
      · refine ExO.val (x := vB false) rfl (val_bl rfl (by simp [hse])) rfl (ExO.val (x := vB false) rfl rfl rfl (ExO.nil ?_))
        refine Ex.cond (t := false) rfl (Ex.skipw (ψ := G4 a n i aS m k b6 j (.sl 6 cs ap) p.f_Syms.length q.m) (G4_le (G3_le (G2_le (G1_le rfl rfl rfl rfl rfl) rfl rfl rfl rfl) rfl rfl rfl rfl rfl) rfl rfl rfl rfl) ?_)
        refine fin fun o' p' s' t' g1 g2 g3 g4 _ _ _ _ => ?_
        obtain ⟨_, rfl⟩ := same o' p' s' t' g1 g2 g3 g4
        exact hse
      · refine ExO.val (x := vB true) rfl (val_bl rfl (by simp [hse])) rfl (ExO.val (x := vB true) rfl rfl rfl (ExO.nil ?_))
        refine Ex.cond (t := true) rfl (Ex.seq (Ex.region (ExO.val (x := vB true) rfl rfl rfl (ExO.nil (Ex.ret ?_)))))
        exact hret _ _ rfl rfl
    · refine ExO.val (x := vB false) rfl (val_bl rfl (by simp [nm_ne hnm])) rfl (ExO.val (x := vB false) rfl rfl rfl (ExO.val (x := vB false) rfl rfl rfl ?_))
      refine ExO.off rfl rfl (ExO.off rfl rfl (ExO.off rfl rfl ?_))
      refine ExO.val (x := vB false) rfl rfl rfl (ExO.nil ?_)
      refine Ex.cond (t := false) rfl (Ex.skipw (ψ := G4 a n i aS m k b6 j (.sl 6 cs ap) p.f_Syms.length q.m) (G4_le (G3_le (G2_le (G1_le rfl rfl rfl rfl rfl) rfl rfl rfl rfl) rfl rfl rfl rfl rfl) rfl rfl rfl rfl) ?_)
      refine fin fun o' p' s' t' g1 g2 g3 g4 _ _ _ g => ?_
      obtain ⟨rfl, rfl⟩ := same o' p' s' t' g1 g2 g3 g4
      exact absurd g hnm
end
end Go.DM
namespace Go.DM
open Go Go.Proofs Go.RowKit
set_option maxRecDepth 100000
structure M3 (l : List TObj) (i k b6 : Nat) (s : TSym) where
  j : Nat
  hj : j ≤ l.length
  σ : St
  d6 : σ.blks.get b6 = some (.cells (symC s) 31)
  lt : b6 < σ.next
  inv : ∀ j' < j, ∀ m, okP l i k j' m
structure M2 (l : List TObj) (i mS : Nat) where
  k : Nat
  hk : k ≤ mS
  σ : St
  inv : ∀ k' < k, ∀ j m, okP l i k' j m
structure M1 (l : List TObj) where
  i : Nat
  hi : i ≤ l.length
  σ : St
  inv : ∀ i' < i, ∀ k j m, okP l i' k j m
section
variable {l : List TObj} {aS : A} {cs : List A} {ap : Ap} {Q : X → Fr → St → Prop}
theorem chk3 (hc : Cells rTObj cs l) (hl : l.length ≤ 2000000) (hsy : ∀ o ∈ l, o.f_Syms.length ≤ 2000000) {i k m b6 : Nat} {o : TObj} {s : TSym} (ho : l[i]? = some o) (hs : o.f_Syms[k]? = some s)
    (hret : ∀ φ σ', φ.ds = [] → φ.s.get 2 = some (vB true) → Q .ret φ σ')
    (h : ∀ σ', (∀ j m, okP l i k j m) → Q .normal (G2 (.sl 4 cs ap) l.length i aS m k) σ') (q : M3 l i k b6 s) :
    Ex cfgW 227 cA3 (G3 (.sl 4 cs ap) l.length i aS m k b6 q.j) q.σ Q := by
  have hlen : cs.length / 4 = l.length := by rw [hc.length]; exact Nat.mul_div_cancel _ (by decide)
  refine Ex.block (Ex.loop (fun q : M3 l i k b6 s => G3 (.sl 4 cs ap) l.length i aS m k b6 q.j) (fun q => q.σ) (fun q => l.length - q.j) ?_ q)
  intro q
  refine Ex.seq (Ex.region ?_)
  refine ExO.val (x := vB (decide (((q.j : Nat) : Int) < ((l.length : Nat) : Int)))) rfl rfl rfl (ExO.nil ?_)
  refine Ex.seq (Ex.split (t := decide (((q.j : Nat) : Int) < ((l.length : Nat) : Int))) rfl (fun hlt => ?_) (fun hlt => ?_))
  case refine_2 =>
    have hk : q.j = l.length := by have := of_decide_eq_false hlt; have := q.hj; omega
    refine Ex.exitw (ψ := G2 (.sl 4 cs ap) l.length i aS m k) (G2_le (G1_le rfl rfl rfl rfl rfl) rfl rfl rfl rfl) ?_
    refine h _ fun j' m' => ?_
    by_cases hj' : j' < q.j
    · exact q.inv j' hj' m'
    · intro o' p' s' t' g1 g2 g3 g4
      have := (List.getElem?_eq_some_iff.1 g3).1
      omega
  have hj : q.j < l.length := by have := of_decide_eq_true hlt; omega
  refine Ex.skip ?_
  obtain ⟨c, hrc, hat⟩ := hc.at (i := q.j) (List.getElem?_eq_getElem hj)
  have hgp := List.getElem?_eq_getElem hj
  have hpm := hsy _ (List.getElem_mem hj)
  generalize l[q.j] = p at hrc hgp hpm
  have hrc' := hrc
  obtain ⟨a0, aT, a2, rfl, g0', g1, g2⟩ := hrc
  refine Ex.seq (Ex.block ?_)
  refine Ex.seq (Ex.region ?_)
  refine ExO.val (x := vI q.j) rfl rfl rfl ?_
  refine ExO.val rfl (op_atM (j := q.j) (sz := 4) rfl rfl rfl Try.underlying22 rfl (by decide) (by rw [hlen]; exact hj)) rfl ?_
  refine ExO.val (x := .agg [vI p.f_Machine, a0, aT, a2]) rfl (op_load rfl rfl (load_at (i := _) hat rfl rfl rfl)) rfl ?_
  refine ExO.val (x := .ptr q.σ.next 0) (σ' := q.σ.push (.cells [vI 0, nilS, nilS, nilS] 29)) rfl rfl rfl (ExO.val (x := vI q.j) rfl rfl rfl ?_)
  refine ExO.skip rfl (op_storeM (cs' := [vI p.f_Machine, a0, aT, a2]) rfl rfl rfl (push_getM _ _) rfl rfl (rTObj.one _ _ hrc') (Nat.le_refl _) rfl) rfl (ExO.nil ?_)
  have kp : Keep q.σ ((q.σ.push (.cells [vI 0, nilS, nilS, nilS] 29)).put q.σ.next (.cells [vI p.f_Machine, a0, aT, a2] 29)) := (Keep.push _ _).putNew _ (Nat.le_refl _)
  have d8 : ((q.σ.push (.cells [vI 0, nilS, nilS, nilS] 29)).put q.σ.next (.cells [vI p.f_Machine, a0, aT, a2] 29)).blks.get q.σ.next = some (.cells [vI p.f_Machine, a0, aT, a2] 29) := put_getM _ _ _
  generalize (q.σ.push (.cells [vI 0, nilS, nilS, nilS] 29)).put q.σ.next (.cells [vI p.f_Machine, a0, aT, a2] 29) = σ2 at kp d8 ⊢
  refine Ex.seq (Ex.region ?_)
  refine ExO.val (x := .ptr q.σ.next 2) rfl rfl rfl (ExO.val (x := aT) rfl (op_loadM rfl rfl d8 rfl) rfl ?_)
  refine ExO.val (x := vI p.f_Syms.length) (σ' := σ2) rfl ?_ rfl (ExO.val (x := vI (0 : Nat)) rfl rfl rfl (ExO.nil ?_))
  · rcases g1 with ⟨rfl, e⟩ | ⟨cS, apS, rfl, hcS⟩
    · rw [e]; exact op_lenNil rfl rfl rfl rfl rfl Try.underlying26
    · exact op_lenM rfl rfl rfl rfl rfl Try.underlying26 (by rw [hcS.length]; exact Nat.mul_div_cancel _ (by decide))
  refine Ex.up (G4_le (G3_le (G2_le (G1_le rfl rfl rfl rfl rfl) rfl rfl rfl rfl) rfl rfl rfl rfl rfl) rfl rfl rfl rfl) (chk4 ho hs hgp g1 hpm (fun φ σ' h1 h2 => ?_) (fun σ' hd hl' hok => ?_) ⟨0, Nat.zero_le _, σ2, (kp.get b6 q.lt).trans q.d6, Nat.lt_of_lt_of_le q.lt kp.next, fun m' hm' => absurd hm' (Nat.not_lt_zero _)⟩)
  · exact hret φ σ' h1 h2
  refine Ex.region ?_
  refine ExO.val (x := vI ((q.j + 1 : Nat) : Int)) rfl (val_int rfl (add_oneM (n := q.j) (by omega))) rfl (ExO.val (x := vI ((q.j + 1 : Nat) : Int)) rfl rfl rfl (ExO.nil ?_))
  refine ⟨⟨q.j + 1, hj, σ', hd, hl', fun j' hj' => ?_⟩, by show l.length - (q.j + 1) < l.length - q.j; omega, G3_le (G2_le (G1_le rfl rfl rfl rfl rfl) rfl rfl rfl rfl) rfl rfl rfl rfl rfl, rfl⟩
  by_cases e : j' = q.j
  · rw [e]; exact hok
  · exact q.inv j' (by omega)
theorem chk2 (hc : Cells rTObj cs l) (hl : l.length ≤ 2000000) (hsy : ∀ o ∈ l, o.f_Syms.length ≤ 2000000) {i : Nat} {o : TObj} (ho : l[i]? = some o) (hcS : Sl rTSym aS o.f_Syms)
    (hret : ∀ φ σ', φ.ds = [] → φ.s.get 2 = some (vB true) → Q .ret φ σ')
    (h : ∀ σ', (∀ k j m, okP l i k j m) → Q .normal (G1 (.sl 4 cs ap) l.length i) σ') (q : M2 l i o.f_Syms.length) :
    Ex cfgW 227 cA2 (G2 (.sl 4 cs ap) l.length i aS o.f_Syms.length q.k) q.σ Q := by
  have hom := hsy _ (List.mem_of_getElem? ho)
  refine Ex.block (Ex.loop (fun q : M2 l i o.f_Syms.length => G2 (.sl 4 cs ap) l.length i aS o.f_Syms.length q.k) (fun q => q.σ) (fun q => o.f_Syms.length - q.k) ?_ q)
  intro q
  refine Ex.seq (Ex.region ?_)
  refine ExO.val (x := vB (decide (((q.k : Nat) : Int) < ((o.f_Syms.length : Nat) : Int)))) rfl rfl rfl (ExO.nil ?_)
  refine Ex.seq (Ex.split (t := decide (((q.k : Nat) : Int) < ((o.f_Syms.length : Nat) : Int))) rfl (fun hlt => ?_) (fun hlt => ?_))
  case refine_2 =>
    have hk : q.k = o.f_Syms.length := by have := of_decide_eq_false hlt; have := q.hk; omega
    refine Ex.exitw (ψ := G1 (.sl 4 cs ap) l.length i) (G1_le rfl rfl rfl rfl rfl) ?_
    refine h _ fun k' j' m' => ?_
    by_cases hk' : k' < q.k
    · exact q.inv k' hk' j' m'
    · intro o' p' s' t' g1 g2 g3 g4
      rw [ho] at g1; cases g1
      have := (List.getElem?_eq_some_iff.1 g2).1
      omega
  have hk : q.k < o.f_Syms.length := by have := of_decide_eq_true hlt; omega
  refine Ex.skip ?_
  rcases hcS with ⟨_, e⟩ | ⟨cS, apS, rfl, hcS⟩
  · have e2 : o.f_Syms.length = 0 := congrArg List.length e
    exact absurd hk (by omega)
  have hlenS : cS.length / 6 = o.f_Syms.length := by rw [hcS.length]; exact Nat.mul_div_cancel _ (by decide)
  obtain ⟨c, hrc, hat⟩ := hcS.at (i := q.k) (List.getElem?_eq_getElem hk)
  have hgs := List.getElem?_eq_getElem hk
  generalize o.f_Syms[q.k] = s at hrc hgs
  obtain rfl : c = symC s := hrc
  refine Ex.seq (Ex.block ?_)
  refine Ex.seq (Ex.region ?_)
  refine ExO.val (x := vI q.k) rfl rfl rfl ?_
  refine ExO.val rfl (op_atM (j := q.k) (sz := 6) rfl rfl rfl Try.underlying26 rfl (by decide) (by rw [hlenS]; exact hk)) rfl ?_
  refine ExO.val (x := .agg (symC s)) rfl (op_load rfl rfl (load_at (i := _) hat rfl rfl rfl)) rfl ?_
  refine ExO.val (x := .ptr q.σ.next 0) (σ' := q.σ.push (.cells [vS (ByteArray.mk #[]), vI 0, vI 0, vI 0, vI 0, vI 0] 31)) rfl rfl rfl ?_
  refine ExO.val (x := vI q.k) rfl rfl rfl ?_
  refine ExO.skip rfl (op_storeM (cs' := symC s) rfl rfl rfl (push_getM _ _) rfl rfl rfl (Nat.le_refl _) rfl) rfl (ExO.nil ?_)
  have kp : Keep q.σ ((q.σ.push (.cells [vS (ByteArray.mk #[]), vI 0, vI 0, vI 0, vI 0, vI 0] 31)).put q.σ.next (.cells (symC s) 31)) := (Keep.push _ _).putNew _ (Nat.le_refl _)
  have d6 : ((q.σ.push (.cells [vS (ByteArray.mk #[]), vI 0, vI 0, vI 0, vI 0, vI 0] 31)).put q.σ.next (.cells (symC s) 31)).blks.get q.σ.next = some (.cells (symC s) 31) := put_getM _ _ _
  have n6 : q.σ.next < ((q.σ.push (.cells [vS (ByteArray.mk #[]), vI 0, vI 0, vI 0, vI 0, vI 0] 31)).put q.σ.next (.cells (symC s) 31)).next := Nat.lt_succ_self _
  generalize (q.σ.push (.cells [vS (ByteArray.mk #[]), vI 0, vI 0, vI 0, vI 0, vI 0] 31)).put q.σ.next (.cells (symC s) 31) = σ2 at kp d6 n6 ⊢
  have fin : ∀ σ' : St, (∀ j m, okP l i q.k j m) → Ex cfgW 227 (subC [0,0,1,1,1] cA2) (G2 (.sl 4 cs ap) l.length i (.sl 6 cS apS) o.f_Syms.length q.k) σ' (Then (fun φ' σ' => ∃ j_1 : M2 l i o.f_Syms.length, o.f_Syms.length - j_1.k < o.f_Syms.length - q.k ∧ (G2 (.sl 4 cs ap) l.length i (.sl 6 cS apS) o.f_Syms.length j_1.k).le φ' ∧ σ' = j_1.σ) (Blk' 2 Q)) := by
    intro σ' hok
    refine Ex.region ?_
    refine ExO.val (x := vI ((q.k + 1 : Nat) : Int)) rfl (val_int rfl (add_oneM (n := q.k) (by omega))) rfl (ExO.val (x := vI ((q.k + 1 : Nat) : Int)) rfl rfl rfl (ExO.nil ?_))
    refine ⟨⟨q.k + 1, hk, σ', fun k' hk' => ?_⟩, by show o.f_Syms.length - (q.k + 1) < o.f_Syms.length - q.k; omega, G2_le (G1_le rfl rfl rfl rfl rfl) rfl rfl rfl rfl, rfl⟩
    by_cases e : k' = q.k
    · rw [e]; exact hok
    · exact q.inv k' (by omega)
  have vac : (s.f_Sec = -1 ∨ s.f_Bind = 0) → ∀ j m, okP l i q.k j m := by
    intro hv j m o' p' s' t' g1 g2 g3 g4 g5 g6 g7
    rw [ho] at g1; cases g1
    rw [hgs] at g2; cases g2
    rcases hv with hv | hv
    · exact absurd hv g7
    · exact absurd hv g6
  refine Ex.seq (Ex.seq (Ex.region ?_))
  refine ExO.val (x := .ptr q.σ.next 3) rfl rfl rfl (ExO.val (x := vI s.f_Sec) rfl (op_loadM rfl rfl d6 rfl) rfl ?_)
  by_cases hsec : s.f_Sec = -1
  · refine ExO.val (x := vB true) rfl (val_bl rfl (by simp [hsec])) rfl (ExO.val (x := vB true) rfl rfl rfl ?_)
    refine ExO.off rfl rfl (ExO.off rfl rfl (ExO.off rfl rfl ?_))
    refine ExO.val (x := vB true) rfl rfl rfl (ExO.nil ?_)
    refine Ex.cond (t := true) rfl (Ex.exitw (ψ := G2 (.sl 4 cs ap) l.length i (.sl 6 cS apS) o.f_Syms.length q.k) (G2_le (G1_le rfl rfl rfl rfl rfl) rfl rfl rfl rfl) ?_)
    exact fin σ2 (vac (.inl hsec))
  refine ExO.val (x := vB false) rfl (val_bl rfl (by simp [hsec])) rfl (ExO.val (x := vB false) rfl rfl rfl ?_)
  refine ExO.val (x := .ptr q.σ.next 1) rfl rfl rfl (ExO.val (x := vI s.f_Bind) rfl (op_loadM rfl rfl d6 rfl) rfl ?_)
  by_cases hbd : s.f_Bind = 0
  · refine ExO.val (x := vB true) rfl (val_bl rfl (by simp [hbd])) rfl (ExO.val (x := vB true) rfl rfl rfl (ExO.nil ?_))
    refine Ex.cond (t := true) rfl (Ex.exitw (ψ := G2 (.sl 4 cs ap) l.length i (.sl 6 cS apS) o.f_Syms.length q.k) (G2_le (G1_le rfl rfl rfl rfl rfl) rfl rfl rfl rfl) ?_)
    exact fin σ2 (vac (.inr hbd))
  refine ExO.val (x := vB false) rfl (val_bl rfl (by simp [hbd])) rfl (ExO.val (x := vB false) rfl rfl rfl (ExO.nil ?_))
  refine Ex.cond (t := false) rfl (Ex.skip ?_)
  have hlen : cs.length / 4 = l.length := by rw [hc.length]; exact Nat.mul_div_cancel _ (by decide)
  refine Ex.seq (Ex.region ?_)
  refine ExO.val (x := .sl 4 cs ap) rfl rfl rfl (ExO.val (x := vI (l.length : Nat)) rfl (op_lenM rfl rfl rfl rfl rfl Try.underlying22 hlen) rfl (ExO.val (x := vI (0 : Nat)) rfl rfl rfl (ExO.nil ?_)))
  refine Ex.up (G3_le (G2_le (G1_le rfl rfl rfl rfl rfl) rfl rfl rfl rfl) rfl rfl rfl rfl rfl) (chk3 hc hl hsy ho hgs (fun φ σ' h1 h2 => ?_) (fun σ' hok => ?_) ⟨0, Nat.zero_le _, σ2, d6, n6, fun j' hj' => absurd hj' (Nat.not_lt_zero _)⟩)
  · exact hret φ σ' h1 h2
  exact fin σ' hok
theorem chk1 (hc : Cells rTObj cs l) (hl : l.length ≤ 2000000) (hsy : ∀ o ∈ l, o.f_Syms.length ≤ 2000000)
    (hret : ∀ φ σ', φ.ds = [] → φ.s.get 2 = some (vB true) → Q .ret φ σ')
    (h : ∀ σ', HS l → Q .normal (fr0.set 0 (.sl 4 cs ap)) σ') (q : M1 l) :
    Ex cfgW 227 cA1 (G1 (.sl 4 cs ap) l.length q.i) q.σ Q := by
  have hlen : cs.length / 4 = l.length := by rw [hc.length]; exact Nat.mul_div_cancel _ (by decide)
  refine Ex.block (Ex.loop (fun q : M1 l => G1 (.sl 4 cs ap) l.length q.i) (fun q => q.σ) (fun q => l.length - q.i) ?_ q)
  intro q
  refine Ex.seq (Ex.region ?_)
  refine ExO.val (x := vB (decide (((q.i : Nat) : Int) < ((l.length : Nat) : Int)))) rfl rfl rfl (ExO.nil ?_)
  refine Ex.seq (Ex.split (t := decide (((q.i : Nat) : Int) < ((l.length : Nat) : Int))) rfl (fun hlt => ?_) (fun hlt => ?_))
  case refine_2 =>
    have hk : q.i = l.length := by have := of_decide_eq_false hlt; have := q.hi; omega
    refine Ex.exitw (ψ := fr0.set 0 (.sl 4 cs ap)) (frS_le rfl (fr0_le rfl)) ?_
    refine h _ (hs_of fun i' k' j' m' => ?_)
    by_cases hi' : i' < q.i
    · exact q.inv i' hi' k' j' m'
    · intro o' p' s' t' g1 g2 g3 g4
      have := (List.getElem?_eq_some_iff.1 g1).1
      omega
  have hi : q.i < l.length := by have := of_decide_eq_true hlt; omega
  refine Ex.skip ?_
  obtain ⟨c, hrc, hat⟩ := hc.at (i := q.i) (List.getElem?_eq_getElem hi)
  have hgo := List.getElem?_eq_getElem hi
  generalize l[q.i] = o at hrc hgo
  have hrc' := hrc
  obtain ⟨a0, aS, a2, rfl, g0', g1, g2⟩ := hrc
  refine Ex.seq (Ex.block ?_)
  refine Ex.seq (Ex.region ?_)
  refine ExO.val (x := vI q.i) rfl rfl rfl ?_
  refine ExO.val rfl (op_atM (j := q.i) (sz := 4) rfl rfl rfl Try.underlying22 rfl (by decide) (by rw [hlen]; exact hi)) rfl ?_
  refine ExO.val (x := .agg [vI o.f_Machine, a0, aS, a2]) rfl (op_load rfl rfl (load_at (i := _) hat rfl rfl rfl)) rfl ?_
  refine ExO.val (x := .ptr q.σ.next 0) (σ' := q.σ.push (.cells [vI 0, nilS, nilS, nilS] 29)) rfl rfl rfl (ExO.val (x := vI q.i) rfl rfl rfl ?_)
  refine ExO.skip rfl (op_storeM (cs' := [vI o.f_Machine, a0, aS, a2]) rfl rfl rfl (push_getM _ _) rfl rfl (rTObj.one _ _ hrc') (Nat.le_refl _) rfl) rfl (ExO.nil ?_)
  have d4 : ((q.σ.push (.cells [vI 0, nilS, nilS, nilS] 29)).put q.σ.next (.cells [vI o.f_Machine, a0, aS, a2] 29)).blks.get q.σ.next = some (.cells [vI o.f_Machine, a0, aS, a2] 29) := put_getM _ _ _
  generalize (q.σ.push (.cells [vI 0, nilS, nilS, nilS] 29)).put q.σ.next (.cells [vI o.f_Machine, a0, aS, a2] 29) = σ2 at d4 ⊢
  refine Ex.seq (Ex.region ?_)
  refine ExO.val (x := .ptr q.σ.next 2) rfl rfl rfl (ExO.val (x := aS) rfl (op_loadM rfl rfl d4 rfl) rfl ?_)
  refine ExO.val (x := vI o.f_Syms.length) (σ' := σ2) rfl ?_ rfl (ExO.val (x := vI (0 : Nat)) rfl rfl rfl (ExO.nil ?_))
  · rcases g1 with ⟨rfl, e⟩ | ⟨cS, apS, rfl, hcS⟩
    · rw [e]; exact op_lenNil rfl rfl rfl rfl rfl Try.underlying26
    · exact op_lenM rfl rfl rfl rfl rfl Try.underlying26 (by rw [hcS.length]; exact Nat.mul_div_cancel _ (by decide))
  refine Ex.up (G2_le (G1_le rfl rfl rfl rfl rfl) rfl rfl rfl rfl) (chk2 hc hl hsy hgo g1 (fun φ σ' h1 h2 => ?_) (fun σ' hok => ?_) ⟨0, Nat.zero_le _, σ2, fun k' hk' => absurd hk' (Nat.not_lt_zero _)⟩)
  · exact hret φ σ' h1 h2
  refine Ex.region ?_
  refine ExO.val (x := vI ((q.i + 1 : Nat) : Int)) rfl (val_int rfl (add_oneM (n := q.i) (by omega))) rfl (ExO.val (x := vI ((q.i + 1 : Nat) : Int)) rfl rfl rfl (ExO.nil ?_))
  refine ⟨⟨q.i + 1, hi, σ', fun i' hi' => ?_⟩, by show l.length - (q.i + 1) < l.length - q.i; omega, G1_le rfl rfl rfl rfl rfl, rfl⟩
  by_cases e : i' = q.i
  · rw [e]; exact hok
  · exact q.inv i' (by omega)
end
end Go.DM
namespace Go.DM
open Go Go.Proofs Go.RowKit
set_option maxRecDepth 100000
/-- a slice that may be appended to, of which nothing else is held -/
def SlF (σ : St) (z : Nat) (e : TypeId) (a : A) (cs : List A) : Prop := ∃ ap, a = .sl z cs ap ∧ (ap = .ex ∨ ∃ id, ap = .gr id ∧ σ.live id = some e ∧ id < σ.nextT)
theorem SlF.app {P : Program} {σ : St} {t e : TypeId} {i : TypeInfo} {cs new : List A} {a x : A} (h : SlF σ i.size e a cs) (ht : P.underlying t = some (.slice e)) (hi : P.info? e = some i) (hx : appended σ i.size x = some new) (hz : 0 < i.size) (hn : new ≠ []) (h1 : allOne new = true)
    (h2 : i.zero.isSome = true) (h3 : (i.zero.map (·.cells.size)) = some i.size) (h4 : 0 < i.bytes) (hb : (2 * ((cs.length + new.length) / i.size) + 1024) * i.bytes ≤ 281474976710656) :
    ∃ a' σ2, appendOp P t a x σ = some (a', σ2) ∧ SlF σ2 i.size e a' (cs ++ new) := by
  obtain ⟨ap, rfl, rfl | ⟨id, rfl, hl, hid⟩⟩ := h
  · exact ⟨_, _, append_new_ ht hi hx hz hn h1 h2 h3 h4 hb, _, rfl, .inr ⟨σ.nextT, rfl, by simp [St.live, St.tok, Tr.get_set], by show σ.nextT < σ.nextT + 1; omega⟩⟩
  · exact ⟨_, _, append_own ht hi hx hz hn h1 h2 h3 h4 hb hl, _, rfl, .inr ⟨σ.nextT, rfl, by simp [St.live, St.tok, St.untok, Tr.get_set], by show σ.nextT < σ.nextT + 1; omega⟩⟩
noncomputable def G8 (a b : A) (z : Int) : Fr := ((fr0.set 0 a).set 11 b).set 12 (vI z)
theorem G8_le {a b : A} {z : Int} {ψ : Fr} (hd : ψ.ds = []) (e0 : ψ.s.get 0 = some a) (e11 : ψ.s.get 11 = some b) (e12 : ψ.s.get 12 = some (vI z)) : (G8 a b z).le ψ := frS_le e12 (frS_le e11 (frS_le e0 (fr0_le hd)))
structure M8 (l : List TObj) where
  i : Nat
  hi : i ≤ l.length
  z : Int
  hz : z = (i : Int) - 1
  σ : St
  b : A
  cb : List A
  hb : SlF σ 4 29 b cb
  hc : Cells rTObj cb (l.drop i).reverse
noncomputable def cB : Code := subC [1,1,1,1,1,0,1] (bodyF Try.f3)
section
variable {l : List TObj} {cs : List A} {ap : Ap} {Q : X → Fr → St → Prop} {N : Nat}
theorem back_loop (hc : Cells rTObj cs l) (hl : l.length ≤ 2000000) (hN : 2000000 < N) (hmod : ∀ o ∈ l, Mod o)
    (h : ∀ σ' cb ap', Cells rTObj cb l.reverse → Q .normal ((fr0.set 0 (.sl 4 cs ap)).set 11 (.sl 4 cb ap')) σ') (q : M8 l) :
    Ex cfgW 227 cB (G8 (.sl 4 cs ap) q.b q.z) q.σ Q := by
  have hlen : cs.length / 4 = l.length := by rw [hc.length]; exact Nat.mul_div_cancel _ (by decide)
  refine Ex.block (Ex.loop (fun q : M8 l => G8 (.sl 4 cs ap) q.b q.z) (fun q => q.σ) (fun q => q.i) ?_ q)
  rintro ⟨i, hi, z, hz, σ, b, cb, hb, hcb⟩
  have hcl := hcb.length
  obtain ⟨apb, rfl, hap⟩ := hb
  cases i with
  | zero =>
    obtain rfl : z = -1 := by omega
    refine Ex.seq (Ex.seq (Ex.region ?_))
    refine ExO.val (x := vI (-1)) rfl rfl rfl (ExO.val (x := vB false) rfl rfl rfl (ExO.nil ?_))
    refine Ex.cond (t := false) rfl (Ex.exitw (ψ := (fr0.set 0 (.sl 4 cs ap)).set 11 (.sl 4 cb apb)) (frS_le rfl (frS_le rfl (fr0_le rfl))) ?_)
    exact h _ _ _ hcb
  | succ j =>
    obtain rfl : z = ((j : Nat) : Int) := by omega
    have hj : j < l.length := by omega
    refine Ex.seq (Ex.seq (Ex.region ?_))
    refine ExO.val (x := vI j) rfl rfl rfl (ExO.val (x := vB true) rfl (val_bl rfl (by simp)) rfl (ExO.nil ?_))
    refine Ex.cond (t := true) rfl (Ex.skip ?_)
    obtain ⟨c, hrc, hat⟩ := hc.at (i := j) (List.getElem?_eq_getElem hj)
    have hrc' := hrc
    obtain ⟨a0, aS, a2, rfl, g0', g1, g2⟩ := hrc
    obtain ⟨c', hrc2, hcl6⟩ := cl_copy hrc' (copy_eq N hN _ (hmod _ (List.getElem_mem hj))) σ
    have hone := rTObj.one _ _ hrc2
    have hrc3 := hrc2
    obtain ⟨d0, d1, d2, rfl, _, _, _⟩ := hrc2
    obtain ⟨b', σ', happ, hb'⟩ := SlF.app (P := cfgW.P) (t := 22) (new := [vI l[j].f_Machine, d0, d1, d2]) (x := .sl 4 [vI l[j].f_Machine, d0, d1, d2] .ex) ⟨apb, rfl, hap⟩ Try.underlying22 rfl rfl (by decide) (by simp) hone rfl rfl (by decide) (by
      show (2 * ((cb.length + 4) / 4) + 1024) * 80 ≤ 281474976710656
      have h1 : cb.length = (l.drop (j + 1)).reverse.length * 4 := hcl
      rw [List.length_reverse, List.length_drop] at h1
      omega)
    refine Ex.seq (Ex.block (Ex.region ?_))
    refine ExO.val (x := .sl 4 cb apb) rfl rfl rfl (ExO.val (x := .sl 4 cs ap) rfl rfl rfl (ExO.val (x := vI j) rfl rfl rfl ?_))
    refine ExO.val rfl (op_atM (j := j) (sz := 4) rfl rfl rfl Try.underlying22 rfl (by decide) (by rw [hlen]; exact hj)) rfl ?_
    refine ExO.val (x := .agg [vI l[j].f_Machine, a0, aS, a2]) rfl (op_load rfl rfl (load_at (i := _) hat rfl rfl rfl)) rfl ?_
    refine ExO.call rfl rfl hcl6 rfl ?_
    refine ExO.val (x := .sl 4 [vI l[j].f_Machine, d0, d1, d2] .ex) rfl rfl rfl ?_
    refine ExO.val (x := b') (σ' := σ') rfl (op_app rfl rfl rfl rfl rfl rfl rfl Try.underlying22 rfl happ) rfl (ExO.val (x := b') rfl rfl rfl (ExO.nil ?_))
    refine Ex.region ?_
    refine ExO.val (x := vI j) rfl rfl rfl (ExO.val (x := vI ((j : Int) - 1)) rfl (val_int rfl (by rw [wrap_i64] <;> omega)) rfl (ExO.val (x := vI ((j : Int) - 1)) rfl rfl rfl (ExO.nil ?_)))
    refine ⟨⟨j, by omega, (j : Int) - 1, rfl, σ', b', cb ++ [vI l[j].f_Machine, d0, d1, d2], hb', ?_⟩, Nat.lt_succ_self j, G8_le rfl rfl rfl rfl, rfl⟩
    rw [List.drop_eq_getElem_cons hj, List.reverse_cons]
    refine hcb.append ?_
    have := Cells.cons hrc3 (Cells.nil (r := rTObj))
    rw [List.append_nil] at this
    exact this
end
end Go.DM
namespace Go.DM
open Go Go.Proofs Go.RowKit
set_option maxRecDepth 100000
theorem flat_at {defs : List TDef} {v : Nat} {d : TDef} (h : defs[v]? = some d) : IsAt (defs.flatMap defC) (v * 6) (defC d) := by
  have hv := (List.getElem?_eq_some_iff.1 h).1
  have h1 : defs = defs.take v ++ d :: defs.drop (v + 1) := by
    have := (List.getElem?_eq_some_iff.1 h).2
    rw [← this, ← List.drop_eq_getElem_cons hv, List.take_append_drop]
  have hl : ((defs.take v).flatMap defC).length = v * 6 := by rw [flat_len, List.length_take]; congr 1; omega
  have h2 : defs.flatMap defC = (defs.take v).flatMap defC ++ (defC d ++ (defs.drop (v + 1)).flatMap defC) := by
    have := congrArg (List.flatMap defC) h1
    rw [List.flatMap_append, List.flatMap_cons] at this
    exact this
  rw [h2]
  refine ⟨?_, ?_⟩
  · rw [List.drop_append_of_le_length (by omega), List.drop_of_length_le (by omega), List.nil_append, List.take_append_of_le_length (Nat.le_refl _), List.take_length]
  · rw [List.length_append, List.length_append, hl]; omega
theorem ne_defs {ρ : Operand → Option A} {o : Oper} {σ : St} {x y : Operand} {u : TypeId} (d : TDef) (hop : o.op = .binOp .neq 42 x y u) (hx : ρ x = some (.agg (defC d))) (hy : ρ y = some (.agg (defC d))) :
    op cfgW ρ o σ = some (.val (vB false) σ) := by
  refine val_bl (op_neSt hop hx hy rfl rfl Try.underlying42 (by kernel_rfl) (by kernel_rfl) (fun e => det_eqF_cons rfl rfl rfl (det_eqS Try.underlying9) (det_eqF_cons rfl rfl rfl (det_eqI Try.underlying3) (det_eqF_cons rfl rfl rfl (det_eqI Try.underlying3) (det_eqF_cons rfl rfl rfl (det_eqI Try.underlying3) (det_eqF_cons rfl rfl rfl (det_eqI Try.underlying3) (det_eqF_cons rfl rfl rfl (det_eqI Try.underlying3) det_eqF_nil))))))) ?_
  simp
noncomputable def H1 (a : A) (b13 b16 n i : Nat) : Fr := (((((fr0.set 0 a).set 13 (.ptr b13 0)).set 16 (.ptr b16 0)).set 157 a).set 158 (vI n)).set 159 (vI i)
theorem H1_le {a : A} {b13 b16 n i : Nat} {ψ : Fr} (hd : ψ.ds = []) (e0 : ψ.s.get 0 = some a) (e13 : ψ.s.get 13 = some (.ptr b13 0)) (e16 : ψ.s.get 16 = some (.ptr b16 0)) (e157 : ψ.s.get 157 = some a) (e158 : ψ.s.get 158 = some (vI n)) (e159 : ψ.s.get 159 = some (vI i)) : (H1 a b13 b16 n i).le ψ := frS_le e159 (frS_le e158 (frS_le e157 (frS_le e16 (frS_le e13 (frS_le e0 (fr0_le hd))))))
noncomputable def H2 (a : A) (b13 b16 n i : Nat) (aS : A) (m k : Nat) : Fr := ((((H1 a b13 b16 n i).set 19 (vI i)).set 165 aS).set 166 (vI m)).set 167 (vI k)
theorem H2_le {a : A} {b13 b16 n i : Nat} {aS : A} {m k : Nat} {ψ : Fr} (h : (H1 a b13 b16 n i).le ψ) (e19 : ψ.s.get 19 = some (vI i)) (e165 : ψ.s.get 165 = some aS) (e166 : ψ.s.get 166 = some (vI m)) (e167 : ψ.s.get 167 = some (vI k)) : (H2 a b13 b16 n i aS m k).le ψ := frS_le e167 (frS_le e166 (frS_le e165 (frS_le e19 h)))
/-- one of the two tables, in its block -/
structure TabAt (σ : St) (b : Nat) (l : List TObj) (aD aO : A) (rws : List A) : Prop where
  lt : b < σ.next
  blk : σ.blks.get b = some (.cells [aD, aO] 36)
  defs : SlC 6 aD ((defsJ l (namesL l).length).flatMap defC)
  of : SlC 1 aO rws
  rows : ∃ N0, All2 (RowAt N0 σ) rws (rowsFin (plL l) 0 l)
theorem TabAt.keep {σ σ' : St} (k : Keep σ σ') {b : Nat} {l : List TObj} {aD aO : A} {rws : List A} (h : TabAt σ b l aD aO rws) : TabAt σ' b l aD aO rws := by
  obtain ⟨N0, hr⟩ := h.rows
  exact ⟨Nat.lt_of_lt_of_le h.lt k.next, (k.get _ h.lt).trans h.blk, h.defs, h.of, N0, hr.imp fun _ _ g => g.keep k⟩
/-- a symbol's row, number and definition in a table -/
theorem TabAt.at {σ : St} {b : Nat} {l : List TObj} {aD aO : A} {rws : List A} (h : TabAt σ b l aD aO rws) {i k : Nat} {o : TObj} {s : TSym} (ho : l[i]? = some o) (hs : o.f_Syms[k]? = some s) :
    ∃ (apD apO : Ap) (br : Nat) (v : Nat) (e : List A), aD = .sl 6 ((defsJ l (namesL l).length).flatMap defC) apD ∧ aO = .sl 1 rws apO ∧ rws[i]? = some (.ms br 0 o.f_Syms.length o.f_Syms.length) ∧ br < σ.next ∧ σ.blks.get br = some (.cells e 3) ∧ e[k]? = some (vI v) ∧ (defsJ l (namesL l).length)[v]? = some (stD l i s) := by
  obtain ⟨hi, rfl⟩ := List.getElem?_eq_some_iff.1 ho
  obtain ⟨hk, rfl⟩ := List.getElem?_eq_some_iff.1 hs
  obtain ⟨v, hv1, hv2⟩ := def_at hi hk
  obtain ⟨N0, hr⟩ := h.rows
  have hxi := rowsFin_get (plL l) hi
  have hrl := hr.length
  rw [rowsFin_len] at hrl
  have hri : rws[i]? = some rws[i] := List.getElem?_eq_getElem (by omega)
  have hra := hr.get hri hxi
  have hrlen := rowF_len (plL l) (nlocs (l.take i)) l[i].f_Syms
  rcases hra with ⟨e, _⟩ | ⟨br, e, h2, h3, h4⟩
  · rw [e] at hrlen; simp at hrlen; omega
  rw [hrlen] at e
  have hD : ∃ apD, aD = .sl 6 ((defsJ l (namesL l).length).flatMap defC) apD := by
    rcases h.defs with ⟨_, e⟩ | h
    · have h1 := flat_len (defsJ l (namesL l).length)
      rw [e] at h1
      have h2 := (List.getElem?_eq_some_iff.1 hv2).1
      simp at h1; omega
    · exact h
  have hO : ∃ apO, aO = .sl 1 rws apO := by
    rcases h.of with ⟨_, e⟩ | h
    · rw [e] at hrl; simp at hrl; omega
    · exact h
  obtain ⟨apD, rfl⟩ := hD
  obtain ⟨apO, rfl⟩ := hO
  exact ⟨apD, apO, br, v, _, rfl, rfl, by rw [hri, e], h3, h4, by rw [List.getElem?_map, hv1]; rfl, hv2⟩
noncomputable def cC3 : Code := subC [1,1,1,1,1,1,1,1,1,1,0,1, 0,0,1,1,0, 0,1,1, 0,0,1,1,0] (bodyF Try.f3)
section
variable {l : List TObj} {aS : A} {cs : List A} {ap : Ap} {Q : X → Fr → St → Prop}
set_option maxHeartbeats 4000000 in
theorem cmp_step (hc : Cells rTObj cs l) (hl : l.length ≤ 2000000) (hHS : HS l) (hok : ∀ n ∈ namesL l, (valN l n).2 = 0) {σs σ : St} (kp : Keep σs σ) {b13 b16 : Nat} {aD aO bD bO : A} {rws rwt : List A} (t13 : TabAt σs b13 l aD aO rws) (t16 : TabAt σs b16 l.reverse bD bO rwt)
    {i k : Nat} (hi : i < l.length) (hk : k < l[i].f_Syms.length) {cS : List A} {apS : Ap} (hcS : Cells rTSym cS l[i].f_Syms)
    (h : ∀ σ', Keep σs σ' → Q .normal (H2 (.sl 4 cs ap) b13 b16 l.length i (.sl 6 cS apS) l[i].f_Syms.length k) σ') :
    Ex cfgW 227 cC3 (H2 (.sl 4 cs ap) b13 b16 l.length i (.sl 6 cS apS) l[i].f_Syms.length k) σ Q := by
  have hlen : cs.length / 4 = l.length := by rw [hc.length]; exact Nat.mul_div_cancel _ (by decide)
  have hlenS : cS.length / 6 = l[i].f_Syms.length := by rw [hcS.length]; exact Nat.mul_div_cancel _ (by decide)
  obtain ⟨c, hrc, hat⟩ := hcS.at (i := k) (List.getElem?_eq_getElem hk)
  have hgs := List.getElem?_eq_getElem hk
  have hgo := List.getElem?_eq_getElem hi
  have hbk := stD_back hHS hi hk hok
  have hnm := stD_name hi hk hok
  generalize l[i].f_Syms[k] = s at hrc hgs hbk hnm
  generalize hoo : l[i] = o at *
  obtain rfl : c = symC s := hrc
  have hgr : l.reverse[l.length - 1 - i]? = some o := by
    rw [List.getElem?_reverse (by omega), show l.length - 1 - (l.length - 1 - i) = i by omega]; exact hgo
  refine Ex.block ?_
  refine Ex.seq (Ex.region ?_)
  refine ExO.val (x := vI k) rfl rfl rfl ?_
  refine ExO.val rfl (op_atM (j := k) (sz := 6) rfl rfl rfl Try.underlying26 rfl (by decide) (by rw [hlenS]; exact hk)) rfl ?_
  refine ExO.val (x := .agg (symC s)) rfl (op_load rfl rfl (load_at (i := _) hat rfl rfl rfl)) rfl ?_
  refine ExO.val (x := .ptr σ.next 0) (σ' := σ.push (.cells [vS (ByteArray.mk #[]), vI 0, vI 0, vI 0, vI 0, vI 0] 31)) rfl rfl rfl ?_
  refine ExO.val (x := vI k) rfl rfl rfl ?_
  refine ExO.skip rfl (op_storeM (cs' := symC s) rfl rfl rfl (push_getM _ _) rfl rfl rfl (Nat.le_refl _) rfl) rfl (ExO.nil ?_)
  have kp2 : Keep σs ((σ.push (.cells [vS (ByteArray.mk #[]), vI 0, vI 0, vI 0, vI 0, vI 0] 31)).put σ.next (.cells (symC s) 31)) := kp.trans ((Keep.push _ _).putNew _ (Nat.le_refl _))
  have d22 : ((σ.push (.cells [vS (ByteArray.mk #[]), vI 0, vI 0, vI 0, vI 0, vI 0] 31)).put σ.next (.cells (symC s) 31)).blks.get σ.next = some (.cells (symC s) 31) := put_getM _ _ _
  have n22 : σ.next < ((σ.push (.cells [vS (ByteArray.mk #[]), vI 0, vI 0, vI 0, vI 0, vI 0] 31)).put σ.next (.cells (symC s) 31)).next := Nat.lt_succ_self _
  generalize (σ.push (.cells [vS (ByteArray.mk #[]), vI 0, vI 0, vI 0, vI 0, vI 0] 31)).put σ.next (.cells (symC s) 31) = σ2 at kp2 d22 n22 ⊢
  have T13 := t13.keep kp2
  have T16 := t16.keep kp2
  obtain ⟨apD, apO, br, v, e, rfl, rfl, hbr, hbl, hbb, hev, hdv⟩ := T13.at hgo hgs
  obtain ⟨apD', apO', bq, v', e', rfl, rfl, hbr', hbl', hbb', hev', hdv'⟩ := T16.at hgr hgs
  have hat1 := flat_at hdv
  have hat2 := flat_at hdv'
  have hfl1 := flat_len (defsJ l (namesL l).length)
  have hfl2 := flat_len (defsJ l.reverse (namesL l.reverse).length)
  have hvl := (List.getElem?_eq_some_iff.1 hdv).1
  have hvl' := (List.getElem?_eq_some_iff.1 hdv').1
  have hil := (List.getElem?_eq_some_iff.1 hbr).1
  have hil' := (List.getElem?_eq_some_iff.1 hbr').1
  have hkl := (List.getElem?_eq_some_iff.1 hev).1
  have hkl' := (List.getElem?_eq_some_iff.1 hev').1
  generalize stD l i s = d at *
  generalize stD l.reverse (l.length - 1 - i) s = d' at *
  generalize (defsJ l (namesL l).length).flatMap defC = fl1 at *
  generalize (defsJ l.reverse (namesL l.reverse).length).flatMap defC = fl2 at *
  have hl1 : loadAt cfgW.P 3 e (0 + k * 1) = some (vI v) := load_one (by rw [Nat.zero_add, Nat.mul_one]; exact hev) rfl rfl
  have hl2 : loadAt cfgW.P 3 e' (0 + k * 1) = some (vI v') := load_one (by rw [Nat.zero_add, Nat.mul_one]; exact hev') rfl rfl
  have f13 : ∀ σ' : St, (∀ b, b < σ2.next → σ'.blks.get b = σ2.blks.get b) → σ'.blks.get b13 = some (.cells [.sl 6 fl1 apD, .sl 1 rws apO] 36) := fun σ' g => (g _ T13.lt).trans T13.blk
  have f16 : ∀ σ' : St, (∀ b, b < σ2.next → σ'.blks.get b = σ2.blks.get b) → σ'.blks.get b16 = some (.cells [.sl 6 fl2 apD', .sl 1 rwt apO'] 36) := fun σ' g => (g _ T16.lt).trans T16.blk
  have fbr : ∀ σ' : St, (∀ b, b < σ2.next → σ'.blks.get b = σ2.blks.get b) → σ'.blks.get br = some (.cells e 3) := fun σ' g => (g _ hbl).trans hbb
  have fbq : ∀ σ' : St, (∀ b, b < σ2.next → σ'.blks.get b = σ2.blks.get b) → σ'.blks.get bq = some (.cells e' 3) := fun σ' g => (g _ hbl').trans hbb'
  have g0 : ∀ b, b < σ2.next → σ2.blks.get b = σ2.blks.get b := fun _ _ => rfl
  have g3 : ∀ b, b < σ2.next → (σ2.push (.cells (defC zeroD) 42)).blks.get b = σ2.blks.get b := fun b hb => push_neM hb
  have g4 : ∀ b, b < σ2.next → ((σ2.push (.cells (defC zeroD) 42)).push (.cells (defC zeroD) 42)).blks.get b = σ2.blks.get b := fun b hb => (push_neM (by show b < σ2.next + 1; omega)).trans (g3 b hb)
  have g5 : ∀ b, b < σ2.next → (((σ2.push (.cells (defC zeroD) 42)).push (.cells (defC zeroD) 42)).put σ2.next (.cells (defC d) 42)).blks.get b = σ2.blks.get b := fun b hb => (put_neM (by omega)).trans (g4 b hb)
  refine Ex.seq (Ex.drawn (by kernel_rfl) ?_)
  refine ExD.val (x := .ptr b13 0) rfl rfl rfl rfl rfl ?_
  refine ExD.val (x := .sl 6 fl1 apD) rfl rfl (opQ_loadM rfl rfl (f13 _ g0) rfl) rfl rfl ?_
  refine ExD.val (x := .ptr b13 1) rfl rfl rfl rfl rfl ?_
  refine ExD.val (x := .sl 1 rws apO) rfl rfl (opQ_loadM rfl rfl (f13 _ g0) rfl) rfl rfl ?_
  refine ExD.val (x := vI i) rfl rfl rfl rfl rfl ?_
  refine ExD.val (x := .sp rws (i * 1) .no) rfl rfl (opQ_of_op (op_atM (j := i) (sz := 1) rfl rfl rfl Try.underlying34 rfl (by decide) (by rw [Nat.div_one]; exact hil)) rfl) rfl rfl ?_
  refine ExD.val (x := .ms br 0 o.f_Syms.length o.f_Syms.length) rfl rfl (opQ_of_op (op_load rfl rfl (load_one (by rw [Nat.mul_one]; exact hbr) rfl rfl)) rfl) rfl rfl ?_
  refine ExD.val (x := vI k) rfl rfl rfl rfl rfl ?_
  refine ExD.val (x := .ptr br (0 + k * 1)) rfl rfl (opQ_of_op (op_atMs (j := k) (sz := 1) rfl rfl rfl Try.underlying43 rfl hk) rfl) rfl rfl ?_
  refine ExD.val (x := vI v) rfl rfl (opQ_loadM rfl rfl (fbr _ g0) hl1) rfl rfl ?_
  refine ExD.val (x := .sp fl1 (v * 6) .no) rfl rfl (opQ_of_op (op_atM (j := v) (sz := 6) rfl rfl rfl Try.underlying33 rfl (by decide) (by rw [hfl1, Nat.mul_div_cancel _ (by decide)]; exact hvl)) rfl) rfl rfl ?_
  refine ExD.val (x := .agg (defC d)) rfl rfl (opQ_of_op (op_load rfl rfl (load_at (i := _) hat1 rfl rfl rfl)) rfl) rfl rfl ?_
  refine ExD.val (x := .ptr b16 0) rfl rfl rfl rfl rfl ?_
  refine ExD.val (x := .sl 6 fl2 apD') rfl rfl (opQ_loadM rfl rfl (f16 _ g0) rfl) rfl rfl ?_
  refine ExD.val (x := .ptr b16 1) rfl rfl rfl rfl rfl ?_
  refine ExD.val (x := .sl 1 rwt apO') rfl rfl (opQ_loadM rfl rfl (f16 _ g0) rfl) rfl rfl ?_
  refine ExD.val (x := .sl 4 cs ap) rfl rfl rfl rfl rfl ?_
  refine ExD.val (x := vI (l.length : Nat)) rfl rfl (opQ_lenM rfl rfl rfl rfl rfl Try.underlying22 hlen) rfl rfl ?_
  refine ExD.val (x := vI ((l.length - 1 : Nat) : Int)) rfl rfl (opQ_of_op (val_int rfl (by rw [wrap_i64] <;> omega)) rfl) rfl rfl ?_
  refine ExD.val (x := vI i) rfl rfl rfl rfl rfl ?_
  refine ExD.val (x := vI ((l.length - 1 - i : Nat) : Int)) rfl rfl (opQ_of_op (val_int rfl (by rw [wrap_i64] <;> omega)) rfl) rfl rfl ?_
  refine ExD.val (x := .sp rwt ((l.length - 1 - i) * 1) .no) rfl rfl (opQ_of_op (op_atM (j := l.length - 1 - i) (sz := 1) rfl rfl rfl Try.underlying34 rfl (by decide) (by rw [Nat.div_one]; exact hil')) rfl) rfl rfl ?_
  refine ExD.val (x := .ms bq 0 o.f_Syms.length o.f_Syms.length) rfl rfl (opQ_of_op (op_load rfl rfl (load_one (by rw [Nat.mul_one]; exact hbr') rfl rfl)) rfl) rfl rfl ?_
  refine ExD.val (x := vI k) rfl rfl rfl rfl rfl ?_
  refine ExD.val (x := .ptr bq (0 + k * 1)) rfl rfl (opQ_of_op (op_atMs (j := k) (sz := 1) rfl rfl rfl Try.underlying43 rfl hk) rfl) rfl rfl ?_
  refine ExD.val (x := vI v') rfl rfl (opQ_loadM rfl rfl (fbq _ g0) hl2) rfl rfl ?_
  refine ExD.val (x := .sp fl2 (v' * 6) .no) rfl rfl (opQ_of_op (op_atM (j := v') (sz := 6) rfl rfl rfl Try.underlying33 rfl (by decide) (by rw [hfl2, Nat.mul_div_cancel _ (by decide)]; exact hvl')) rfl) rfl rfl ?_
  refine ExD.val (x := .agg (defC d')) rfl rfl (opQ_of_op (op_load rfl rfl (load_at (i := _) hat2 rfl rfl rfl)) rfl) rfl rfl ?_
  refine ExD.loud (x := .ptr σ2.next 0) (σ' := σ2.push (.cells (defC zeroD) 42)) rfl rfl (.inl rfl) ?_ rfl ?_
  · exact stF_p rfl (stF_p rfl (stF_s (opQ_loadM rfl rfl (fbq _ g3) hl2) (stF_p rfl (stF_p rfl (stF_p rfl (stF_p rfl (stF_p rfl (stF_p rfl (stF_p rfl (stF_p rfl (stF_p rfl (stF_s (opQ_loadM rfl rfl (f16 _ g3) rfl) (stF_p rfl (stF_s (opQ_loadM rfl rfl (f16 _ g3) rfl) (stF_p rfl (stF_p rfl (stF_p rfl (stF_s (opQ_loadM rfl rfl (fbr _ g3) hl1) (stF_p rfl (stF_p rfl (stF_p rfl (stF_p rfl (stF_p rfl (stF_s (opQ_loadM rfl rfl (f13 _ g3) rfl) (stF_p rfl (stF_s (opQ_loadM rfl rfl (f13 _ g3) rfl) (stF_p rfl rfl)))))))))))))))))))))))))))
  refine ExD.loud (x := .ptr (σ2.next + 1) 0) (σ' := (σ2.push (.cells (defC zeroD) 42)).push (.cells (defC zeroD) 42)) rfl rfl (.inl rfl) ?_ rfl ?_
  · exact stF_p rfl (stF_p rfl (stF_s (opQ_loadM rfl rfl (fbq _ g4) hl2) (stF_p rfl (stF_p rfl (stF_p rfl (stF_p rfl (stF_p rfl (stF_p rfl (stF_p rfl (stF_p rfl (stF_p rfl (stF_s (opQ_loadM rfl rfl (f16 _ g4) rfl) (stF_p rfl (stF_s (opQ_loadM rfl rfl (f16 _ g4) rfl) (stF_p rfl (stF_p rfl (stF_p rfl (stF_s (opQ_loadM rfl rfl (fbr _ g4) hl1) (stF_p rfl (stF_p rfl (stF_p rfl (stF_p rfl (stF_p rfl (stF_s (opQ_loadM rfl rfl (f13 _ g4) rfl) (stF_p rfl (stF_s (opQ_loadM rfl rfl (f13 _ g4) rfl) (stF_p rfl rfl)))))))))))))))))))))))))))
  have e23 : ((σ2.push (.cells (defC zeroD) 42)).push (.cells (defC zeroD) 42)).blks.get σ2.next = some (.cells (defC zeroD) 42) := (push_neM (by show σ2.next < σ2.next + 1; omega)).trans (push_getM _ _)
  refine ExD.loud (x := und) (σ' := ((σ2.push (.cells (defC zeroD) 42)).push (.cells (defC zeroD) 42)).put σ2.next (.cells (defC d) 42)) rfl rfl (.inr ⟨op_storeM (cs' := defC d) rfl rfl rfl e23 rfl rfl rfl (Nat.le_refl _) rfl, rfl⟩) ?_ rfl ?_
  · exact stF_p rfl (stF_p rfl (stF_s (opQ_loadM rfl rfl (fbq _ g5) hl2) (stF_p rfl (stF_p rfl (stF_p rfl (stF_p rfl (stF_p rfl (stF_p rfl (stF_p rfl (stF_p rfl (stF_p rfl (stF_s (opQ_loadM rfl rfl (f16 _ g5) rfl) (stF_p rfl (stF_s (opQ_loadM rfl rfl (f16 _ g5) rfl) (stF_p rfl (stF_p rfl (stF_p rfl (stF_s (opQ_loadM rfl rfl (fbr _ g5) hl1) (stF_p rfl (stF_p rfl (stF_p rfl (stF_p rfl (stF_p rfl (stF_s (opQ_loadM rfl rfl (f13 _ g5) rfl) (stF_p rfl (stF_s (opQ_loadM rfl rfl (f13 _ g5) rfl) (stF_p rfl rfl)))))))))))))))))))))))))))
  have e24 : (((σ2.push (.cells (defC zeroD) 42)).push (.cells (defC zeroD) 42)).put σ2.next (.cells (defC d) 42)).blks.get (σ2.next + 1) = some (.cells (defC zeroD) 42) := (put_neM (by omega)).trans (push_getM _ _)
  refine ExD.loud (x := und) (σ' := (((σ2.push (.cells (defC zeroD) 42)).push (.cells (defC zeroD) 42)).put σ2.next (.cells (defC d) 42)).put (σ2.next + 1) (.cells (defC d') 42)) rfl rfl (.inr ⟨op_storeM (cs' := defC d') rfl rfl rfl e24 rfl rfl rfl (Nat.le_refl _) rfl, rfl⟩) rfl rfl (ExD.nil ?_)
  have kp6 : Keep σs ((((σ2.push (.cells (defC zeroD) 42)).push (.cells (defC zeroD) 42)).put σ2.next (.cells (defC d) 42)).put (σ2.next + 1) (.cells (defC d') 42)) := kp2.trans ((((Keep.push _ _).trans (Keep.push _ _)).putNew _ (Nat.le_refl _)).putNew _ (Nat.le_succ _))
  have h23 : ((((σ2.push (.cells (defC zeroD) 42)).push (.cells (defC zeroD) 42)).put σ2.next (.cells (defC d) 42)).put (σ2.next + 1) (.cells (defC d') 42)).blks.get σ2.next = some (.cells (defC d) 42) := (put_neM (Nat.ne_of_lt (Nat.lt_succ_self _))).trans (put_getM _ _ _)
  have h24 : ((((σ2.push (.cells (defC zeroD) 42)).push (.cells (defC zeroD) 42)).put σ2.next (.cells (defC d) 42)).put (σ2.next + 1) (.cells (defC d') 42)).blks.get (σ2.next + 1) = some (.cells (defC d') 42) := put_getM _ _ _
  have h22 : ((((σ2.push (.cells (defC zeroD) 42)).push (.cells (defC zeroD) 42)).put σ2.next (.cells (defC d) 42)).put (σ2.next + 1) (.cells (defC d') 42)).blks.get σ.next = some (.cells (symC s) 31) := (put_neM (Nat.ne_of_lt (Nat.lt_succ_of_lt n22))).trans ((g5 _ n22).trans d22)
  generalize (((σ2.push (.cells (defC zeroD) 42)).push (.cells (defC zeroD) 42)).put σ2.next (.cells (defC d) 42)).put (σ2.next + 1) (.cells (defC d') 42) = σ6 at kp6 h23 h24 h22 ⊢
  have hs2 : σs.next ≤ σ2.next := kp2.next
  have fin : ∀ (φ : Fr) (σ7 : St), Keep σs σ7 → σ7.blks.get σ2.next = some (.cells (defC d) 42) → σ7.blks.get (σ2.next + 1) = some (.cells (defC d) 42) → σ7.blks.get σ.next = some (.cells (symC s) 31) → φ.s.get 23 = some (.ptr σ2.next 0) → φ.s.get 24 = some (.ptr (σ2.next + 1) 0) → φ.s.get 22 = some (.ptr σ.next 0) → (H2 (.sl 4 cs ap) b13 b16 l.length i (.sl 6 cS apS) o.f_Syms.length k).le φ →
      Ex cfgW 227 (subC [0,1,1,1] cC3) φ σ7 (Blk' 13 Q) := by
    intro φ σ7 k7 p23 p24 p22 q23 q24 q22 hle
    refine Ex.up (φ := (((H2 (.sl 4 cs ap) b13 b16 l.length i (.sl 6 cS apS) o.f_Syms.length k).set 22 (.ptr σ.next 0)).set 23 (.ptr σ2.next 0)).set 24 (.ptr (σ2.next + 1) 0)) (frS_le q24 (frS_le q23 (frS_le q22 hle))) ?_
    refine Ex.seq (Ex.region ?_)
    refine ExO.val (x := .agg (defC d)) rfl (op_loadM rfl rfl p23 rfl) rfl (ExO.val (x := .agg (defC d)) rfl (op_loadM rfl rfl p24 rfl) rfl ?_)
    refine ExO.val (x := vB false) rfl (ne_defs d rfl rfl rfl) rfl (ExO.val (x := vB false) rfl rfl rfl ?_)
    refine ExO.val (x := .ptr σ2.next 0) rfl rfl rfl (ExO.val (x := vS d.f_Name) rfl (op_loadM rfl rfl p23 rfl) rfl (ExO.val (x := .ptr σ.next 0) rfl rfl rfl (ExO.val (x := vS s.f_Name) rfl (op_loadM rfl rfl p22 rfl) rfl ?_)))
    refine ExO.val (x := vB false) rfl (val_bl rfl (by simp [hnm])) rfl (ExO.val (x := vB false) rfl rfl rfl (ExO.nil ?_))
    refine Ex.cond (t := false) rfl (Ex.skipw (ψ := H2 (.sl 4 cs ap) b13 b16 l.length i (.sl 6 cS apS) o.f_Syms.length k) (H2_le (H1_le rfl rfl rfl rfl rfl rfl rfl) rfl rfl rfl rfl) ?_)
    exact h σ7 k7
  refine Ex.seq (Ex.seq (Ex.region ?_))
  refine ExO.val (x := .ptr σ2.next 1) rfl rfl rfl (ExO.val (x := vI d.f_Obj) rfl (op_loadM rfl rfl h23 rfl) rfl ?_)
  by_cases ho1 : d.f_Obj ≥ 0
  case neg =>
    have hd : d' = d := by unfold backD at hbk; rw [if_neg (fun p => ho1 p.1)] at hbk; exact hbk
    rw [hd] at h24
    refine ExO.val (x := vB false) rfl (val_bl rfl (by simp; omega)) rfl (ExO.val (x := vB false) rfl rfl rfl ?_)
    refine ExO.off rfl rfl (ExO.off rfl rfl (ExO.off rfl rfl ?_))
    refine ExO.val (x := vB false) rfl rfl rfl (ExO.nil ?_)
    refine Ex.cond (t := false) rfl (Ex.skip ?_)
    exact fin _ _ kp6 h23 h24 h22 rfl rfl rfl (H2_le (H1_le rfl rfl rfl rfl rfl rfl rfl) rfl rfl rfl rfl)
  refine ExO.val (x := vB true) rfl (val_bl rfl (by simp; omega)) rfl (ExO.val (x := vB true) rfl rfl rfl ?_)
  refine ExO.val (x := .ptr (σ2.next + 1) 1) rfl rfl rfl (ExO.val (x := vI d'.f_Obj) rfl (op_loadM rfl rfl h24 rfl) rfl ?_)
  by_cases ho2 : d'.f_Obj ≥ 0
  case neg =>
    have hd : d' = d := by unfold backD at hbk; rw [if_neg (fun p => ho2 p.2)] at hbk; exact hbk
    rw [hd] at h24
    refine ExO.val (x := vB false) rfl (val_bl rfl (by simp; omega)) rfl (ExO.val (x := vB false) rfl rfl rfl (ExO.nil ?_))
    refine Ex.cond (t := false) rfl (Ex.skip ?_)
    exact fin _ _ kp6 h23 h24 h22 rfl rfl rfl (H2_le (H1_le rfl rfl rfl rfl rfl rfl rfl) rfl rfl rfl rfl)
  refine ExO.val (x := vB true) rfl (val_bl rfl (by simp; omega)) rfl (ExO.val (x := vB true) rfl rfl rfl (ExO.nil ?_))
  have hd : { d' with f_Obj := (l.length : Int) - 1 - d'.f_Obj } = d := by unfold backD at hbk; rw [if_pos ⟨ho1, ho2⟩] at hbk; exact hbk
  have hob : (l.length : Int) - 1 - d'.f_Obj = d.f_Obj := congrArg TDef.f_Obj hd
  have hdc : [vS d'.f_Name, vI ((l.length : Int) - 1 - d'.f_Obj), vI d'.f_Sec, vI d'.f_Value, vI d'.f_Size, vI d'.f_Type] = defC d := congrArg defC hd
  refine Ex.cond (t := true) rfl (Ex.region ?_)
  refine ExO.val (x := .sl 4 cs ap) rfl rfl rfl (ExO.val (x := vI (l.length : Nat)) rfl (op_lenM rfl rfl rfl rfl rfl Try.underlying22 hlen) rfl ?_)
  refine ExO.val (x := vI ((l.length : Int) - 1)) rfl (val_int rfl (by rw [wrap_i64] <;> omega)) rfl ?_
  refine ExO.val (x := .ptr (σ2.next + 1) 1) rfl rfl rfl (ExO.val (x := vI d'.f_Obj) rfl (op_loadM rfl rfl h24 rfl) rfl ?_)
  refine ExO.val (x := vI ((l.length : Int) - 1 - d'.f_Obj)) rfl (val_int rfl (by rw [wrap_i64] <;> omega)) rfl ?_
  refine ExO.val (x := .ptr (σ2.next + 1) 1) rfl rfl rfl ?_
  refine ExO.skip rfl (op_storeM (n := 1) (cs' := [vS d'.f_Name, vI ((l.length : Int) - 1 - d'.f_Obj), vI d'.f_Sec, vI d'.f_Value, vI d'.f_Size, vI d'.f_Type]) rfl rfl rfl h24 rfl rfl rfl (Nat.le_of_ble_eq_true rfl) rfl) rfl (ExO.nil ?_)
  rw [hdc]
  exact fin _ _ (kp6.putNew _ (Nat.le_succ_of_le hs2)) ((put_neM (Nat.ne_of_lt (Nat.lt_succ_self _))).trans h23) (put_getM _ _ _) ((put_neM (Nat.ne_of_lt (Nat.lt_succ_of_lt n22))).trans h22) rfl rfl rfl (H2_le (H1_le rfl rfl rfl rfl rfl rfl rfl) rfl rfl rfl rfl)
end
end Go.DM
namespace Go.DM
open Go Go.Proofs Go.RowKit
set_option maxRecDepth 100000
structure M12 (σs : St) (mS : Nat) where
  k : Nat
  hk : k ≤ mS
  σ : St
  kp : Keep σs σ
noncomputable def cC1 : Code := subC [1,1,1,1,1,1,1,1,1,1,0,1] (bodyF Try.f3)
noncomputable def cC2 : Code := subC [1,1,1,1,1,1,1,1,1,1,0,1, 0,0,1,1,0, 0,1,1] (bodyF Try.f3)
section
variable {l : List TObj} {aS : A} {cs : List A} {ap : Ap} {Q : X → Fr → St → Prop}
theorem cmp_syms (hc : Cells rTObj cs l) (hl : l.length ≤ 2000000) (hsy : ∀ o ∈ l, o.f_Syms.length ≤ 2000000) (hHS : HS l) (hok : ∀ n ∈ namesL l, (valN l n).2 = 0) {σs : St} {b13 b16 : Nat} {aD aO bD bO : A} {rws rwt : List A} (t13 : TabAt σs b13 l aD aO rws) (t16 : TabAt σs b16 l.reverse bD bO rwt)
    {i : Nat} (hi : i < l.length) (hcS : Sl rTSym aS l[i].f_Syms) (h : ∀ σ', Keep σs σ' → Q .normal (H1 (.sl 4 cs ap) b13 b16 l.length i) σ') (q : M12 σs l[i].f_Syms.length) :
    Ex cfgW 227 cC2 (H2 (.sl 4 cs ap) b13 b16 l.length i aS l[i].f_Syms.length q.k) q.σ Q := by
  have hom := hsy _ (List.getElem_mem hi)
  refine Ex.block (Ex.loop (fun q : M12 σs l[i].f_Syms.length => H2 (.sl 4 cs ap) b13 b16 l.length i aS l[i].f_Syms.length q.k) (fun q => q.σ) (fun q => l[i].f_Syms.length - q.k) ?_ q)
  intro q
  refine Ex.seq (Ex.region ?_)
  refine ExO.val (x := vB (decide (((q.k : Nat) : Int) < ((l[i].f_Syms.length : Nat) : Int)))) rfl rfl rfl (ExO.nil ?_)
  refine Ex.seq (Ex.split (t := decide (((q.k : Nat) : Int) < ((l[i].f_Syms.length : Nat) : Int))) rfl (fun hlt => ?_) (fun hlt => ?_))
  case refine_2 =>
    refine Ex.exitw (ψ := H1 (.sl 4 cs ap) b13 b16 l.length i) (H1_le rfl rfl rfl rfl rfl rfl rfl) ?_
    exact h _ q.kp
  have hk : q.k < l[i].f_Syms.length := by have := of_decide_eq_true hlt; omega
  refine Ex.skip ?_
  rcases hcS with ⟨_, e⟩ | ⟨cS, apS, rfl, hcS⟩
  · have e2 : l[i].f_Syms.length = 0 := congrArg List.length e
    exact absurd hk (by omega)
  refine Ex.seq (Ex.up (H2_le (H1_le rfl rfl rfl rfl rfl rfl rfl) rfl rfl rfl rfl) (cmp_step hc hl hHS hok q.kp t13 t16 hi hk hcS (fun σ' k' => ?_)))
  refine Ex.region ?_
  refine ExO.val (x := vI ((q.k + 1 : Nat) : Int)) rfl (val_int rfl (add_oneM (n := q.k) (by omega))) rfl (ExO.val (x := vI ((q.k + 1 : Nat) : Int)) rfl rfl rfl (ExO.nil ?_))
  exact ⟨⟨q.k + 1, hk, σ', k'⟩, by show l[i].f_Syms.length - (q.k + 1) < l[i].f_Syms.length - q.k; omega, H2_le (H1_le rfl rfl rfl rfl rfl rfl rfl) rfl rfl rfl rfl, rfl⟩
theorem cmp_objs (hc : Cells rTObj cs l) (hl : l.length ≤ 2000000) (hsy : ∀ o ∈ l, o.f_Syms.length ≤ 2000000) (hHS : HS l) (hok : ∀ n ∈ namesL l, (valN l n).2 = 0) {σs : St} {b13 b16 : Nat} {aD aO bD bO : A} {rws rwt : List A} (t13 : TabAt σs b13 l aD aO rws) (t16 : TabAt σs b16 l.reverse bD bO rwt)
    (h : ∀ σ', Q .normal fr0 σ') (q : M12 σs l.length) :
    Ex cfgW 227 cC1 (H1 (.sl 4 cs ap) b13 b16 l.length q.k) q.σ Q := by
  have hlen : cs.length / 4 = l.length := by rw [hc.length]; exact Nat.mul_div_cancel _ (by decide)
  refine Ex.block (Ex.loop (fun q : M12 σs l.length => H1 (.sl 4 cs ap) b13 b16 l.length q.k) (fun q => q.σ) (fun q => l.length - q.k) ?_ q)
  intro q
  refine Ex.seq (Ex.region ?_)
  refine ExO.val (x := vB (decide (((q.k : Nat) : Int) < ((l.length : Nat) : Int)))) rfl rfl rfl (ExO.nil ?_)
  refine Ex.seq (Ex.split (t := decide (((q.k : Nat) : Int) < ((l.length : Nat) : Int))) rfl (fun hlt => ?_) (fun hlt => ?_))
  case refine_2 =>
    refine Ex.exitw (ψ := fr0) (fr0_le rfl) ?_
    exact h _
  have hi : q.k < l.length := by have := of_decide_eq_true hlt; omega
  refine Ex.skip ?_
  obtain ⟨c, hrc, hat⟩ := hc.at (i := q.k) (List.getElem?_eq_getElem hi)
  have hrc' := hrc
  obtain ⟨a0, aS, a2, rfl, g0', g1, g2⟩ := hrc
  refine Ex.seq (Ex.block ?_)
  refine Ex.seq (Ex.region ?_)
  refine ExO.val (x := vI q.k) rfl rfl rfl ?_
  refine ExO.val rfl (op_atM (j := q.k) (sz := 4) rfl rfl rfl Try.underlying22 rfl (by decide) (by rw [hlen]; exact hi)) rfl ?_
  refine ExO.val (x := .agg [vI l[q.k].f_Machine, a0, aS, a2]) rfl (op_load rfl rfl (load_at (i := _) hat rfl rfl rfl)) rfl ?_
  refine ExO.val (x := .ptr q.σ.next 0) (σ' := q.σ.push (.cells [vI 0, nilS, nilS, nilS] 29)) rfl rfl rfl (ExO.val (x := vI q.k) rfl rfl rfl ?_)
  refine ExO.skip rfl (op_storeM (cs' := [vI l[q.k].f_Machine, a0, aS, a2]) rfl rfl rfl (push_getM _ _) rfl rfl (rTObj.one _ _ hrc') (Nat.le_refl _) rfl) rfl (ExO.nil ?_)
  have kp : Keep σs ((q.σ.push (.cells [vI 0, nilS, nilS, nilS] 29)).put q.σ.next (.cells [vI l[q.k].f_Machine, a0, aS, a2] 29)) := q.kp.trans ((Keep.push _ _).putNew _ (Nat.le_refl _))
  have d2 : ((q.σ.push (.cells [vI 0, nilS, nilS, nilS] 29)).put q.σ.next (.cells [vI l[q.k].f_Machine, a0, aS, a2] 29)).blks.get q.σ.next = some (.cells [vI l[q.k].f_Machine, a0, aS, a2] 29) := put_getM _ _ _
  generalize (q.σ.push (.cells [vI 0, nilS, nilS, nilS] 29)).put q.σ.next (.cells [vI l[q.k].f_Machine, a0, aS, a2] 29) = σ2 at kp d2 ⊢
  refine Ex.seq (Ex.region ?_)
  refine ExO.val (x := .ptr q.σ.next 2) rfl rfl rfl (ExO.val (x := aS) rfl (op_loadM rfl rfl d2 rfl) rfl ?_)
  refine ExO.val (x := vI l[q.k].f_Syms.length) (σ' := σ2) rfl ?_ rfl (ExO.val (x := vI (0 : Nat)) rfl rfl rfl (ExO.nil ?_))
  · rcases g1 with ⟨rfl, e⟩ | ⟨cS, apS, rfl, hcS⟩
    · rw [e]; exact op_lenNil rfl rfl rfl rfl rfl Try.underlying26
    · exact op_lenM rfl rfl rfl rfl rfl Try.underlying26 (by rw [hcS.length]; exact Nat.mul_div_cancel _ (by decide))
  refine Ex.up (H2_le (H1_le rfl rfl rfl rfl rfl rfl rfl) rfl rfl rfl rfl) (cmp_syms hc hl hsy hHS hok t13 t16 hi g1 (fun σ' k' => ?_) ⟨0, Nat.zero_le _, σ2, kp⟩)
  refine Ex.region ?_
  refine ExO.val (x := vI ((q.k + 1 : Nat) : Int)) rfl (val_int rfl (add_oneM (n := q.k) (by omega))) rfl (ExO.val (x := vI ((q.k + 1 : Nat) : Int)) rfl rfl rfl (ExO.nil ?_))
  exact ⟨⟨q.k + 1, hi, σ', k'⟩, by show l.length - (q.k + 1) < l.length - q.k; omega, H1_le rfl rfl rfl rfl rfl rfl rfl, rfl⟩
end
/-- what Resolve answers, at any length -/
def ResA (l : List TObj) (lkB : TObj → Bool) (m0 : Int) (N0 : Nat) (x : A) (σ' : St) : Prop := (64 < l.length ∧ x = badR (ByteArray.mk #[]) 203) ∨ (l.length ≤ 64 ∧ ResR l lkB m0 N0 x σ')
theorem resolve_any {σ : St} {cs : List A} {ap : Ap} {l : List TObj} (hc : Cells rTObj cs l) {N : Nat} (lkB : TObj → Bool) (hk : ∀ o ∈ l, gresolve_linkable N o = some (lkB o)) (hsz : cntS l ≤ 2000000) {m0 : Int} (hm0 : ∀ o, l[0]? = some o → o.f_Machine = m0)
    (hHS : HS l) (hnz : ∀ o ∈ l, ∀ s ∈ o.f_Syms, s.f_Name.size ≤ 4000000) :
    Ca cfgW 7 [.sl 4 cs ap] σ (fun x σ' => ResA l lkB m0 (σ.next + 1) x σ' ∧ (∀ b, b < σ.next → σ'.blks.get b = σ.blks.get b) ∧ σ.next ≤ σ'.next) := by
  by_cases hl : l.length ≤ 64
  · obtain ⟨x, σ', h1, h2, h3⟩ := resolve_ca (σ := σ) (ap := ap) hc hl lkB hk hsz hm0 hHS hnz
    exact ⟨x, σ', h1, .inr ⟨hl, h2⟩, h3⟩
  · obtain ⟨x, σ', h1, h2, h3⟩ := resolve_many (σ := σ) (ap := ap) hc (by omega)
    exact ⟨x, σ', h1, .inl ⟨by omega, h2⟩, h3⟩
theorem SlC.one {z : Nat} {a : A} {cs : List A} (h : SlC z a cs) : isOne a = true := by
  rcases h with ⟨rfl, _⟩ | ⟨ap, rfl⟩ <;> rfl
theorem resA_shape {l : List TObj} {lkB : TObj → Bool} {m0 : Int} {N0 : Nat} {x : A} {σ' : St} (h : ResA l lkB m0 N0 x σ') : ∃ p q nm e, x = .tup [.agg [p, q], vS nm, vI e] ∧ allOne [p, q] = true := by
  rcases h with ⟨_, rfl⟩ | ⟨_, h⟩
  · exact ⟨_, _, _, _, rfl, rfl⟩
  rcases h with ⟨_, rfl⟩ | ⟨_, ⟨j, hj, _, _, rfl⟩ | ⟨_, aD, aO, rws, rfl, h1, h2, _⟩⟩
  · exact ⟨_, _, _, _, rfl, rfl⟩
  · exact ⟨_, _, _, _, rfl, rfl⟩
  · refine ⟨_, _, _, _, rfl, ?_⟩
    rcases h1 with ⟨rfl, _⟩ | ⟨ap, rfl⟩ <;> rcases h2 with ⟨rfl, _⟩ | ⟨ap, rfl⟩ <;> rfl
theorem two_any {l : List TObj} (hHS : HS l) {lkB : TObj → Bool} {m0 m1 : Int} {N0 N1 : Nat} {x1 x2 : A} {σ1 σ2 : St} (hm0 : ∀ o, l[0]? = some o → o.f_Machine = m0) (hm1 : ∀ o, l.reverse[0]? = some o → o.f_Machine = m1) (h0 : 0 < l.length)
    (h1 : ResA l lkB m0 N0 x1 σ1) (h2 : ResA l.reverse lkB m1 N1 x2 σ2) :
    (∃ nm e, e ≠ 0 ∧ x1 = badR nm e ∧ x2 = badR nm e) ∨ ((∀ n ∈ namesL l, (valN l n).2 = 0) ∧ ∃ aD aO rws bD bO rwt, TabR l N0 x1 σ1 aD aO rws ∧ TabR l.reverse N1 x2 σ2 bD bO rwt) := by
  have hr : l.reverse.length = l.length := List.length_reverse
  rcases h1 with ⟨g1, rfl⟩ | ⟨g1, h1⟩
  · rcases h2 with ⟨_, rfl⟩ | ⟨g2, _⟩
    · exact .inl ⟨_, 203, by decide, rfl, rfl⟩
    · omega
  · rcases h2 with ⟨g2, _⟩ | ⟨_, h2⟩
    · omega
    · exact two_res hHS hm0 hm1 h0 h1 h2
theorem op_lenC {C : Cfg} {ρ : Operand → Option A} {o : Oper} {σ : St} {c : Call} {x : Operand} {a : A} {cs : List A} {z m : Nat} {t e : TypeId} (h : SlC z a cs) (hop : o.op = .call c) (hc : c.callee = .builtin .len) (ha : c.args.toList = [x]) (h0 : c.argTypes[0]? = some t) (hx : ρ x = some a) (ht : C.P.underlying t = some (.slice e)) (hm : cs.length / z = m) :
    op C ρ o σ = some (.val (vI (m : Nat)) σ) := by
  rcases h with ⟨rfl, rfl⟩ | ⟨ap, rfl⟩
  · have : m = 0 := by rw [← hm]; simp
    rw [this]; exact op_lenNil hop hc ha h0 hx ht
  · exact op_lenM hop hc ha h0 hx ht hm
theorem law_ca {σ : St} {a : A} {l : List TObj} (ha : Sl rTObj a l) (hl : l.length ≤ 2000000) (hmod : ∀ o ∈ l, Mod o) (hsz : cntS l ≤ 2000000) (hnz : ∀ o ∈ l, ∀ s ∈ o.f_Syms, s.f_Name.size ≤ 4000000) :
    Ca cfgW 3 [a] σ (fun x _ => x = vB true) := by
  have hN : 2000000 < 3000000 := by decide
  have hsy : ∀ o ∈ l, o.f_Syms.length ≤ 2000000 := fun o ho => (hmod o ho).sym
  refine Ca.enter Try.func3 rfl rfl (Nat.le_of_ble_eq_true rfl) ?_
  refine Ex.seq (Ex.region ?_)
  refine ExO.val (x := vB false) rfl rfl rfl (ExO.nil ?_)
  refine Ex.seq (Ex.seq (Ex.region ?_))
  refine ExO.call rfl rfl (cl_alive _) rfl ?_
  refine ExO.val (x := vB false) rfl rfl rfl (ExO.nil ?_)
  refine Ex.cond (t := false) rfl (Ex.skip ?_)
  refine Ex.seq (Ex.seq (Ex.region ?_))
  refine ExO.val (x := a) rfl rfl rfl ?_
  refine ExO.call rfl rfl (cl_small ha (small_eq 3000000 hN l hl hsz) _) rfl ?_
  by_cases h500 : cntS l ≤ 500
  case neg =>
    rw [decide_eq_false h500]
    refine ExO.val (x := vB true) rfl rfl rfl (ExO.val (x := vB true) rfl rfl rfl ?_)
    refine ExO.off rfl rfl (ExO.off rfl rfl (ExO.off rfl rfl ?_))
    refine ExO.val (x := vB true) rfl rfl rfl (ExO.nil ?_)
    refine Ex.cond (t := true) rfl (Ex.seq (Ex.region (ExO.val (x := vB true) rfl rfl rfl (ExO.nil (Ex.ret ?_)))))
    exact ⟨.inr rfl, rfl, _, rfl, rfl⟩
  rw [decide_eq_true h500]
  refine ExO.val (x := vB false) rfl rfl rfl (ExO.val (x := vB false) rfl rfl rfl ?_)
  refine ExO.val (x := a) rfl rfl rfl (ExO.val (x := vI (l.length : Nat)) rfl (op_lenL ha rfl rfl rfl rfl rfl Try.underlying22) rfl ?_)
  by_cases h2 : l.length < 2
  · refine ExO.val (x := vB true) rfl (val_bl rfl (by simp; omega)) rfl (ExO.val (x := vB true) rfl rfl rfl (ExO.nil ?_))
    refine Ex.cond (t := true) rfl (Ex.seq (Ex.region (ExO.val (x := vB true) rfl rfl rfl (ExO.nil (Ex.ret ?_)))))
    exact ⟨.inr rfl, rfl, _, rfl, rfl⟩
  refine ExO.val (x := vB false) rfl (val_bl rfl (by simp; omega)) rfl (ExO.val (x := vB false) rfl rfl rfl (ExO.nil ?_))
  refine Ex.cond (t := false) rfl (Ex.skip ?_)
  rcases ha with ⟨_, e⟩ | ⟨cs, ap, rfl, hc⟩
  · rw [e] at h2; exact absurd h2 (by decide)
  have hlen : cs.length / 4 = l.length := by rw [hc.length]; exact Nat.mul_div_cancel _ (by decide)
  have h0 : 0 < l.length := by omega
  refine Ex.seq (Ex.seq (Ex.region ?_))
  refine ExO.val (x := .sl 4 cs ap) rfl rfl rfl (ExO.val (x := vI (l.length : Nat)) rfl (op_lenM rfl rfl rfl rfl rfl Try.underlying22 hlen) rfl (ExO.val (x := vI (0 : Nat)) rfl rfl rfl (ExO.nil ?_)))
  refine Ex.up (G1_le rfl rfl rfl rfl rfl) (chk1 hc hl hsy (fun φ σ' p1 p2 => ?_) (fun σ2 hHS => ?_) ⟨0, Nat.zero_le _, _, fun i' hi' => absurd hi' (Nat.not_lt_zero _)⟩)
  · have hr : resA cfgW φ σ' [.tmp 2] = some [vB true] := by simp only [resA, p2]
    exact ⟨.inr rfl, p1, [vB true], hr, rfl⟩
  refine Ex.seq (Ex.region ?_)
  refine ExO.val (x := .sl 4 [] .ex) rfl rfl rfl (ExO.val (x := .sl 4 [] .ex) rfl rfl rfl (ExO.nil ?_))
  refine Ex.seq (Ex.seq (Ex.region ?_))
  refine ExO.val (x := .sl 4 cs ap) rfl rfl rfl (ExO.val (x := vI (l.length : Nat)) rfl (op_lenM rfl rfl rfl rfl rfl Try.underlying22 hlen) rfl ?_)
  refine ExO.val (x := vI ((l.length : Int) - 1)) rfl (val_int rfl (by rw [wrap_i64] <;> omega)) rfl (ExO.val (x := vI ((l.length : Int) - 1)) rfl rfl rfl (ExO.nil ?_))
  refine Ex.up (G8_le rfl rfl rfl rfl) (back_loop hc hl hN hmod (fun σ3 cb apb hcb => ?_) ⟨l.length, Nat.le_refl _, (l.length : Int) - 1, rfl, σ2, .sl 4 [] .ex, [], ⟨.ex, rfl, .inl rfl⟩, by rw [List.drop_length]; exact .nil⟩)
  -- the two calls
  have hlt : ∀ o ∈ l, ∃ r, gresolve_linkable 3000000 o = some r := fun o ho => link_tot 3000000 hN o (hmod o ho)
  obtain ⟨lkB, hlk⟩ : ∃ lkB : TObj → Bool, ∀ o ∈ l, gresolve_linkable 3000000 o = some (lkB o) := ⟨fun o => (gresolve_linkable 3000000 o).getD false, fun o ho => by
    obtain ⟨r, hr⟩ := hlt o ho
    simp only [hr, Option.getD_some]⟩
  have hlk2 : ∀ o ∈ l.reverse, gresolve_linkable 3000000 o = some (lkB o) := fun o ho => hlk o (List.mem_reverse.1 ho)
  have hnz2 : ∀ o ∈ l.reverse, ∀ s ∈ o.f_Syms, s.f_Name.size ≤ 4000000 := fun o ho => hnz o (List.mem_reverse.1 ho)
  have hcr : ∀ l : List TObj, cntS l.reverse = cntS l := by
    have happ : ∀ a b : List TObj, cntS (a ++ b) = cntS a + cntS b := by
      intro a b
      induction a with
      | nil => simp [cntS]
      | cons o r ih => rw [List.cons_append, cntS, cntS, ih]; omega
    intro l
    induction l with
    | nil => rfl
    | cons o r ih => rw [List.reverse_cons, happ, ih]; simp only [cntS]; omega
  have hsz2 : cntS l.reverse ≤ 2000000 := by rw [hcr]; exact hsz
  obtain ⟨m0, hm0⟩ : ∃ m0 : Int, ∀ o, l[0]? = some o → o.f_Machine = m0 := ⟨l[0].f_Machine, fun o ho => by rw [List.getElem?_eq_getElem h0] at ho; cases ho; rfl⟩
  obtain ⟨m1, hm1⟩ : ∃ m1 : Int, ∀ o, l.reverse[0]? = some o → o.f_Machine = m1 := by
    have hr0 : 0 < l.reverse.length := by rw [List.length_reverse]; exact h0
    exact ⟨l.reverse[0].f_Machine, fun o ho => by rw [List.getElem?_eq_getElem hr0] at ho; cases ho; rfl⟩
  obtain ⟨a', hsa', hcl8⟩ := cl_copies (a := .sl 4 cs ap) (.inr ⟨cs, ap, rfl, hc⟩) (copies_eq 3000000 hN l hl hmod) σ3
  obtain ⟨c1, ap1, rfl, hc1⟩ : ∃ c1 ap1, a' = .sl 4 c1 ap1 ∧ Cells rTObj c1 l := by
    rcases hsa' with ⟨_, e⟩ | ⟨c1, ap1, e, h⟩
    · rw [e] at h0; exact absurd h0 (by decide)
    · exact ⟨c1, ap1, e, h⟩
  obtain ⟨x1, σ4, hclA, hA, kA, nA⟩ := resolve_any (σ := σ3) (ap := ap1) hc1 lkB hlk hsz hm0 hHS hnz
  obtain ⟨p1, q1, nm1, e1, rfl, hone1⟩ := resA_shape hA
  refine Ex.seq (Ex.region ?_)
  refine ExO.val (x := .sl 4 cs ap) rfl rfl rfl ?_
  refine ExO.call rfl rfl hcl8 rfl ?_
  refine ExO.call rfl rfl hclA rfl ?_
  refine ExO.val (x := .tup [.agg [p1, q1], vS nm1, vI e1]) rfl rfl rfl (ExO.val (x := .agg [p1, q1]) rfl rfl rfl (ExO.val (x := vS nm1) rfl rfl rfl (ExO.val (x := vI e1) rfl rfl rfl ?_)))
  refine ExO.val (x := .ptr σ4.next 0) (σ' := σ4.push (.cells [nilS, nilS] 36)) rfl rfl rfl ?_
  refine ExO.skip rfl (op_storeM (cs' := [p1, q1]) rfl rfl rfl (push_getM _ _) rfl rfl hone1 (Nat.le_refl _) rfl) rfl (ExO.val (x := vS nm1) rfl rfl rfl (ExO.val (x := vI e1) rfl rfl rfl (ExO.nil ?_)))
  have k5 : Keep σ4 ((σ4.push (.cells [nilS, nilS] 36)).put σ4.next (.cells [p1, q1] 36)) := (Keep.push _ _).putNew _ (Nat.le_refl _)
  have d13 : ((σ4.push (.cells [nilS, nilS] 36)).put σ4.next (.cells [p1, q1] 36)).blks.get σ4.next = some (.cells [p1, q1] 36) := put_getM _ _ _
  have n13 : σ4.next < ((σ4.push (.cells [nilS, nilS] 36)).put σ4.next (.cells [p1, q1] 36)).next := Nat.lt_succ_self _
  generalize (σ4.push (.cells [nilS, nilS] 36)).put σ4.next (.cells [p1, q1] 36) = σ5 at k5 d13 n13 ⊢
  obtain ⟨x2, σ6, hclB, hB, kB, nB⟩ := resolve_any (σ := σ5) (ap := apb) hcb lkB hlk2 hsz2 hm1 hHS.rev hnz2
  obtain ⟨p2, q2, nm2, e2, rfl, hone2⟩ := resA_shape hB
  refine Ex.seq (Ex.region ?_)
  refine ExO.val (x := .sl 4 cb apb) rfl rfl rfl ?_
  refine ExO.call rfl rfl hclB rfl ?_
  refine ExO.val (x := .tup [.agg [p2, q2], vS nm2, vI e2]) rfl rfl rfl (ExO.val (x := .agg [p2, q2]) rfl rfl rfl (ExO.val (x := vS nm2) rfl rfl rfl (ExO.val (x := vI e2) rfl rfl rfl ?_)))
  refine ExO.val (x := .ptr σ6.next 0) (σ' := σ6.push (.cells [nilS, nilS] 36)) rfl rfl rfl ?_
  refine ExO.skip rfl (op_storeM (cs' := [p2, q2]) rfl rfl rfl (push_getM _ _) rfl rfl hone2 (Nat.le_refl _) rfl) rfl (ExO.val (x := vS nm2) rfl rfl rfl (ExO.val (x := vI e2) rfl rfl rfl (ExO.nil ?_)))
  have k7 : Keep σ6 ((σ6.push (.cells [nilS, nilS] 36)).put σ6.next (.cells [p2, q2] 36)) := (Keep.push _ _).putNew _ (Nat.le_refl _)
  have d16 : ((σ6.push (.cells [nilS, nilS] 36)).put σ6.next (.cells [p2, q2] 36)).blks.get σ6.next = some (.cells [p2, q2] 36) := put_getM _ _ _
  have n16 : σ6.next < ((σ6.push (.cells [nilS, nilS] 36)).put σ6.next (.cells [p2, q2] 36)).next := Nat.lt_succ_self _
  generalize (σ6.push (.cells [nilS, nilS] 36)).put σ6.next (.cells [p2, q2] 36) = σ7 at k7 d16 n16 ⊢
  have D13 : σ7.blks.get σ4.next = some (.cells [p1, q1] 36) := (k7.get _ (by omega)).trans ((kB _ n13).trans d13)
  refine Ex.seq (Ex.seq (Ex.region ?_))
  refine ExO.val (x := vI e1) rfl rfl rfl (ExO.val (x := vI e2) rfl rfl rfl ?_)
  rcases two_any hHS hm0 hm1 h0 hA hB with ⟨nm, e, he, hx1, hx2⟩ | ⟨hok, aD, aO, rws, bD, bO, rwt, ⟨hx1, u1, u2, u3⟩, ⟨hx2, w1, w2, w3⟩⟩
  · simp only [badR, A.tup.injEq, List.cons.injEq, A.agg.injEq, and_true, vS, vI, A.v.injEq, Value.string.injEq, Value.int.injEq, true_and] at hx1 hx2
    obtain ⟨⟨rfl, rfl⟩, rfl, rfl⟩ := hx1
    obtain ⟨⟨rfl, rfl⟩, rfl, rfl⟩ := hx2
    refine ExO.val (x := vB false) rfl (val_bl rfl (by simp)) rfl (ExO.val (x := vB false) rfl rfl rfl ?_)
    refine ExO.val (x := vS nm2) rfl rfl rfl (ExO.val (x := vS nm2) rfl rfl rfl (ExO.val (x := vB false) rfl (val_bl rfl (by simp)) rfl (ExO.val (x := vB false) rfl rfl rfl (ExO.val (x := vB false) rfl rfl rfl ?_))))
    refine ExO.val (x := .ptr σ4.next 0) rfl rfl rfl (ExO.val (x := nilS) rfl (op_loadM rfl rfl D13 rfl) rfl (ExO.val (x := vI 0) rfl (op_lenNil rfl rfl rfl rfl rfl Try.underlying33) rfl ?_))
    refine ExO.val (x := .ptr σ6.next 0) rfl rfl rfl (ExO.val (x := nilS) rfl (op_loadM rfl rfl d16 rfl) rfl (ExO.val (x := vI 0) rfl (op_lenNil rfl rfl rfl rfl rfl Try.underlying33) rfl ?_))
    refine ExO.val (x := vB false) rfl rfl rfl (ExO.val (x := vB false) rfl rfl rfl (ExO.val (x := vB false) rfl rfl rfl ?_))
    refine ExO.val (x := vI e2) rfl rfl rfl (ExO.val (x := vB false) rfl (val_bl rfl (by simp [he])) rfl (ExO.val (x := vB false) rfl rfl rfl ?_))
    refine ExO.off rfl rfl (ExO.off rfl rfl (ExO.off rfl rfl (ExO.off rfl rfl (ExO.off rfl rfl (ExO.off rfl rfl ?_)))))
    refine ExO.val (x := vB false) rfl rfl rfl (ExO.val (x := vB false) rfl rfl rfl (ExO.nil ?_))
    refine Ex.cond (t := false) rfl (Ex.skip ?_)
    refine Ex.seq (Ex.seq (Ex.region ?_))
    refine ExO.val (x := vI e2) rfl rfl rfl (ExO.val (x := vB true) rfl (val_bl rfl (by simp [he])) rfl (ExO.nil ?_))
    refine Ex.cond (t := true) rfl (Ex.seq (Ex.region (ExO.val (x := vB true) rfl rfl rfl (ExO.nil (Ex.ret ?_)))))
    exact ⟨.inr rfl, rfl, _, rfl, rfl⟩
  · simp only [A.tup.injEq, List.cons.injEq, A.agg.injEq, and_true, vS, vI, A.v.injEq, Value.string.injEq, Value.int.injEq, true_and] at hx1 hx2
    obtain ⟨⟨rfl, rfl⟩, rfl, rfl⟩ := hx1
    obtain ⟨⟨rfl, rfl⟩, rfl, rfl⟩ := hx2
    have hrl : rws.length = l.length := by rw [u3.length, rowsFin_len]
    refine ExO.val (x := vB false) rfl rfl rfl (ExO.val (x := vB false) rfl rfl rfl ?_)
    refine ExO.val (x := vS (ByteArray.mk #[])) rfl rfl rfl (ExO.val (x := vS (ByteArray.mk #[])) rfl rfl rfl (ExO.val (x := vB false) rfl (val_bl rfl (by simp)) rfl (ExO.val (x := vB false) rfl rfl rfl (ExO.val (x := vB false) rfl rfl rfl ?_))))
    refine ExO.val (x := .ptr σ4.next 0) rfl rfl rfl (ExO.val (x := p1) rfl (op_loadM rfl rfl D13 rfl) rfl (ExO.val (x := vI ((defsJ l (namesL l).length).length : Nat)) rfl (op_lenC u1 rfl rfl rfl rfl rfl Try.underlying33 (by rw [flat_len]; exact Nat.mul_div_cancel _ (by decide))) rfl ?_))
    refine ExO.val (x := .ptr σ6.next 0) rfl rfl rfl (ExO.val (x := p2) rfl (op_loadM rfl rfl d16 rfl) rfl (ExO.val (x := vI ((defsJ l (namesL l).length).length : Nat)) rfl (op_lenC w1 rfl rfl rfl rfl rfl Try.underlying33 (by rw [flat_len, defs_rev]; exact Nat.mul_div_cancel _ (by decide))) rfl ?_))
    refine ExO.val (x := vB false) rfl (val_bl rfl (by simp)) rfl (ExO.val (x := vB false) rfl rfl rfl (ExO.val (x := vB false) rfl rfl rfl ?_))
    refine ExO.val (x := vI 0) rfl rfl rfl (ExO.val (x := vB true) rfl rfl rfl (ExO.val (x := vB true) rfl rfl rfl ?_))
    refine ExO.val (x := .ptr σ4.next 1) rfl rfl rfl (ExO.val (x := q1) rfl (op_loadM rfl rfl D13 rfl) rfl (ExO.val (x := vI (l.length : Nat)) rfl (op_lenC u2 rfl rfl rfl rfl rfl Try.underlying34 (by rw [Nat.div_one]; exact hrl)) rfl ?_))
    refine ExO.val (x := .sl 4 cs ap) rfl rfl rfl (ExO.val (x := vI (l.length : Nat)) rfl (op_lenM rfl rfl rfl rfl rfl Try.underlying22 hlen) rfl (ExO.val (x := vB false) rfl (val_bl rfl (by simp)) rfl ?_))
    refine ExO.val (x := vB false) rfl rfl rfl (ExO.val (x := vB false) rfl rfl rfl (ExO.nil ?_))
    refine Ex.cond (t := false) rfl (Ex.skip ?_)
    refine Ex.seq (Ex.seq (Ex.region ?_))
    refine ExO.val (x := vI 0) rfl rfl rfl (ExO.val (x := vB false) rfl rfl rfl (ExO.nil ?_))
    refine Ex.cond (t := false) rfl (Ex.skip ?_)
    refine Ex.seq (Ex.seq (Ex.region ?_))
    refine ExO.val (x := .sl 4 cs ap) rfl rfl rfl (ExO.val (x := vI (l.length : Nat)) rfl (op_lenM rfl rfl rfl rfl rfl Try.underlying22 hlen) rfl (ExO.val (x := vI (0 : Nat)) rfl rfl rfl (ExO.nil ?_)))
    have hrow : ∀ {N0 : Nat} {σ σ' : St}, (∀ b, b < σ.next → σ'.blks.get b = σ.blks.get b) → σ.next ≤ σ'.next → ∀ {r : List A} {xs : List (List Int)}, All2 (RowAt N0 σ) r xs → All2 (RowAt N0 σ') r xs := by
      intro N0 σ σ' hg hn r xs hr
      refine hr.imp fun y ys g => ?_
      rcases g with g | ⟨b, g1, g2, g3, g4⟩
      · exact .inl g
      · exact .inr ⟨b, g1, g2, Nat.lt_of_lt_of_le g3 hn, (hg b g3).trans g4⟩
    have t13 : TabAt σ7 σ4.next l p1 q1 rws := ⟨by have := k7.next; omega, D13, u1, u2, _, hrow k7.get k7.next (hrow kB nB (hrow k5.get k5.next u3))⟩
    have t16 : TabAt σ7 σ6.next l.reverse p2 q2 rwt := ⟨n16, d16, w1, w2, _, hrow k7.get k7.next w3⟩
    refine Ex.up (H1_le rfl rfl rfl rfl rfl rfl rfl) (cmp_objs hc hl hsy hHS hok t13 t16 (fun σ' => ?_) ⟨0, Nat.zero_le _, σ7, Keep.refl _⟩)
    refine Ex.seq (Ex.region (ExO.val (x := vB true) rfl rfl rfl (ExO.nil (Ex.ret ?_))))
    exact ⟨.inr rfl, rfl, _, rfl, rfl⟩
end Go.DM
