/- ResolveOrder: Resolve, by hand: tools, and the state of its inner loop. No condition. -/
import Derived.Test.YtiidocaofjmomaaLawT
namespace Go.DM
open Go Go.Proofs Go.RowKit
set_option maxRecDepth 100000
theorem load_at {P : Program} {t : TypeId} {cs c : List A} {o : Nat} {i : TypeInfo} (h : IsAt cs o c) (h1 : isAggT P t = some true) (h2 : P.info? t = some i) (h3 : i.size = c.length) : loadAt P t cs o = some (.agg c) := by
  unfold loadAt
  rw [h1, h2]
  simp only [h3]
  rw [if_pos h.2, h.1]
theorem load_one {P : Program} {t : TypeId} {cs : List A} {o : Nat} {i : TypeInfo} {x : A} (h : cs[o]? = some x) (h1 : isAggT P t = some false) (h2 : P.info? t = some i) : loadAt P t cs o = some x := by
  unfold loadAt
  rw [h1, h2]
  exact h
section
variable {C : Cfg} {ρ : Operand → Option A} {o : Oper} {σ : St}
theorem opQ_of_op {x : A} (h : op C ρ o σ = some (.val x σ)) (hq : (match o.op with | .move _ | .load .. | .indexAddr .. | .nilCheck _ | .binOp .. | .build .. | .assign _ | .lookup .. => true | _ => false) = true) : opQ C ρ o σ = some x := by
  unfold opQ
  split at hq <;> first | (rename_i hop; simp only [hop, h]; done) | cases hq
theorem op_atMs {t e : TypeId} {x ix : Operand} {b off len cap sz j : Nat} (hop : o.op = .indexAddr t x ix) (hx : ρ x = some (.ms b off len cap)) (hi : ρ ix = some (vI (j : Nat))) (ht : C.P.underlying t = some (.slice e)) (hs : sizeOfT C.P e = some sz) (hl : j < len) : op C ρ o σ = some (.val (.ptr b (off + j * sz)) σ) := by
  simp only [vI] at hi
  simp only [op, hop, hx, hi, indexAddrOp, ht, hs]
  rw [if_pos ⟨Int.natCast_nonneg j, Int.ofNat_lt.2 hl⟩]
  simp only [Int.toNat_natCast]; rfl
theorem opQ_lenN {c : Call} {x : Operand} {t e : TypeId} (hop : o.op = .call c) (hc : c.callee = .builtin .len) (ha : c.args.toList = [x]) (h0 : c.argTypes[0]? = some t) (hx : ρ x = some nilS) (ht : C.P.underlying t = some (.slice e)) : opQ C ρ o σ = some (vI (0 : Nat)) := by
  simp only [opQ, hop, hc, op_lenNil hop hc ha h0 hx ht]; rfl
theorem op_lookS {α : Type} {f : α → A} {t e : TypeId} {m k : Operand} {b : Nat} {l : List (ByteArray × α)} {s : ByteArray} {v : α} (hb : σ.blks.get b = some (mapG f l)) (hl : lookO l s = some v) (hop : o.op = .lookup t m k true) (hm : ρ m = some (.mp b)) (hk : ρ k = some (.v (.string s))) (hd : keyDesc C.P t = some (.string, e)) :
    op C ρ o σ = some (.val (.tup [f v, vB true]) σ) := by
  simp only [op, hop, hm, hk, lookupOp, hd]
  rw [if_pos (fits_str s), hb]
  simp only [mapG]
  rcases find_O (f := f) s l 0 0 with ⟨h1, h2⟩ | ⟨w, p, q, h1, h2⟩
  · rw [h1] at hl; cases hl
  · rw [h1] at hl; cases hl; rw [h2]; rfl
theorem op_look1 {α : Type} {f : α → A} {t e : TypeId} {m k : Operand} {b : Nat} {l : List (ByteArray × α)} {s : ByteArray} {v : α} (hb : σ.blks.get b = some (mapG f l)) (hl : lookO l s = some v) (hop : o.op = .lookup t m k false) (hm : ρ m = some (.mp b)) (hk : ρ k = some (.v (.string s))) (hd : keyDesc C.P t = some (.string, e)) :
    op C ρ o σ = some (.val (f v) σ) := by
  simp only [op, hop, hm, hk, lookupOp, hd]
  rw [if_pos (fits_str s), hb]
  simp only [mapG]
  rcases find_O (f := f) s l 0 0 with ⟨h1, h2⟩ | ⟨w, p, q, h1, h2⟩
  · rw [h1] at hl; cases hl
  · rw [h1] at hl; cases hl; rw [h2]; rfl
theorem op_lookN {α : Type} {f : α → A} {t e : TypeId} {m k : Operand} {b : Nat} {l : List (ByteArray × α)} {s : ByteArray} {z : A} (hb : σ.blks.get b = some (mapG f l)) (hl : lookO l s = none) (hop : o.op = .lookup t m k true) (hm : ρ m = some (.mp b)) (hk : ρ k = some (.v (.string s))) (hd : keyDesc C.P t = some (.string, e)) (hz : zeroA C.P e = some z) :
    op C ρ o σ = some (.val (.tup [z, vB false]) σ) := by
  simp only [op, hop, hm, hk, lookupOp, hd]
  rw [if_pos (fits_str s), hb]
  simp only [mapG]
  rcases find_O (f := f) s l 0 0 with ⟨h1, h2⟩ | ⟨w, p, q, h1, h2⟩
  · rw [h2]; simp only [hz]; rfl
  · rw [h1] at hl; cases hl
theorem op_app {c : Call} {s x : Operand} {t t' e : TypeId} {a b r : A} {σ' : St} (hop : o.op = .call c) (hc : c.callee = .builtin .append) (ha : c.args.toList = [s, x]) (h0 : c.argTypes[0]? = some t) (h1 : c.argTypes[1]? = some t') (hs : ρ s = some a) (hx : ρ x = some b) (ht : C.P.underlying t' = some (.slice e)) (hm : C.mutB t = false) (happ : appendOp C.P t a b σ = some (r, σ')) :
    op C ρ o σ = some (.val r σ') := by
  simp only [op, hop, hc, builtinOp, ha, hs, hx, h0, h1, ht, hm, happ]; rfl
end
section
variable {C : Cfg} {bef : Array Nat} {i j : Nat} {σ : St} {φ : Fr} {o : Oper} {x : A} {l : List (Nat × Fr × Oper × A)}
theorem stF_b (h : bfr bef j i = true) (g : stableF C bef i σ l = true) : stableF C bef i σ ((j, φ, o, x) :: l) = true := by
  show ((bfr bef j i || sameA C φ o σ x) && stableF C bef i σ l) = true
  rw [h, g]; rfl
theorem stF_s (h : opQ C (ev C φ) o σ = some x) (g : stableF C bef i σ l = true) : stableF C bef i σ ((j, φ, o, x) :: l) = true := by
  have e : sameA C φ o σ x = true := by
    unfold sameA
    rw [h]
    simp [A.same]
  show ((bfr bef j i || sameA C φ o σ x) && stableF C bef i σ l) = true
  rw [e, g, Bool.or_true]; rfl
theorem stF_p (h : pureQ C (ev C φ) o = true) (g : stableF C bef i σ l = true) : stableF C bef i σ ((j, φ, o, x) :: l) = true := by
  have e : sameA C φ o σ x = true := by
    unfold sameA
    rw [h]; rfl
  show ((bfr bef j i || sameA C φ o σ x) && stableF C bef i σ l) = true
  rw [e, g, Bool.or_true]; rfl
theorem ExO.nilw {C : Cfg} {n : Nat} {ops : Array Oper} {Q : X → Fr → St → Prop} {ψ φ : Fr} (hle : ψ.le φ) (h : Q .normal ψ σ) : ExO C n ops [] φ σ Q := ⟨0, _, ψ, φ, σ, h, hle, rfl⟩
theorem ExD.nilw {C : Cfg} {n : Nat} {ops : Array Oper} {j : Nat} {past : List (Nat × St)} {pend : List (Nat × Fr × Oper × A)} {Q : X → Fr → St → Prop} {ψ φ : Fr} (hle : ψ.le φ) (h : Q .normal ψ σ) : ExD C n ops [] j φ σ past pend Q := ⟨0, _, ψ, φ, σ, h, hle, rfl⟩
theorem Ex.exitw {C : Cfg} {n : Nat} {id : Nat} {Q : X → Fr → St → Prop} {ψ φ : Fr} (hle : ψ.le φ) (h : Q (.exit id) ψ σ) : Ex C n (.exit id) φ σ Q := ⟨1, _, ψ, φ, σ, h, hle, rfl⟩
theorem Ex.skipw {C : Cfg} {n : Nat} {Q : X → Fr → St → Prop} {ψ φ : Fr} (hle : ψ.le φ) (h : Q .normal ψ σ) : Ex C n .skip φ σ Q := ⟨1, _, ψ, φ, σ, h, hle, rfl⟩
end
/-- a part of a code -/
def subC : List Nat → Code → Code
  | [], c => c
  | 0 :: p, .seq a _ => subC p a
  | _ :: p, .seq _ b => subC p b
  | _ :: p, .block _ a => subC p a
  | _ :: p, .loop a => subC p a
  | 0 :: p, .cond _ a _ => subC p a
  | _ :: p, .cond _ _ b => subC p b
  | _, c => c
def bodyF (f : Func) : Code := match f.body with
  | some c => c
  | none => .skip
theorem All2.get {α β : Type} {D : α → β → Prop} {l : List α} {m : List β} (h : All2 D l m) : ∀ {i : Nat} {x : α} {y : β}, l[i]? = some x → m[i]? = some y → D x y := by
  induction h with
  | nil => intro i x y h; simp at h
  | cons hx _ ih =>
    intro i x y h1 h2
    cases i with
    | zero => simp at h1 h2; subst h1; subst h2; exact hx
    | succ i => rw [List.getElem?_cons_succ] at h1 h2; exact ih h1 h2
theorem All2.length {α β : Type} {D : α → β → Prop} {l : List α} {m : List β} (h : All2 D l m) : l.length = m.length := by
  induction h with
  | nil => rfl
  | cons _ _ ih => simp only [List.length_cons, ih]
theorem rowsFrom_len : ∀ (n : Nat) (l : List TObj), (rowsFrom n l).length = l.length
  | _, [] => rfl
  | n, o :: r => by rw [rowsFrom, List.length_cons, List.length_cons, rowsFrom_len]
theorem rowsFrom_app : ∀ (n : Nat) (a b : List TObj), rowsFrom n (a ++ b) = rowsFrom n a ++ rowsFrom (n + nlocs a) b
  | n, [], b => by simp [rowsFrom, nlocs]
  | n, o :: r, b => by
    rw [List.cons_append, rowsFrom, rowsFrom, rowsFrom_app _ r b, List.cons_append, nlocs, Nat.add_assoc]
theorem flat_len (d : List TDef) : (d.flatMap defC).length = d.length * 6 := by
  induction d with
  | nil => rfl
  | cons x r ih => rw [List.flatMap_cons, List.length_append, ih, List.length_cons]; show 6 + _ = _; omega
theorem locD_le : ∀ (q : List (Int × TSym)), (locD q).length ≤ q.length
  | [] => Nat.le_refl _
  | x :: r => by
    have := locD_le r
    rw [locD]
    split
    · simp only [List.length_cons]; omega
    · simp only [List.length_cons]; omega
theorem syms_len : ∀ (i : Nat) (l : List TObj), (symsFrom i l).length = cntS l
  | _, [] => rfl
  | i, o :: r => by rw [symsFrom, List.length_append, List.length_map, syms_len, cntS]
theorem pre_len {l : List TObj} {i k : Nat} (hi : i < l.length) (hk : k ≤ l[i].f_Syms.length) : (pre l i k l[i].f_Syms).length ≤ cntS l := by
  have h1 := cntS_take l i hi
  have h2 := cntS_le l (i + 1)
  unfold pre
  rw [List.length_append, syms_len, List.length_map, List.length_take]
  omega
theorem splice_set (xs : List Int) (k : Nat) (d : Int) (h : k < xs.length) : splice (xs.map fun x => vI x) (0 + k * 1) [vI d] = (xs.set k d).map fun x => vI x := by
  unfold splice
  rw [Nat.zero_add, Nat.mul_one, List.map_set, List.set_eq_take_append_cons_drop, if_pos (by rw [List.length_map]; exact h)]
  simp
theorem lookO_map {α β : Type} (f : α → β) (n : ByteArray) : ∀ (G : List (ByteArray × α)), lookO (G.map fun x => (x.1, f x.2)) n = (lookO G n).map f
  | [] => rfl
  | (k, v) :: r => by
    simp only [List.map_cons, lookO, lookO_map f n r]
    split <;> rfl
theorem updG_mapv {α β : Type} (f : α → β) (n : ByteArray) (v : α) : ∀ (G : List (ByteArray × α)), (updG G n v).map (fun x => (x.1, f x.2)) = updG (G.map fun x => (x.1, f x.2)) n (f v)
  | [] => rfl
  | (k, w) :: r => by
    simp only [updG, List.map_cons]
    by_cases h : n = k
    · rw [if_pos h, if_pos h]; rfl
    · rw [if_neg h, if_neg h, List.map_cons, updG_mapv f n v r]
theorem updG_twice {α : Type} (n : ByteArray) (v w : α) : ∀ (G : List (ByteArray × α)), updG (updG G n v) n w = updG G n w
  | [] => by simp [updG]
  | (k, u) :: r => by
    by_cases h : n = k
    · simp only [updG, if_pos h]
    · simp only [updG, if_neg h, updG_twice n v w r]
/-- the frame of the loop over objects -/
noncomputable def F1 (a : A) (b2 bT bM n i : Nat) : Fr := (((((((fr0.set 0 a).set 2 (.ptr b2 0)).set 5 (.ptr bT 0)).set 6 (.mp bM)).set 28 a).set 29 (vI n)).set 30 (vI i))
theorem F1_le {a : A} {b2 bT bM n i : Nat} {ψ : Fr} (hd : ψ.ds = []) (e0 : ψ.s.get 0 = some a) (e2 : ψ.s.get 2 = some (.ptr b2 0)) (e5 : ψ.s.get 5 = some (.ptr bT 0)) (e6 : ψ.s.get 6 = some (.mp bM)) (e28 : ψ.s.get 28 = some a) (e29 : ψ.s.get 29 = some (vI n)) (e30 : ψ.s.get 30 = some (vI i)) :
    (F1 a b2 bT bM n i).le ψ := frS_le e30 (frS_le e29 (frS_le e28 (frS_le e6 (frS_le e5 (frS_le e2 (frS_le e0 (fr0_le hd)))))))
/-- the frame of the loop over symbols -/
noncomputable def F2 (a : A) (b2 bT bM n i bo : Nat) (aS : A) (m k : Nat) : Fr := ((((((F1 a b2 bT bM n i).set 7 (vI i)).set 8 (.ptr bo 0)).set 58 aS).set 59 (vI m)).set 60 (vI k))
theorem F2_le {a : A} {b2 bT bM n i bo : Nat} {aS : A} {m k : Nat} {ψ : Fr} (h : (F1 a b2 bT bM n i).le ψ) (e7 : ψ.s.get 7 = some (vI i)) (e8 : ψ.s.get 8 = some (.ptr bo 0)) (e58 : ψ.s.get 58 = some aS) (e59 : ψ.s.get 59 = some (vI m)) (e60 : ψ.s.get 60 = some (vI k)) :
    (F2 a b2 bT bM n i bo aS m k).le ψ := frS_le e60 (frS_le e59 (frS_le e58 (frS_le e8 (frS_le e7 h))))
/-- the state behind the first k symbols of object i -/
structure L2 (σ1 : St) (l : List TObj) (N1 bT bM i bo : Nat) (o : TObj) (oc rws : List A) where
  k : Nat
  hk : k ≤ o.f_Syms.length
  σ : St
  G : List (ByteArray × Gr)
  tab : Tab N1 bT bM σ G (locD (pre l i k o.f_Syms)) rws (rowsFrom 0 (l.take i) ++ [rowP (nlocs (l.take i)) o.f_Syms k])
  old : ∀ b, b < N1 → σ.blks.get b = σ1.blks.get b
  nx : N1 ≤ σ.next
  mod : G.map (fun x => (x.1, x.2.v)) = foldM [] (pre l i k o.f_Syms)
  ob : bo < σ.next ∧ σ.blks.get bo = some (.cells oc 29)
/-- the code of one symbol -/
noncomputable def symCode : Code := subC [1,1,1,1, 0,1, 0, 0, 1,1,0, 0, 1,1,1,1, 0, 0, 1,1,0] (bodyF Try.f7)
end Go.DM
namespace Go.DM
open Go Go.Proofs Go.RowKit
set_option maxRecDepth 100000
theorem Tab.rowGet {N0 bT bM : Nat} {σ : St} {G : List (ByteArray × Gr)} {defs : List TDef} {rws : List A} {xs : List (List Int)} (h : Tab N0 bT bM σ G defs rws xs) {i : Nat} {ys : List Int} (hi : xs[i]? = some ys) (hy : ys ≠ []) :
    ∃ b, rws[i]? = some (.ms b 0 ys.length ys.length) ∧ N0 ≤ b ∧ b < σ.next ∧ σ.blks.get b = some (.cells (ys.map fun x => vI x) 3) := by
  have hl := h.row.length
  have hlt : i < rws.length := by rw [hl]; exact (List.getElem?_eq_some_iff.1 hi).1
  have hr := h.row.get (List.getElem?_eq_getElem hlt) hi
  rcases hr with ⟨h1, _⟩ | ⟨b, h1, h2, h3, h4⟩
  · exact absurd h1 hy
  · exact ⟨b, by rw [List.getElem?_eq_getElem hlt, h1], h2, h3, h4⟩
section
variable {σ1 : St} {l : List TObj} {N1 bT bM i bo : Nat} {oc rws : List A} {b2 n : Nat} {a : A} {cs : List A} {ap : Ap} {Q : X → Fr → St → Prop}
theorem sym_local (hi : i < l.length) (hc : Cells rTSym cs l[i].f_Syms) (hsz : cntS l ≤ 2000000) (q : L2 σ1 l N1 bT bM i bo l[i] oc rws) (hk : q.k < l[i].f_Syms.length) (hb : l[i].f_Syms[q.k].f_Bind = 0)
    (h : ∀ q' : L2 σ1 l N1 bT bM i bo l[i] oc rws, q'.k = q.k + 1 → Q .normal (F2 a b2 bT bM n i bo (.sl 6 cs ap) l[i].f_Syms.length q.k) q'.σ) :
    Ex cfgW 195 symCode (F2 a b2 bT bM n i bo (.sl 6 cs ap) l[i].f_Syms.length q.k) q.σ Q := by
  have hlen : cs.length / 6 = l[i].f_Syms.length := by rw [hc.length]; exact Nat.mul_div_cancel _ (by decide)
  obtain ⟨c, hrc, hat⟩ := hc.at (i := q.k) (List.getElem?_eq_getElem hk)
  generalize hs : l[i].f_Syms[q.k] = s at hb hrc
  obtain rfl : c = symC s := hrc
  refine Ex.block ?_
  refine Ex.seq (Ex.region ?_)
  refine ExO.val (x := vI q.k) rfl rfl rfl ?_
  refine ExO.val rfl (op_atM (j := q.k) (sz := 6) rfl rfl rfl Try.underlying26 rfl (by decide) (by rw [hlen]; exact hk)) rfl ?_
  refine ExO.val (x := .agg (symC s)) rfl (op_load rfl rfl (load_at (i := _) hat rfl rfl rfl)) rfl ?_
  refine ExO.val (x := .ptr q.σ.next 0) (σ' := q.σ.push (.cells [vS (ByteArray.mk #[]), vI 0, vI 0, vI 0, vI 0, vI 0] 31)) rfl rfl rfl ?_
  refine ExO.val (x := vI q.k) rfl rfl rfl ?_
  refine ExO.skip rfl (op_storeM (cs' := symC s) rfl rfl rfl (push_getM _ _) rfl rfl rfl (Nat.le_refl _) rfl) rfl (ExO.nil ?_)
  have kp : Keep q.σ ((q.σ.push (.cells [vS (ByteArray.mk #[]), vI 0, vI 0, vI 0, vI 0, vI 0] 31)).put q.σ.next (.cells (symC s) 31)) := (Keep.push _ _).putNew _ (Nat.le_refl _)
  have nx2 : ((q.σ.push (.cells [vS (ByteArray.mk #[]), vI 0, vI 0, vI 0, vI 0, vI 0] 31)).put q.σ.next (.cells (symC s) 31)).next = q.σ.next + 1 := rfl
  have d2 : ((q.σ.push (.cells [vS (ByteArray.mk #[]), vI 0, vI 0, vI 0, vI 0, vI 0] 31)).put q.σ.next (.cells (symC s) 31)).blks.get q.σ.next = some (.cells (symC s) 31) := put_getM _ _ _
  generalize (q.σ.push (.cells [vS (ByteArray.mk #[]), vI 0, vI 0, vI 0, vI 0, vI 0] 31)).put q.σ.next (.cells (symC s) 31) = σ2 at kp nx2 d2 ⊢
  refine Ex.seq (Ex.seq (Ex.region ?_))
  refine ExO.val (x := .ptr q.σ.next 1) rfl rfl rfl (ExO.val (x := vI s.f_Bind) rfl (op_loadM rfl rfl d2 rfl) rfl (ExO.val (x := vB true) rfl (val_bl rfl (by simp [hb])) rfl (ExO.nil ?_)))
  refine Ex.cond (t := true) rfl ?_
  -- the row
  have tab2 := q.tab.keep kp
  have hrl : rws.length = i + 1 := by
    have := tab2.row.length
    rw [this, List.length_append, rowsFrom_len, List.length_take, List.length_singleton]; omega
  have hfl : (rowsFrom 0 (l.take i)).length = i := by rw [rowsFrom_len, List.length_take]; omega
  have hxi : (rowsFrom 0 (l.take i) ++ [rowP (nlocs (l.take i)) l[i].f_Syms q.k])[i]? = some (rowP (nlocs (l.take i)) l[i].f_Syms q.k) := by
    rw [List.getElem?_append_right (by omega), hfl, Nat.sub_self]; rfl
  have hpl := rowP_len (nlocs (l.take i)) l[i].f_Syms q.k q.hk
  obtain ⟨br, hbr, hb0, hb1, hb2⟩ := tab2.rowGet hxi (by intro e; rw [e] at hpl; simp at hpl; omega)
  rw [hpl] at hbr
  obtain ⟨aD, aO, ht, hD, hO⟩ := tab2.tab
  obtain ⟨idO, rfl⟩ : ∃ id, aO = .sl 1 rws (.gr id) := by
    rcases hO with ⟨_, e⟩ | ⟨id, e, _⟩
    · rw [e] at hrl; simp at hrl
    · exact ⟨id, e⟩
  have hfd := flat_len (locD (pre l i q.k l[i].f_Syms))
  have hset := rowP_set (nlocs (l.take i)) l[i].f_Syms q.k hk (by rw [hs]; exact hb)
  have hnl : (locD (pre l i q.k l[i].f_Syms)).length = nlocs (l.take i) + nloc (l[i].f_Syms.take q.k) := by
    unfold pre
    rw [locD_app, List.length_append, locD_from, locD_map]
  refine Ex.seq (Ex.drawn (by kernel_rfl) ?_)
  refine ExD.val (x := .ptr bT 1) rfl rfl rfl rfl rfl ?_
  refine ExD.val (x := .sl 1 rws (.gr idO)) rfl rfl (opQ_loadM rfl rfl ht rfl) rfl rfl ?_
  refine ExD.val (x := vI i) rfl rfl rfl rfl rfl ?_
  refine ExD.val (x := .sp rws (i * 1) .no) rfl rfl (opQ_of_op (op_atM (j := i) (sz := 1) rfl rfl rfl Try.underlying34 rfl (by decide) (by rw [Nat.div_one]; omega)) rfl) rfl rfl ?_
  refine ExD.val (x := .ms br 0 l[i].f_Syms.length l[i].f_Syms.length) rfl rfl (opQ_of_op (op_load rfl rfl (load_one (by rw [Nat.mul_one]; exact hbr) rfl rfl)) rfl) rfl rfl ?_
  refine ExD.val (x := vI q.k) rfl rfl rfl rfl rfl ?_
  refine ExD.val (x := .ptr bT 0) rfl rfl rfl rfl rfl ?_
  refine ExD.val (x := aD) rfl rfl (opQ_loadM rfl rfl ht rfl) rfl rfl ?_
  refine ExD.val (x := vI (locD (pre l i q.k l[i].f_Syms)).length) rfl rfl ?_ rfl rfl ?_
  · rcases hD with ⟨rfl, e⟩ | ⟨id, rfl, _⟩
    · rw [e] at hfd
      have : (locD (pre l i q.k l[i].f_Syms)).length = 0 := by simp at hfd; omega
      rw [this]; exact opQ_lenN rfl rfl rfl rfl rfl Try.underlying33
    · exact opQ_lenM rfl rfl rfl rfl rfl Try.underlying33 (by rw [hfd]; exact Nat.mul_div_cancel _ (by decide))
  refine ExD.val (x := .ptr br (0 + q.k * 1)) rfl rfl (opQ_of_op (op_atMs (j := q.k) (sz := 1) rfl rfl rfl Try.underlying43 rfl hk) rfl) rfl rfl ?_
  refine ExD.loud (x := und) (σ' := σ2.put br (.cells ((rowP (nlocs (l.take i)) l[i].f_Syms (q.k + 1)).map fun x => vI x) 3)) rfl rfl (.inr ⟨op_storeM (n := 1) rfl rfl rfl hb2 rfl rfl rfl (by rw [List.length_map, hpl]; omega) (by rw [hset, ← hnl]; exact splice_set _ _ _ (by rw [hpl]; exact hk)), rfl⟩) rfl rfl (ExD.nil ?_)
  have hpl' := rowP_len (nlocs (l.take i)) l[i].f_Syms (q.k + 1) hk
  have tab3 := tab2.write (row' := rowP (nlocs (l.take i)) l[i].f_Syms (q.k + 1)) (by rw [hpl']; exact hbr) hb0 hb1 hb2
  rw [show (rowsFrom 0 (l.take i) ++ [rowP (nlocs (l.take i)) l[i].f_Syms q.k]).set i (rowP (nlocs (l.take i)) l[i].f_Syms (q.k + 1)) = rowsFrom 0 (l.take i) ++ [rowP (nlocs (l.take i)) l[i].f_Syms (q.k + 1)] by
    rw [List.set_append_right _ _ (by omega), hfl, Nat.sub_self]; rfl] at tab3
  have d3 : (σ2.put br (.cells ((rowP (nlocs (l.take i)) l[i].f_Syms (q.k + 1)).map fun x => vI x) 3)).blks.get q.σ.next = some (.cells (symC s) 31) := (put_neM (ne_of_get d2 hb2 (cells_ne (by decide)))).trans d2
  have ob3 : (σ2.put br (.cells ((rowP (nlocs (l.take i)) l[i].f_Syms (q.k + 1)).map fun x => vI x) 3)).blks.get bo = some (.cells oc 29) := by
    have h2 := (kp.get _ q.ob.1).trans q.ob.2
    exact (put_neM (ne_of_get h2 hb2 (cells_ne (by decide)))).trans h2
  have old3 : ∀ b, b < N1 → (σ2.put br (.cells ((rowP (nlocs (l.take i)) l[i].f_Syms (q.k + 1)).map fun x => vI x) 3)).blks.get b = σ1.blks.get b := fun b hb => by
    rw [put_neM (by omega), kp.get b (Nat.lt_of_lt_of_le hb q.nx)]; exact q.old b hb
  have nx3 : (σ2.put br (.cells ((rowP (nlocs (l.take i)) l[i].f_Syms (q.k + 1)).map fun x => vI x) 3)).next = q.σ.next + 1 := nx2
  generalize σ2.put br (.cells ((rowP (nlocs (l.take i)) l[i].f_Syms (q.k + 1)).map fun x => vI x) 3) = σ3 at tab3 d3 ob3 old3 nx3 ⊢
  clear ht hD hO hb2 hbr hset
  obtain ⟨aD, aO, ht, hD, hO⟩ := tab3.tab
  have hple := pre_len hi q.hk
  have hdle := locD_le (pre l i q.k l[i].f_Syms)
  obtain ⟨a', σ4, happ, hD4, hb4, hn4, hT4, hlv⟩ := SlE.app (P := cfgW.P) (t := 33) (new := defC (defV i s)) (x := .sl 6 (defC (defV i s)) .ex) hD Try.underlying33 rfl rfl (by decide) (by simp [defC]) rfl rfl rfl (by decide) (by
    show (2 * ((((locD (pre l i q.k l[i].f_Syms)).flatMap defC).length + 6) / 6) + 1024) * 56 ≤ 281474976710656
    omega)
  have hO4 : SlE σ4 1 43 aO rws := by
    rcases hO with g | ⟨id, g1, g2, g3⟩
    · exact .inl g
    · exact .inr ⟨id, g1, hlv id 43 g2 (by decide) g3, by omega⟩
  refine Ex.seq (Ex.drawn (by kernel_rfl) ?_)
  refine ExD.val (x := .ptr bT 0) rfl rfl rfl rfl rfl ?_
  refine ExD.val (x := aD) rfl rfl (opQ_loadM rfl rfl ht rfl) rfl rfl ?_
  refine ExD.val (x := vI i) rfl rfl rfl rfl rfl ?_
  refine ExD.val (x := .agg (symC s)) rfl rfl (opQ_loadM rfl rfl d3 rfl) rfl rfl ?_
  refine ExD.call rfl rfl rfl (cl_def i s σ3) (stF_b rfl (stF_b rfl (stF_s (opQ_loadM rfl rfl ht rfl) (stF_p rfl rfl)))) rfl ?_
  refine ExD.val (x := .sl 6 (defC (defV i s)) .ex) rfl rfl rfl rfl rfl ?_
  refine ExD.loud (x := a') (σ' := σ4) rfl rfl (.inl (op_app rfl rfl rfl rfl rfl rfl rfl Try.underlying33 rfl happ)) rfl rfl ?_
  refine ExD.val (x := .ptr bT 0) rfl rfl rfl rfl rfl ?_
  have ht4 : σ4.blks.get bT = some (.cells [aD, aO] 36) := by rw [hb4]; exact ht
  refine ExD.loud (x := und) (σ' := σ4.put bT (.cells [a', aO] 36)) rfl rfl (.inr ⟨op_storeM (n := 1) rfl rfl rfl ht4 rfl (by rw [hD4.one.1]; rfl) (by rw [hD4.one.1]; exact hD4.one.2) (Nat.le_of_ble_eq_true rfl) (by rw [hD4.one.1]; rfl), rfl⟩) rfl rfl (ExD.nil ?_)
  refine Ex.exitw (ψ := F2 a b2 bT bM n i bo (.sl 6 cs ap) l[i].f_Syms.length q.k) (F2_le (F1_le rfl rfl rfl rfl rfl rfl rfl rfl) rfl rfl rfl rfl rfl) ?_
  have hps := pre_succ (l := l) (i := i) hk
  rw [hs] at hps
  have hld : locD (pre l i (q.k + 1) l[i].f_Syms) = locD (pre l i q.k l[i].f_Syms) ++ [defV i s] := by
    rw [hps, locD_app, locD, if_pos hb]; rfl
  refine h ⟨q.k + 1, hk, σ4.put bT (.cells [a', aO] 36), q.G, ?_, ?_, ?_, ?_, ?_⟩ rfl
  · refine tab3.set hb4 hn4 ?_ hO4 tab3.row tab3.nor
    have hD5 : SlE σ4 6 42 a' ((locD (pre l i q.k l[i].f_Syms)).flatMap defC ++ defC (defV i s)) := hD4
    rw [hld, List.flatMap_append, List.flatMap_cons, List.flatMap_nil, List.append_nil]
    exact hD5
  · intro b hb
    rw [put_neM (by have := tab3.t0; omega), hb4]; exact old3 b hb
  · show N1 ≤ σ4.next
    have := q.nx
    omega
  · rw [hps, foldM_app, ← q.mod]
    show _ = stepM _ _ _
    unfold stepM
    rw [if_pos hb]
  · refine ⟨by show bo < σ4.next; have := q.ob.1; omega, ?_⟩
    have h4 : σ4.blks.get bo = some (.cells oc 29) := by rw [hb4]; exact ob3
    exact (put_neM (ne_of_get h4 ht4 (cells_ne (by decide)))).trans h4
end
end Go.DM
namespace Go.DM
open Go Go.Proofs Go.RowKit
set_option maxRecDepth 100000
theorem addG_b (g : Gr) (d : Nat) (k : Int) (s : TSym) : (addG g d k s).b = g.b := by
  unfold addG
  split
  · split <;> rfl
  · split <;> rfl
theorem addG_defs (g : Gr) (d : Nat) (k : Int) (s : TSym) (e : Nat × TDef) : (addG g d k s).s = some e ∨ (addG g d k s).c = some e ∨ (addG g d k s).w = some e → (g.s = some e ∨ g.c = some e ∨ g.w = some e) ∨ e = (d, defV k s) := by
  unfold addG
  split
  · split
    · rintro (h | h | h)
      · simp at h; exact .inr h.symm
      · exact .inl (.inr (.inl h))
      · exact .inl (.inr (.inr h))
    · rintro (h | h | h)
      · exact .inl (.inl h)
      · exact .inl (.inr (.inl h))
      · simp at h; exact .inr h.symm
  · split
    · rintro (h | h | h)
      · exact .inl (.inl h)
      · simp at h; exact .inr h.symm
      · exact .inl (.inr (.inr h))
    · exact fun h => .inl h
section
variable {σ1 : St} {l : List TObj} {N1 bT bM i bo : Nat} {oc rws : List A} {b2 n : Nat} {a : A} {cs : List A} {ap : Ap} {Q : X → Fr → St → Prop}
theorem sym_other (hi : i < l.length) (hc : Cells rTSym cs l[i].f_Syms) (q : L2 σ1 l N1 bT bM i bo l[i] oc rws) (hk : q.k < l[i].f_Syms.length) (hb : l[i].f_Syms[q.k].f_Bind ≠ 0)
    (hok : OkAdd (lookG g0 (foldM [] (pre l i q.k l[i].f_Syms)) l[i].f_Syms[q.k].f_Name) l[i].f_Syms[q.k])
    (h : ∀ q' : L2 σ1 l N1 bT bM i bo l[i] oc rws, q'.k = q.k + 1 → Q .normal (F2 a b2 bT bM n i bo (.sl 6 cs ap) l[i].f_Syms.length q.k) q'.σ) :
    Ex cfgW 195 symCode (F2 a b2 bT bM n i bo (.sl 6 cs ap) l[i].f_Syms.length q.k) q.σ Q := by
  have hlen : cs.length / 6 = l[i].f_Syms.length := by rw [hc.length]; exact Nat.mul_div_cancel _ (by decide)
  have hps := pre_succ (l := l) (i := i) hk
  have hrs := rowP_skip (nlocs (l.take i)) l[i].f_Syms q.k hk hb
  obtain ⟨c, hrc, hat⟩ := hc.at (i := q.k) (List.getElem?_eq_getElem hk)
  generalize hs : l[i].f_Syms[q.k] = s at hb hrc hok hps
  obtain rfl : c = symC s := hrc
  have rest : ∀ (σ4 : St) (G4 : List (ByteArray × Gr)) (g : Gr), Tab N1 bT bM σ4 G4 (locD (pre l i q.k l[i].f_Syms)) rws (rowsFrom 0 (l.take i) ++ [rowP (nlocs (l.take i)) l[i].f_Syms q.k]) → lookO G4 s.f_Name = some g →
      σ4.blks.get q.σ.next = some (.cells (symC s) 31) → σ4.blks.get bo = some (.cells oc 29) → (∀ b, b < N1 → σ4.blks.get b = σ1.blks.get b) → q.σ.next < σ4.next →
      (∀ x, updG (G4.map fun x => (x.1, x.2.v)) s.f_Name x = updG (foldM [] (pre l i q.k l[i].f_Syms)) s.f_Name x) → g.v = lookG g0 (foldM [] (pre l i q.k l[i].f_Syms)) s.f_Name →
      Ex cfgW 195 (subC [0,1,1,1,1] symCode) (((F2 a b2 bT bM n i bo (.sl 6 cs ap) l[i].f_Syms.length q.k).set 10 (.ptr q.σ.next 0)).set 11 (ptrG g)) σ4 (Blk' 3 Q) := by
    intro σ4 G4 g tab4 hl d4 ob4 old4 nx4 hup hgv
    have hg := tab4.grp _ (lookO_mem hl)
    rw [← hgv] at hok
    obtain ⟨k1, k2, k3⟩ := hok
    obtain ⟨x, σ5, hcl, rfl, hg5, hd5, ho5, hn5, ht5, hT5⟩ := add_ca s (i : Int) hg.blk hg.lt (fun p1 p2 => by have := k1 p1 p2; simpa [Gr.v] using this) (fun p1 p2 => by have := k2 p1 p2; simpa [Gr.v] using this) (fun p1 p2 => by have := k3 p1 p2; simpa [Gr.v] using this)
    refine Ex.seq (Ex.region ?_)
    refine ExO.val (x := .ptr g.b 0) rfl rfl rfl (ExO.val (x := .ptr g.b 0) rfl rfl rfl (ExO.val (x := .ptr g.b 3) rfl rfl rfl ?_))
    refine ExO.val (x := vB false) rfl (op_loadM rfl rfl hg.blk rfl) rfl (ExO.val (x := vB false) rfl rfl rfl (ExO.nil ?_))
    refine Ex.seq (Ex.region ?_)
    refine ExO.val (x := .ptr g.b 0) rfl rfl rfl (ExO.val (x := vI i) rfl rfl rfl (ExO.val (x := .agg (symC s)) rfl (op_loadM rfl rfl d4 rfl) rfl ?_))
    refine ExO.call rfl rfl hcl rfl (ExO.nil ?_)
    refine Ex.region ?_
    refine ExO.val (x := .ptr g.b 0) rfl rfl rfl (ExO.val (x := .ptr g.b 0) rfl rfl rfl (ExO.val (x := .ptr g.b 0) rfl rfl rfl (ExO.val (x := .ptr g.b 3) rfl rfl rfl ?_)))
    refine ExO.val (x := vB false) rfl (op_loadM rfl rfl hg5 rfl) rfl (ExO.val (x := vB false) rfl rfl rfl (ExO.val (x := vB false) rfl rfl rfl (ExO.val (x := vB false) rfl rfl rfl ?_)))
    refine ExO.val (x := .ptr g.b 0) rfl rfl rfl (ExO.val (x := .ptr g.b 3) rfl rfl rfl ?_)
    refine ExO.skip rfl (op_storeM (n := 1) (cs' := grC (addG g (σ4.next + 1) i s)) rfl rfl rfl hg5 rfl rfl rfl (Nat.le_of_ble_eq_true rfl) rfl) rfl ?_
    refine ExO.nilw (ψ := F2 a b2 bT bM n i bo (.sl 6 cs ap) l[i].f_Syms.length q.k) (F2_le (F1_le rfl rfl rfl rfl rfl rfl rfl rfl) rfl rfl rfl rfl rfl) ?_
    have hld : locD (pre l i (q.k + 1) l[i].f_Syms) = locD (pre l i q.k l[i].f_Syms) := by
      rw [hps, locD_app, locD, if_neg hb]; exact List.append_nil _
    have tab6 := tab4.chg (σ' := σ5.put g.b (.cells (grC (addG g (σ4.next + 1) i s)) 54)) hl (g' := addG g (σ4.next + 1) i s) (addG_b _ _ _ _) (put_getM _ _ _) (fun b p1 p2 => (put_neM p2).trans (ho5 b p1 p2)) (by show σ4.next ≤ σ5.next; omega) ht5 hT5 (fun d hd => by
      rcases addG_defs _ _ _ _ _ hd with hd | rfl
      · exact .inl hd
      · exact .inr ⟨by show σ4.next + 1 < σ5.next; omega, (put_neM (by have p : g.b < σ4.next := hg.lt; show σ4.next + 1 ≠ g.b; omega)).trans hd5⟩)
    refine h ⟨q.k + 1, hk, σ5.put g.b (.cells (grC (addG g (σ4.next + 1) i s)) 54), updG G4 s.f_Name (addG g (σ4.next + 1) i s), ?_, ?_, ?_, ?_, ?_⟩ rfl
    · rw [hld, hrs]; exact tab6
    · intro b hb
      have p : N1 ≤ g.b := hg.lo
      have := tab4.t1
      have := tab4.t0
      rw [put_neM (by omega), ho5 b (by omega) (by show b ≠ g.b; omega)]; exact old4 b hb
    · show N1 ≤ σ5.next
      have := tab4.t1
      have := tab4.t0
      omega
    · rw [updG_mapv (fun g : Gr => g.v), hup, addG_v, hgv, hps, foldM_app]
      show _ = stepM _ _ _
      unfold stepM
      rw [if_neg hb]
    · have hbo : bo < σ4.next := by have := q.ob.1; omega
      have hne := ne_of_get ob4 hg.blk (cells_ne (by decide))
      exact ⟨by show bo < σ5.next; omega, (put_neM hne).trans ((ho5 bo hbo hne).trans ob4)⟩
  refine Ex.block ?_
  refine Ex.seq (Ex.region ?_)
  refine ExO.val (x := vI q.k) rfl rfl rfl ?_
  refine ExO.val rfl (op_atM (j := q.k) (sz := 6) rfl rfl rfl Try.underlying26 rfl (by decide) (by rw [hlen]; exact hk)) rfl ?_
  refine ExO.val (x := .agg (symC s)) rfl (op_load rfl rfl (load_at (i := _) hat rfl rfl rfl)) rfl ?_
  refine ExO.val (x := .ptr q.σ.next 0) (σ' := q.σ.push (.cells [vS (ByteArray.mk #[]), vI 0, vI 0, vI 0, vI 0, vI 0] 31)) rfl rfl rfl ?_
  refine ExO.val (x := vI q.k) rfl rfl rfl ?_
  refine ExO.skip rfl (op_storeM (cs' := symC s) rfl rfl rfl (push_getM _ _) rfl rfl rfl (Nat.le_refl _) rfl) rfl (ExO.nil ?_)
  have kp : Keep q.σ ((q.σ.push (.cells [vS (ByteArray.mk #[]), vI 0, vI 0, vI 0, vI 0, vI 0] 31)).put q.σ.next (.cells (symC s) 31)) := (Keep.push _ _).putNew _ (Nat.le_refl _)
  have nx2 : ((q.σ.push (.cells [vS (ByteArray.mk #[]), vI 0, vI 0, vI 0, vI 0, vI 0] 31)).put q.σ.next (.cells (symC s) 31)).next = q.σ.next + 1 := rfl
  have d2 : ((q.σ.push (.cells [vS (ByteArray.mk #[]), vI 0, vI 0, vI 0, vI 0, vI 0] 31)).put q.σ.next (.cells (symC s) 31)).blks.get q.σ.next = some (.cells (symC s) 31) := put_getM _ _ _
  generalize (q.σ.push (.cells [vS (ByteArray.mk #[]), vI 0, vI 0, vI 0, vI 0, vI 0] 31)).put q.σ.next (.cells (symC s) 31) = σ2 at kp nx2 d2 ⊢
  refine Ex.seq (Ex.seq (Ex.region ?_))
  refine ExO.val (x := .ptr q.σ.next 1) rfl rfl rfl (ExO.val (x := vI s.f_Bind) rfl (op_loadM rfl rfl d2 rfl) rfl (ExO.val (x := vB false) rfl (val_bl rfl (by simp [hb])) rfl (ExO.nil ?_)))
  refine Ex.cond (t := false) rfl (Ex.skip ?_)
  have tab2 := q.tab.keep kp
  have ob2 : σ2.blks.get bo = some (.cells oc 29) := (kp.get _ q.ob.1).trans q.ob.2
  have old2 : ∀ b, b < N1 → σ2.blks.get b = σ1.blks.get b := fun b hb => (kp.get b (Nat.lt_of_lt_of_le hb q.nx)).trans (q.old b hb)
  have hlk := lookO_map (fun g : Gr => g.v) s.f_Name q.G
  rw [q.mod] at hlk
  refine Ex.seq (Ex.region ?_)
  refine ExO.val (x := .mp bM) rfl rfl rfl (ExO.val (x := .ptr q.σ.next 0) rfl rfl rfl (ExO.val (x := vS s.f_Name) rfl (op_loadM rfl rfl d2 rfl) rfl ?_))
  cases hl : lookO q.G s.f_Name with
  | some g =>
    rw [hl] at hlk
    refine ExO.val (x := .tup [ptrG g, vB true]) rfl (op_lookS tab2.map hl rfl rfl rfl rfl) rfl ?_
    refine ExO.val (x := .tup [ptrG g, vB true]) rfl rfl rfl (ExO.val (x := ptrG g) rfl rfl rfl (ExO.val (x := vB true) rfl rfl rfl (ExO.val (x := ptrG g) rfl rfl rfl (ExO.val (x := vB true) rfl rfl rfl (ExO.nil ?_)))))
    refine Ex.seq (Ex.seq (Ex.region ?_))
    refine ExO.val (x := vB true) rfl rfl rfl (ExO.val (x := vB false) rfl rfl rfl (ExO.nil ?_))
    refine Ex.cond (t := false) rfl (Ex.skip ?_)
    exact Ex.up (frS_le rfl (frS_le rfl (F2_le (F1_le rfl rfl rfl rfl rfl rfl rfl rfl) rfl rfl rfl rfl rfl))) (rest σ2 q.G g tab2 hl d2 ob2 old2 (by omega) (fun x => by rw [q.mod]) (by rw [lookG_O, hlk]; rfl))
  | none =>
    rw [hl] at hlk
    refine ExO.val (x := .tup [.v (.pointer none), vB false]) rfl (op_lookN tab2.map hl rfl rfl rfl rfl rfl) rfl ?_
    refine ExO.val (x := .tup [.v (.pointer none), vB false]) rfl rfl rfl (ExO.val (x := .v (.pointer none)) rfl rfl rfl (ExO.val (x := vB false) rfl rfl rfl (ExO.val (x := .v (.pointer none)) rfl rfl rfl (ExO.val (x := vB false) rfl rfl rfl (ExO.nil ?_)))))
    refine Ex.seq (Ex.seq (Ex.region ?_))
    refine ExO.val (x := vB false) rfl rfl rfl (ExO.val (x := vB true) rfl rfl rfl (ExO.nil ?_))
    refine Ex.cond (t := true) rfl ?_
    have tab4 := tab2.born (Nat.le_trans q.nx kp.next) hl
    refine Ex.seq (Ex.region ?_)
    refine ExO.val (x := .agg (grC ⟨σ2.next, none, none, none, false⟩)) rfl rfl rfl ?_
    refine ExO.val (x := .ptr σ2.next 0) (σ' := σ2.push (.cells (grC ⟨σ2.next, none, none, none, false⟩) 54)) rfl rfl rfl (ExO.val (x := .ptr σ2.next 0) rfl rfl rfl (ExO.nil ?_))
    refine Ex.region ?_
    have kq := kp.trans (Keep.push σ2 (.cells (grC ⟨σ2.next, none, none, none, false⟩) 54))
    have d3 := ((Keep.push σ2 (.cells (grC ⟨σ2.next, none, none, none, false⟩) 54)).get q.σ.next (by omega)).trans d2
    have m3 := ((Keep.push σ2 (.cells (grC ⟨σ2.next, none, none, none, false⟩) 54)).get bM tab2.m1).trans tab2.map
    have o3 := ((Keep.push σ2 (.cells (grC ⟨σ2.next, none, none, none, false⟩) 54)).get bo (by have := q.ob.1; omega)).trans ob2
    refine ExO.val (x := .mp bM) rfl rfl rfl (ExO.val (x := .ptr q.σ.next 0) rfl rfl rfl (ExO.val (x := vS s.f_Name) rfl (op_loadM rfl rfl d3 rfl) rfl ?_))
    refine ExO.val (x := ptrG ⟨σ2.next, none, none, none, false⟩) rfl rfl rfl ?_
    refine ExO.skip rfl (op_upd (f := ptrG) m3 rfl rfl rfl rfl rfl) rfl (ExO.nil ?_)
    refine Ex.up (frS_le rfl (frS_le rfl (F2_le (F1_le rfl rfl rfl rfl rfl rfl rfl rfl) rfl rfl rfl rfl rfl))) (rest _ (updG q.G s.f_Name ⟨σ2.next, none, none, none, false⟩) ⟨σ2.next, none, none, none, false⟩ tab4 ?_ ?_ ?_ ?_ ?_ ?_ ?_)
    · rw [look_upd, if_pos rfl]
    · exact (put_neM (ne_of_get d3 m3 (by intro e; cases e))).trans d3
    · exact (put_neM (ne_of_get o3 m3 (by intro e; cases e))).trans o3
    · intro b hb
      have := tab2.m0
      rw [put_neM (by omega), push_neM (by have := kp.next; have := q.nx; omega)]; exact old2 b hb
    · show q.σ.next < σ2.next + 1
      omega
    · intro x
      rw [updG_mapv (fun g : Gr => g.v), updG_twice, q.mod]
    · rw [lookG_O, hlk]; rfl
end
end Go.DM
namespace Go.DM
open Go Go.Proofs Go.RowKit
set_option maxRecDepth 100000
theorem add_oneM {n : Nat} (h : n < 2 ^ 40) : IntKind.i64.wrap ((n : Nat) + 1) = ((n + 1 : Nat) : Int) := by rw [wrap_i64] <;> omega
noncomputable def symsCode : Code := subC [1,1,1,1, 0,1, 0, 0, 1,1,0, 0, 1,1,1,1] (bodyF Try.f7)
section
variable {σ1 : St} {l : List TObj} {N1 bT bM i bo : Nat} {oc rws : List A} {b2 n : Nat} {a : A} {aS : A} {Q : X → Fr → St → Prop}
theorem syms_loop (hi : i < l.length) (hc : Sl rTSym aS l[i].f_Syms) (hsz : cntS l ≤ 2000000)
    (hok : ∀ (k : Nat) (hk : k < l[i].f_Syms.length), l[i].f_Syms[k].f_Bind ≠ 0 → OkAdd (lookG g0 (foldM [] (pre l i k l[i].f_Syms)) l[i].f_Syms[k].f_Name) l[i].f_Syms[k])
    (h : ∀ q' : L2 σ1 l N1 bT bM i bo l[i] oc rws, q'.k = l[i].f_Syms.length → Q .normal (F1 a b2 bT bM n i) q'.σ) (q : L2 σ1 l N1 bT bM i bo l[i] oc rws) :
    Ex cfgW 195 symsCode (F2 a b2 bT bM n i bo aS l[i].f_Syms.length q.k) q.σ Q := by
  have hm : l[i].f_Syms.length ≤ 2000000 := by
    have h1 := cntS_take l i hi
    have h2 := cntS_le l (i + 1)
    omega
  refine Ex.block (Ex.loop (fun q : L2 σ1 l N1 bT bM i bo l[i] oc rws => F2 a b2 bT bM n i bo aS l[i].f_Syms.length q.k) (fun q => q.σ) (fun q => l[i].f_Syms.length - q.k) ?_ q)
  intro q
  refine Ex.seq (Ex.region ?_)
  refine ExO.val (x := vB (decide (((q.k : Nat) : Int) < ((l[i].f_Syms.length : Nat) : Int)))) rfl rfl rfl (ExO.nil ?_)
  refine Ex.seq (Ex.split (t := decide (((q.k : Nat) : Int) < ((l[i].f_Syms.length : Nat) : Int))) rfl (fun hlt => ?_) (fun hlt => ?_))
  · have hk : q.k < l[i].f_Syms.length := by have := of_decide_eq_true hlt; omega
    refine Ex.skip ?_
    rcases hc with ⟨_, e⟩ | ⟨cs, ap, rfl, hc⟩
    · rw [e] at hk; cases hk
    refine Ex.seq (Ex.up (F2_le (F1_le rfl rfl rfl rfl rfl rfl rfl rfl) rfl rfl rfl rfl rfl) ?_)
    have fin : ∀ q' : L2 σ1 l N1 bT bM i bo l[i] oc rws, q'.k = q.k + 1 → Ex cfgW 195 (subC [1,1,1] (subC [0,0] symsCode)) (F2 a b2 bT bM n i bo (.sl 6 cs ap) l[i].f_Syms.length q.k) q'.σ (Then (fun φ' σ' => ∃ j : L2 σ1 l N1 bT bM i bo l[i] oc rws, l[i].f_Syms.length - j.k < l[i].f_Syms.length - q.k ∧ (F2 a b2 bT bM n i bo (.sl 6 cs ap) l[i].f_Syms.length j.k).le φ' ∧ σ' = j.σ) (Blk' 2 Q)) := by
      intro q' e
      refine Ex.region ?_
      refine ExO.val (x := vI ((q.k + 1 : Nat) : Int)) rfl (val_int rfl (add_oneM (n := q.k) (by omega))) rfl (ExO.val (x := vI ((q.k + 1 : Nat) : Int)) rfl rfl rfl (ExO.nil ?_))
      exact ⟨q', by omega, F2_le (F1_le rfl rfl rfl rfl rfl rfl rfl rfl) rfl rfl rfl rfl (by rw [e]; rfl), rfl⟩
    by_cases hb : l[i].f_Syms[q.k].f_Bind = 0
    · exact sym_local hi hc hsz q hk hb fin
    · exact sym_other hi hc q hk hb (hok q.k hk hb) fin
  · have hk : q.k = l[i].f_Syms.length := by have := of_decide_eq_false hlt; have := q.hk; omega
    refine Ex.exitw (ψ := F1 a b2 bT bM n i) (F1_le rfl rfl rfl rfl rfl rfl rfl rfl) ?_
    exact h q hk
end
/-- what a call leaves as it was, rights to append that are not new among it -/
structure KeepT (σ σ' : St) : Prop where
  get : ∀ b, b < σ.next → σ'.blks.get b = σ.blks.get b
  next : σ.next ≤ σ'.next
  live : ∀ id, id < σ.nextT → σ'.live id = σ.live id
  nextT : σ.nextT ≤ σ'.nextT
theorem SlE.keepT {σ σ' : St} (k : KeepT σ σ') {z : Nat} {e : TypeId} {a : A} {cs : List A} (h : SlE σ z e a cs) : SlE σ' z e a cs := by
  rcases h with h | ⟨id, h1, h2, h3⟩
  · exact .inl h
  · exact .inr ⟨id, h1, (k.live id h3).trans h2, Nat.lt_of_lt_of_le h3 k.nextT⟩
theorem RowAt.keepT {N0 : Nat} {σ σ' : St} (k : KeepT σ σ') {r : A} {xs : List Int} (h : RowAt N0 σ r xs) : RowAt N0 σ' r xs := by
  rcases h with h | ⟨b, h1, h2, h3, h4⟩
  · exact .inl h
  · exact .inr ⟨b, h1, h2, Nat.lt_of_lt_of_le h3 k.next, (k.get _ h3).trans h4⟩
theorem Tab.keepT {N0 bT bM : Nat} {σ σ' : St} (k : KeepT σ σ') {G : List (ByteArray × Gr)} {defs : List TDef} {rws : List A} {xs : List (List Int)} (h : Tab N0 bT bM σ G defs rws xs) : Tab N0 bT bM σ' G defs rws xs := by
  obtain ⟨aD, aO, h1, h2, h3⟩ := h.tab
  exact ⟨h.t0, Nat.lt_of_lt_of_le h.t1 k.next, h.m0, Nat.lt_of_lt_of_le h.m1 k.next, ⟨aD, aO, (k.get _ h.t1).trans h1, h2.keepT k, h3.keepT k⟩, (k.get _ h.m1).trans h.map, fun x hx => ⟨(h.grp x hx).lo, Nat.lt_of_lt_of_le (h.grp x hx).lt k.next, (k.get _ (h.grp x hx).lt).trans (h.grp x hx).blk, fun d hd => by
    obtain ⟨h1, h2⟩ := (h.grp x hx).defs d hd
    exact ⟨Nat.lt_of_lt_of_le h1 k.next, (k.get _ h1).trans h2⟩⟩, h.nam, h.nob, h.row.imp fun _ _ g => g.keepT k, h.nor⟩
theorem Tab.rowLt {N0 bT bM : Nat} {σ : St} {G : List (ByteArray × Gr)} {defs : List TDef} {rws : List A} {xs : List (List Int)} (h : Tab N0 bT bM σ G defs rws xs) : ∀ b ∈ rws.flatMap rowB, b < σ.next := by
  have key : ∀ {l : List A} {m : List (List Int)}, All2 (RowAt N0 σ) l m → ∀ b ∈ l.flatMap rowB, b < σ.next := by
    intro l m hm
    induction hm with
    | nil => intro b hb; cases hb
    | cons hx _ ih =>
      intro b hb
      rw [List.flatMap_cons, List.mem_append] at hb
      rcases hb with hb | hb
      · rcases hx with ⟨_, id, rfl⟩ | ⟨c, rfl, _, h3, _⟩
        · cases hb
        · simp only [rowB, List.mem_singleton] at hb; subst hb; exact h3
      · exact ih b hb
  exact key h.row
theorem rep_nil (m : Nat) : rep m [vI 0] = (List.replicate m (0 : Int)).map fun x => vI x := by
  induction m with
  | zero => rfl
  | succ m ih => rw [List.replicate_succ, List.map_cons, ← ih]; rfl
/-- a new row -/
theorem mk_row {N1 : Nat} (σ : St) (m : Nat) (hm : m ≤ 2000000) (hN : N1 ≤ σ.next) : ∃ r σ', makeSliceOp cfgW.P 43 (vI m) (vI m) σ = some (r, σ') ∧ KeepT σ σ' ∧ RowAt N1 σ' r (List.replicate m 0) ∧ ((∃ id, r = .sl 1 [] (.gr id)) ∨ ∃ b, r = .ms b 0 m m) ∧ (∀ b ∈ rowB r, σ.next ≤ b) ∧ (rowB r).Nodup := by
  have hz : ∀ m : Nat, m ≤ 2000000 → makeSliceOp cfgW.P 43 (vI m) (vI m) σ = if m = 0 then some (.sl 1 [] (.gr σ.nextT), σ.tok 3) else some (.ms σ.next 0 m m, σ.push (.cells (rep m [vI 0]) 3)) := by
    intro m hm
    have hc : m ≤ m ∧ 8 * m ≤ 140737488355328 ∧ m < 9223372036854775808 ∧ 0 < 1 := by omega
    have hn : asNat (vI m) = some m := by
      show (if (0 : Int) ≤ (m : Int) then some (m : Int).toNat else none) = _
      rw [if_pos (Int.natCast_nonneg m), Int.toNat_natCast]
    unfold makeSliceOp
    rw [hn, show cfgW.P.underlying 43 = some (.slice 3) from Try.underlying43]
    exact (if_pos hc).trans rfl
  rw [hz m hm]
  by_cases h0 : m = 0
  · subst h0
    refine ⟨_, _, if_pos rfl, ⟨fun _ _ => rfl, Nat.le_refl _, fun id h => ?_, Nat.le_succ _⟩, .inl ⟨rfl, _, rfl⟩, .inl ⟨_, rfl⟩, (fun b hb => by cases hb), List.nodup_nil⟩
    simp only [St.live, St.tok, Tr.get_set]
    rw [if_neg (by omega)]
  · refine ⟨_, _, if_neg h0, ⟨fun b hb => push_neM hb, Nat.le_succ _, fun id h => rfl, Nat.le_refl _⟩, .inr ⟨σ.next, by rw [List.length_replicate], hN, Nat.lt_succ_self _, by rw [push_getM, rep_nil]⟩, .inr ⟨_, rfl⟩, (fun b hb => by simp only [rowB, List.mem_singleton] at hb; omega), by simp [rowB]⟩
end Go.DM
namespace Go.DM
open Go Go.Proofs Go.RowKit
set_option maxRecDepth 100000
theorem pre_zero (l : List TObj) (i : Nat) (ss : List TSym) : pre l i 0 ss = symsFrom 0 (l.take i) := by
  unfold pre; rw [List.take_zero, List.map_nil, List.append_nil]
theorem pre_all {l : List TObj} {i : Nat} (h : i < l.length) : pre l i l[i].f_Syms.length l[i].f_Syms = symsFrom 0 (l.take (i + 1)) := by
  rw [← pre_next h, pre_zero]
theorem rows_next {l : List TObj} {i : Nat} (h : i < l.length) : rowsFrom 0 (l.take (i + 1)) = rowsFrom 0 (l.take i) ++ [rowM (nlocs (l.take i)) l[i].f_Syms] := by
  rw [List.take_add_one, List.getElem?_eq_getElem h, rowsFrom_app, Nat.zero_add]
  rfl
theorem op_mk {C : Cfg} {ρ : Operand → Option A} {o : Oper} {σ : St} {t : TypeId} {x y : Operand} {a b r : A} {σ' : St} (hop : o.op = .makeSlice t x y) (hx : ρ x = some a) (hy : ρ y = some b) (h : makeSliceOp C.P t a b σ = some (r, σ')) : op C ρ o σ = some (.val r σ') := by
  simp only [op, hop, hx, hy, h]; rfl
/-- the state behind the first i objects -/
structure L1 (σ1 : St) (l : List TObj) (N1 bT bM : Nat) where
  i : Nat
  hi : i ≤ l.length
  σ : St
  G : List (ByteArray × Gr)
  rws : List A
  tab : Tab N1 bT bM σ G (locD (symsFrom 0 (l.take i))) rws (rowsFrom 0 (l.take i))
  old : ∀ b, b < N1 → σ.blks.get b = σ1.blks.get b
  nx : N1 ≤ σ.next
  mod : G.map (fun x => (x.1, x.2.v)) = foldM [] (symsFrom 0 (l.take i))
noncomputable def objCode : Code := subC [1,1,1,1, 0,1, 0, 0, 1,1,0] (bodyF Try.f7)
noncomputable def objsCode : Code := subC [1,1,1,1, 0,1] (bodyF Try.f7)
section
variable {σ1 : St} {l : List TObj} {N1 bT bM : Nat} {b2 n : Nat} {cs : List A} {ap : Ap} {Q : X → Fr → St → Prop} {N : Nat} {lkB : TObj → Bool} {m0 : Int}
/-- an answer that ends the function -/
def Bad (σ1 : St) (N1 b2 : Nat) (nm : ByteArray) (e : Int) (φ : Fr) (σ' : St) : Prop := φ.ds = [] ∧ φ.s.get 2 = some (.ptr b2 0) ∧ φ.s.get 3 = some (vS nm) ∧ φ.s.get 4 = some (vI e) ∧ σ'.blks.get b2 = some (.cells [nilS, nilS] 36) ∧ (∀ b, b < N1 → b ≠ b2 → σ'.blks.get b = σ1.blks.get b) ∧ N1 ≤ σ'.next
theorem obj_step (hc : Cells rTObj cs l) (hk : ∀ o ∈ l, gresolve_linkable N o = some (lkB o)) (hsz : cntS l ≤ 2000000) (hl : l.length ≤ 64) (hm0 : ∀ o, l[0]? = some o → o.f_Machine = m0)
    (hok : ∀ (i : Nat) (hi : i < l.length) (k : Nat) (hk : k < l[i].f_Syms.length), l[i].f_Syms[k].f_Bind ≠ 0 → OkAdd (lookG g0 (foldM [] (pre l i k l[i].f_Syms)) l[i].f_Syms[k].f_Name) l[i].f_Syms[k])
    (hb2 : b2 < N1) (hr2 : σ1.blks.get b2 = some (.cells [nilS, nilS] 36)) (q : L1 σ1 l N1 bT bM) (hi : q.i < l.length)
    (hbad : lkB l[q.i] = false ∨ l[q.i].f_Machine ≠ m0 → ∀ φ σ', Bad σ1 N1 b2 (ByteArray.mk #[]) 201 φ σ' → Q .ret φ σ')
    (h : lkB l[q.i] = true → l[q.i].f_Machine = m0 → ∀ q' : L1 σ1 l N1 bT bM, q'.i = q.i + 1 → Q .normal (F1 (.sl 4 cs ap) b2 bT bM n q.i) q'.σ) :
    Ex cfgW 195 objCode (F1 (.sl 4 cs ap) b2 bT bM n q.i) q.σ Q := by
  have hlen : cs.length / 4 = l.length := by rw [hc.length]; exact Nat.mul_div_cancel _ (by decide)
  have hsy : l[q.i].f_Syms.length ≤ 2000000 := by
    have h1 := cntS_take l q.i hi
    have h2 := cntS_le l (q.i + 1)
    omega
  obtain ⟨c, hrc, hat⟩ := hc.at (i := q.i) (List.getElem?_eq_getElem hi)
  have hrc' := hrc
  obtain ⟨a0, aS, a2, rfl, g0', g1, g2⟩ := hrc
  refine Ex.block ?_
  refine Ex.seq (Ex.region ?_)
  refine ExO.val (x := vI q.i) rfl rfl rfl ?_
  refine ExO.val rfl (op_atM (j := q.i) (sz := 4) rfl rfl rfl Try.underlying22 rfl (by decide) (by rw [hlen]; exact hi)) rfl ?_
  refine ExO.val (x := .agg [vI l[q.i].f_Machine, a0, aS, a2]) rfl (op_load rfl rfl (load_at (i := _) hat rfl rfl rfl)) rfl ?_
  refine ExO.val (x := .ptr q.σ.next 0) (σ' := q.σ.push (.cells [vI 0, nilS, nilS, nilS] 29)) rfl rfl rfl (ExO.val (x := vI q.i) rfl rfl rfl ?_)
  refine ExO.skip rfl (op_storeM (cs' := [vI l[q.i].f_Machine, a0, aS, a2]) rfl rfl rfl (push_getM _ _) rfl rfl (rTObj.one _ _ hrc') (Nat.le_refl _) rfl) rfl (ExO.nil ?_)
  have kp : Keep q.σ ((q.σ.push (.cells [vI 0, nilS, nilS, nilS] 29)).put q.σ.next (.cells [vI l[q.i].f_Machine, a0, aS, a2] 29)) := (Keep.push _ _).putNew _ (Nat.le_refl _)
  have nx2 : ((q.σ.push (.cells [vI 0, nilS, nilS, nilS] 29)).put q.σ.next (.cells [vI l[q.i].f_Machine, a0, aS, a2] 29)).next = q.σ.next + 1 := rfl
  have d2 : ((q.σ.push (.cells [vI 0, nilS, nilS, nilS] 29)).put q.σ.next (.cells [vI l[q.i].f_Machine, a0, aS, a2] 29)).blks.get q.σ.next = some (.cells [vI l[q.i].f_Machine, a0, aS, a2] 29) := put_getM _ _ _
  generalize (q.σ.push (.cells [vI 0, nilS, nilS, nilS] 29)).put q.σ.next (.cells [vI l[q.i].f_Machine, a0, aS, a2] 29) = σ2 at kp nx2 d2 ⊢
  have old2 : ∀ b, b < N1 → σ2.blks.get b = σ1.blks.get b := fun b hb => (kp.get b (Nat.lt_of_lt_of_le hb q.nx)).trans (q.old b hb)
  have tab2 := q.tab.keep kp
  have r2 := (old2 b2 hb2).trans hr2
  have bad : ∀ (φ : Fr) (Q' : X → Fr → St → Prop), (∀ φ σ, Q .ret φ σ → Q' .ret φ σ) → φ.ds = [] → φ.s.get 2 = some (.ptr b2 0) → (lkB l[q.i] = false ∨ l[q.i].f_Machine ≠ m0) → Ex cfgW 195 (subC [0,1,0,1,0] objCode) φ σ2 Q' := by
    intro φ Q' hQ hd e2 hb
    obtain ⟨sl, ds⟩ := φ
    dsimp only at hd e2
    subst hd
    refine Ex.seq (Ex.region ?_)
    refine ExO.val (x := .agg [nilS, nilS]) rfl rfl rfl ?_
    have e2' : (sl.set 47 (A.agg [nilS, nilS])).get 2 = some (.ptr b2 0) := by rw [Tr.get_set, if_neg (by decide)]; exact e2
    refine ExO.skip rfl (op_storeM (cs' := [nilS, nilS]) rfl e2' rfl r2 rfl rfl rfl (Nat.le_of_ble_eq_true rfl) rfl) rfl ?_
    refine ExO.val (x := vS (ByteArray.mk #[])) rfl rfl rfl (ExO.val (x := vI 201) rfl rfl rfl (ExO.nil ?_))
    refine Ex.ret ?_
    refine hQ _ _ (hbad hb _ _ ⟨rfl, ?_, rfl, rfl, put_getM _ _ _, fun b h1 h2 => (put_neM h2).trans (old2 b h1), ?_⟩)
    · simp only [Fr.set, Tr.get_set]
      rw [if_neg (by decide), if_neg (by decide), if_neg (by decide)]; exact e2
    · show N1 ≤ σ2.next
      have := q.nx
      omega
  have hz : 0 < l.length := by omega
  obtain ⟨c0, hrc0, hat0⟩ := hc.at (i := 0) (List.getElem?_eq_getElem hz)
  obtain ⟨b0, b1, b3, rfl, _, _, _⟩ := hrc0
  have hcs0 : cs[0 * 4 + 0]? = some (vI m0) := by
    have := hat0.get (j := 0) (a := vI l[0].f_Machine) rfl
    rw [hm0 _ (List.getElem?_eq_getElem hz)] at this
    simpa using this
  refine Ex.seq (Ex.seq (Ex.drawn (by kernel_rfl) ?_))
  refine ExD.val (x := .agg [vI l[q.i].f_Machine, a0, aS, a2]) rfl rfl (opQ_loadM rfl rfl d2 rfl) rfl rfl ?_
  refine ExD.call rfl rfl rfl (cl_link hrc' (hk _ (List.getElem_mem hi)) σ2) rfl rfl ?_
  cases hlk : lkB l[q.i] with
  | false =>
    refine ExD.val (x := vB true) rfl rfl rfl rfl rfl (ExD.val (x := vB true) rfl rfl rfl rfl rfl ?_)
    refine ExD.off rfl rfl (ExD.off rfl rfl (ExD.off rfl rfl (ExD.off rfl rfl (ExD.off rfl rfl (ExD.off rfl rfl (ExD.off rfl rfl ?_))))))
    refine ExD.val (x := vB true) rfl rfl rfl rfl rfl (ExD.nil ?_)
    refine Ex.cond (t := true) rfl ?_
    exact bad _ _ (fun _ _ h => h) rfl rfl (.inl hlk)
  | true =>
  refine ExD.val (x := vB false) rfl rfl rfl rfl rfl (ExD.val (x := vB false) rfl rfl rfl rfl rfl ?_)
  refine ExD.val (x := .ptr q.σ.next 0) rfl rfl rfl rfl rfl ?_
  refine ExD.val (x := vI l[q.i].f_Machine) rfl rfl (opQ_loadM rfl rfl d2 rfl) rfl rfl ?_
  refine ExD.val (x := .sl 4 cs ap) rfl rfl rfl rfl rfl ?_
  refine ExD.val (x := .sp cs (0 * 4) .no) rfl rfl (opQ_of_op (op_atM (j := 0) (sz := 4) rfl rfl rfl Try.underlying22 rfl (by decide) (by rw [hlen]; exact hz)) rfl) rfl rfl ?_
  refine ExD.val (x := .sp cs (0 * 4 + 0) .no) rfl rfl rfl rfl rfl ?_
  refine ExD.val (x := vI m0) rfl rfl (opQ_of_op (op_load rfl rfl (load_one hcs0 rfl rfl)) rfl) rfl rfl ?_
  by_cases hmm : l[q.i].f_Machine = m0
  case neg =>
    refine ExD.val (x := vB true) rfl rfl (opQ_of_op (val_bl rfl (by simp [hmm])) rfl) rfl rfl (ExD.val (x := vB true) rfl rfl rfl rfl rfl (ExD.nil ?_))
    refine Ex.cond (t := true) rfl ?_
    exact bad _ _ (fun _ _ h => h) rfl rfl (.inr hmm)
  refine ExD.val (x := vB false) rfl rfl (opQ_of_op (val_bl rfl (by simp [hmm])) rfl) rfl rfl (ExD.val (x := vB false) rfl rfl rfl rfl rfl (ExD.nil ?_))
  refine Ex.cond (t := false) rfl (Ex.skip ?_)
  have h' := h hlk hmm
  -- the row
  obtain ⟨aD, aO, ht, hD, hO⟩ := tab2.tab
  obtain ⟨r, σ3, hmk, kT, hrow, hsh, hrb, hrn⟩ := mk_row (N1 := N1) σ2 l[q.i].f_Syms.length hsy (Nat.le_trans q.nx kp.next)
  have tab3 := tab2.keepT kT
  have ht3 := (kT.get bT tab2.t1).trans ht
  have d3 := (kT.get q.σ.next (by omega)).trans d2
  have hr1 : r.cells = [r] ∧ allOne [r] = true := by rcases hsh with ⟨id, rfl⟩ | ⟨b, rfl⟩ <;> exact ⟨rfl, rfl⟩
  have hrl : q.rws.length = q.i := by
    have := tab2.row.length
    rw [this, rowsFrom_len, List.length_take]; omega
  obtain ⟨a', σ4, happ, hO4, hb4, hn4, hT4, hlv⟩ := SlE.app (P := cfgW.P) (t := 34) (new := [r]) (x := .sl 1 [r] .ex) (hO.keepT kT) Try.underlying34 rfl rfl (by decide) (by simp) hr1.2 rfl rfl (by decide) (by
    show (2 * ((q.rws.length + 1) / 1) + 1024) * 24 ≤ 281474976710656
    rw [Nat.div_one]; omega)
  have hD4 : SlE σ4 6 42 aD ((locD (symsFrom 0 (l.take q.i))).flatMap defC) := by
    rcases hD.keepT kT with g | ⟨id, g1, g2, g3⟩
    · exact .inl g
    · exact .inr ⟨id, g1, hlv id 42 g2 (by decide) g3, by omega⟩
  have hlenQ : ∀ (φ : Fr) (o : Oper) (c : Call) (x : Operand) (σ : St), o.op = .call c → c.callee = .builtin .len → c.args.toList = [x] → c.argTypes[0]? = some 26 → ev cfgW φ x = some aS → opQ cfgW (ev cfgW φ) o σ = some (vI l[q.i].f_Syms.length) := by
    intro φ o c x σ h1 h2 h3 h4 h5
    rcases g1 with ⟨rfl, e⟩ | ⟨cS, apS, rfl, hcS⟩
    · rw [e]; exact opQ_lenN h1 h2 h3 h4 h5 Try.underlying26
    · exact opQ_lenM h1 h2 h3 h4 h5 Try.underlying26 (by rw [hcS.length]; exact Nat.mul_div_cancel _ (by decide))
  refine Ex.seq (Ex.drawn (by kernel_rfl) ?_)
  refine ExD.val (x := .ptr bT 1) rfl rfl rfl rfl rfl ?_
  refine ExD.val (x := aO) rfl rfl (opQ_loadM rfl rfl ht rfl) rfl rfl ?_
  refine ExD.val (x := .ptr q.σ.next 2) rfl rfl rfl rfl rfl ?_
  refine ExD.val (x := aS) rfl rfl (opQ_loadM rfl rfl d2 rfl) rfl rfl ?_
  refine ExD.val (x := vI l[q.i].f_Syms.length) rfl rfl (hlenQ _ _ _ _ _ rfl rfl rfl rfl rfl) rfl rfl ?_
  refine ExD.loud (x := r) (σ' := σ3) rfl rfl (.inl (op_mk rfl rfl rfl hmk)) (stF_b rfl (stF_b rfl (stF_b rfl (stF_s (opQ_loadM rfl rfl ht3 rfl) (stF_p rfl rfl))))) rfl ?_
  refine ExD.val (x := .sl 1 [r] .ex) rfl rfl (by rcases hsh with ⟨id, rfl⟩ | ⟨b, rfl⟩ <;> rfl) rfl rfl ?_
  refine ExD.loud (x := a') (σ' := σ4) rfl rfl (.inl (op_app rfl rfl rfl rfl rfl rfl rfl Try.underlying34 rfl happ)) rfl rfl ?_
  refine ExD.val (x := .ptr bT 1) rfl rfl rfl rfl rfl ?_
  have ht4 : σ4.blks.get bT = some (.cells [aD, aO] 36) := by rw [hb4]; exact ht3
  refine ExD.loud (x := und) (σ' := σ4.put bT (.cells [aD, a'] 36)) rfl rfl (.inr ⟨op_storeM (n := 1) rfl rfl rfl ht4 rfl (by rw [hO4.one.1]; rfl) (by rw [hO4.one.1]; exact hO4.one.2) (Nat.le_of_ble_eq_true rfl) (by rw [hO4.one.1]; rfl), rfl⟩) rfl rfl (ExD.nil ?_)
  have hO5 : SlE σ4 1 43 a' (q.rws ++ [r]) := hO4
  have tab5 := tab3.set (rws' := q.rws ++ [r]) (xs' := rowsFrom 0 (l.take q.i) ++ [rowP (nlocs (l.take q.i)) l[q.i].f_Syms 0]) hb4 hn4 hD4 hO5 (tab3.row.append (.cons (by rw [rowP_zero]; exact hrow) .nil)) (by
    rw [List.flatMap_append, List.nodup_append]
    refine ⟨tab3.nor, by simpa using hrn, fun x hx y hy e => ?_⟩
    have := tab2.rowLt x hx
    have := hrb y (by simpa using hy)
    omega)
  have d5 : (σ4.put bT (.cells [aD, a'] 36)).blks.get q.σ.next = some (.cells [vI l[q.i].f_Machine, a0, aS, a2] 29) := by
    have : σ4.blks.get q.σ.next = some (.cells [vI l[q.i].f_Machine, a0, aS, a2] 29) := by rw [hb4]; exact d3
    exact (put_neM (ne_of_get this ht4 (cells_ne (by decide)))).trans this
  have old5 : ∀ b, b < N1 → (σ4.put bT (.cells [aD, a'] 36)).blks.get b = σ1.blks.get b := fun b hb => by
    have := tab2.t0
    have := q.nx
    rw [put_neM (by omega), hb4, kT.get b (by omega)]; exact old2 b hb
  have nx5 : σ2.next ≤ (σ4.put bT (.cells [aD, a'] 36)).next := by show σ2.next ≤ σ4.next; rw [hn4]; exact kT.next
  generalize σ4.put bT (.cells [aD, a'] 36) = σ5 at tab5 d5 old5 nx5 ⊢
  refine Ex.seq (Ex.region ?_)
  refine ExO.val (x := .ptr q.σ.next 2) rfl rfl rfl (ExO.val (x := aS) rfl (op_loadM rfl rfl d5 rfl) rfl ?_)
  refine ExO.val (x := vI l[q.i].f_Syms.length) (σ' := σ5) rfl ?_ rfl (ExO.val (x := vI (0 : Nat)) rfl rfl rfl (ExO.nil ?_))
  · rcases g1 with ⟨rfl, e⟩ | ⟨cS, apS, rfl, hcS⟩
    · rw [e]; exact op_lenNil rfl rfl rfl rfl rfl Try.underlying26
    · exact op_lenM rfl rfl rfl rfl rfl Try.underlying26 (by rw [hcS.length]; exact Nat.mul_div_cancel _ (by decide))
  refine Ex.up (F2_le (F1_le rfl rfl rfl rfl rfl rfl rfl rfl) rfl rfl rfl rfl rfl) (syms_loop hi g1 hsz (hok q.i hi) (fun q' e => ?_) ⟨0, Nat.zero_le _, σ5, q.G, by rw [pre_zero]; exact tab5, old5, by have := q.nx; have := kp.next; omega, by rw [pre_zero]; exact q.mod, by omega, d5⟩)
  refine h' ⟨q.i + 1, hi, q'.σ, q'.G, q.rws ++ [r], ?_, q'.old, q'.nx, ?_⟩ rfl
  · have := q'.tab
    rw [e, rowP_full, pre_all hi] at this
    rw [rows_next hi]; exact this
  · have := q'.mod
    rw [e, pre_all hi] at this
    exact this
end
end Go.DM
namespace Go.DM
open Go Go.Proofs Go.RowKit
set_option maxRecDepth 100000
section
variable {σ1 : St} {l : List TObj} {N1 bT bM : Nat} {b2 : Nat} {cs : List A} {ap : Ap} {Q : X → Fr → St → Prop} {N : Nat} {lkB : TObj → Bool} {m0 : Int}
theorem objs_loop (hc : Cells rTObj cs l) (hk : ∀ o ∈ l, gresolve_linkable N o = some (lkB o)) (hsz : cntS l ≤ 2000000) (hl : l.length ≤ 64) (hm0 : ∀ o, l[0]? = some o → o.f_Machine = m0)
    (hok : ∀ (i : Nat) (hi : i < l.length) (k : Nat) (hk : k < l[i].f_Syms.length), l[i].f_Syms[k].f_Bind ≠ 0 → OkAdd (lookG g0 (foldM [] (pre l i k l[i].f_Syms)) l[i].f_Syms[k].f_Name) l[i].f_Syms[k])
    (hb2 : b2 < N1) (hr2 : σ1.blks.get b2 = some (.cells [nilS, nilS] 36))
    (hbad : (∃ o ∈ l, lkB o = false ∨ o.f_Machine ≠ m0) → ∀ φ σ', Bad σ1 N1 b2 (ByteArray.mk #[]) 201 φ σ' → Q .ret φ σ')
    (h : (∀ o ∈ l, lkB o = true ∧ o.f_Machine = m0) → ∀ q' : L1 σ1 l N1 bT bM, q'.i = l.length → Q .normal (F1 (.sl 4 cs ap) b2 bT bM l.length l.length) q'.σ)
    (q : L1 σ1 l N1 bT bM) (hq : q.i = 0) : Ex cfgW 195 (subC [1] objsCode) (F1 (.sl 4 cs ap) b2 bT bM l.length q.i) q.σ (Blk' 0 Q) := by
  have hq0 : ∀ o ∈ l.take q.i, lkB o = true ∧ o.f_Machine = m0 := by rw [hq]; intro o ho; cases ho
  refine Ex.loop (fun q : {q : L1 σ1 l N1 bT bM // ∀ o ∈ l.take q.i, lkB o = true ∧ o.f_Machine = m0} => F1 (.sl 4 cs ap) b2 bT bM l.length q.1.i) (fun q => q.1.σ) (fun q => l.length - q.1.i) ?_ ⟨q, hq0⟩
  rintro ⟨q, hg⟩
  refine Ex.seq (Ex.region ?_)
  refine ExO.val (x := vB (decide (((q.i : Nat) : Int) < ((l.length : Nat) : Int)))) rfl rfl rfl (ExO.nil ?_)
  refine Ex.seq (Ex.split (t := decide (((q.i : Nat) : Int) < ((l.length : Nat) : Int))) rfl (fun hlt => ?_) (fun hlt => ?_))
  · have hi : q.i < l.length := by have := of_decide_eq_true hlt; omega
    refine Ex.skip ?_
    refine Ex.seq (Ex.up (F1_le rfl rfl rfl rfl rfl rfl rfl rfl) (obj_step hc hk hsz hl hm0 hok hb2 hr2 q hi (fun hb φ σ' hbd => ?_) (fun h1 h2 q' e => ?_)))
    · exact hbad ⟨_, List.getElem_mem hi, hb⟩ φ σ' hbd
    · refine Ex.region ?_
      refine ExO.val (x := vI ((q.i + 1 : Nat) : Int)) rfl (val_int rfl (add_oneM (n := q.i) (by omega))) rfl (ExO.val (x := vI ((q.i + 1 : Nat) : Int)) rfl rfl rfl (ExO.nil ?_))
      refine ⟨⟨q', fun o ho => ?_⟩, by show l.length - q'.i < l.length - q.i; omega, F1_le rfl rfl rfl rfl rfl rfl rfl (by rw [e]; rfl), rfl⟩
      rw [e, List.take_add_one, List.getElem?_eq_getElem hi, List.mem_append] at ho
      rcases ho with ho | ho
      · exact hg o ho
      · simp at ho; subst ho; exact ⟨h1, h2⟩
  · have hi : q.i = l.length := by have := of_decide_eq_false hlt; have := q.hi; omega
    refine Ex.exitw (ψ := F1 (.sl 4 cs ap) b2 bT bM l.length l.length) (F1_le rfl rfl rfl rfl rfl rfl rfl (by rw [← hi]; rfl)) ?_
    refine h (fun o ho => hg o ?_) q hi
    rw [hi, List.take_length]; exact ho
end
/-! the loop over names -/
theorem nd_inj {α : Type} {l : List α} (h : l.Nodup) {i j : Nat} (hi : i < l.length) (hj : j < l.length) (e : l[i] = l[j]) : i = j := by
  have hp := List.pairwise_iff_getElem.1 h
  rcases Nat.lt_trichotomy i j with h1 | h1 | h1
  · exact absurd e (hp i j hi hj h1)
  · exact h1
  · exact absurd e.symm (hp j i hj hi h1)
theorem nm_map {G : List (ByteArray × Gr)} {q : List (ByteArray × Gv)} (h : G.map (fun x => (x.1, x.2.v)) = q) : nmL G = nmL q := by
  subst h
  unfold nmL
  rw [List.map_map]; rfl
/-- a name's number among the definitions -/
def plJ (m : Nat) (ns : List (List UInt8)) (j : Nat) : List (ByteArray × Nat) := (ns.take j).mapIdx fun i n => (bN n, m + i)
theorem plJ_succ {m : Nat} {ns : List (List UInt8)} {j : Nat} (h : j < ns.length) (hn : ns.Nodup) : updG (plJ m ns j) (bN ns[j]) (m + j) = plJ m ns (j + 1) := by
  have hlen : (ns.take j).length = j := by rw [List.length_take]; omega
  have hno : lookO (plJ m ns j) (bN ns[j]) = none := by
    cases hl : lookO (plJ m ns j) (bN ns[j]) with
    | none => rfl
    | some v =>
      have := lookO_mem hl
      unfold plJ at this
      obtain ⟨i, hi, e⟩ := List.mem_iff_getElem.1 this
      rw [List.length_mapIdx] at hi
      rw [List.getElem_mapIdx] at e
      injection e with e1 e2
      have e3 := bN_inj e1
      rw [List.getElem_take] at e3
      have := nd_inj hn _ _ e3
      omega
  rw [updG_no hno]
  unfold plJ
  rw [List.take_add_one, List.getElem?_eq_getElem h]
  show _ = List.mapIdx _ (List.take j ns ++ [ns[j]])
  rw [List.mapIdx_append, hlen]
  simp
theorem plJ_look {m : Nat} {ns : List (List UInt8)} (hn : ns.Nodup) {i : Nat} (h : i < ns.length) : lookO (plJ m ns ns.length) (bN ns[i]) = some (m + i) := by
  cases hl : lookO (plJ m ns ns.length) (bN ns[i]) with
  | none =>
    refine absurd ?_ (lookO_no hl)
    unfold plJ
    rw [List.take_length, List.mem_map]
    refine ⟨(bN ns[i], m + i), List.mem_iff_getElem.2 ⟨i, by rw [List.length_mapIdx]; exact h, ?_⟩, rfl⟩
    rw [List.getElem_mapIdx]
  | some v =>
    have := lookO_mem hl
    unfold plJ at this
    rw [List.take_length] at this
    obtain ⟨j, hj, e⟩ := List.mem_iff_getElem.1 this
    rw [List.length_mapIdx] at hj
    rw [List.getElem_mapIdx] at e
    injection e with e1 e2
    have := nd_inj hn _ _ (bN_inj e1)
    subst this
    rw [← e2]
/-- what a name stands for, in a list of objects -/
def valN (l : List TObj) (n : List UInt8) : TDef × Int := numD (symsN l (bN n)) (bN n)
/-- the frame of the loop over names -/
noncomputable def F3 (a : A) (b2 bT bM bP : Nat) (ns : List (List UInt8)) (j : Nat) : Fr := ((((((((fr0.set 0 a).set 2 (.ptr b2 0)).set 5 (.ptr bT 0)).set 6 (.mp bM)).set 14 (.mp bP)).set 124 (rowA ns)).set 125 (vI ns.length)).set 126 (vI j))
theorem F3_le {a : A} {b2 bT bM bP j : Nat} {ns : List (List UInt8)} {ψ : Fr} (hd : ψ.ds = []) (e0 : ψ.s.get 0 = some a) (e2 : ψ.s.get 2 = some (.ptr b2 0)) (e5 : ψ.s.get 5 = some (.ptr bT 0)) (e6 : ψ.s.get 6 = some (.mp bM)) (e14 : ψ.s.get 14 = some (.mp bP)) (e124 : ψ.s.get 124 = some (rowA ns)) (e125 : ψ.s.get 125 = some (vI ns.length)) (e126 : ψ.s.get 126 = some (vI j)) :
    (F3 a b2 bT bM bP ns j).le ψ := frS_le e126 (frS_le e125 (frS_le e124 (frS_le e14 (frS_le e6 (frS_le e5 (frS_le e2 (frS_le e0 (fr0_le hd))))))))
/-- the definitions behind j names -/
def defsJ (l : List TObj) (j : Nat) : List TDef := locD (symsFrom 0 l) ++ ((namesL l).take j).map fun n => (valN l n).1
structure L3 (σ1 : St) (l : List TObj) (N1 bT bM bP : Nat) (G : List (ByteArray × Gr)) (rws : List A) where
  j : Nat
  hj : j ≤ (namesL l).length
  σ : St
  tab : Tab N1 bT bM σ G (defsJ l j) rws (rowsFrom 0 l)
  pl : σ.blks.get bP = some (mapG (fun v : Nat => vI v) (plJ (locD (symsFrom 0 l)).length (namesL l) j))
  plt : bP < σ.next
  old : ∀ b, b < N1 → σ.blks.get b = σ1.blks.get b
  nx : N1 ≤ σ.next
  ok : ∀ n ∈ (namesL l).take j, (valN l n).2 = 0
theorem Tab.putMap {N0 bT bM : Nat} {σ : St} {G : List (ByteArray × Gr)} {defs : List TDef} {rws : List A} {xs : List (List Int)} (h : Tab N0 bT bM σ G defs rws xs) {bP : Nat} {es : List (Value × A × Nat)} {c : Nat} (hb : σ.blks.get bP = some (.map es c)) (hne : bM ≠ bP) (x : Blk) : Tab N0 bT bM (σ.put bP x) G defs rws xs := by
  obtain ⟨aD, aO, ht, hD, hO⟩ := h.tab
  have ne : ∀ (b : Nat) (cs : List A) (e : TypeId), σ.blks.get b = some (.cells cs e) → b ≠ bP := fun b cs e h1 => ne_of_get h1 hb (by intro e; cases e)
  exact ⟨h.t0, h.t1, h.m0, h.m1, ⟨aD, aO, (put_neM (ne _ _ _ ht)).trans ht, hD, hO⟩, (put_neM hne).trans h.map,
    fun x hx => (h.grp x hx).put (ne _ _ _ (h.grp x hx).blk) fun d hd => ne _ _ _ ((h.grp x hx).defs d hd).2, h.nam, h.nob, h.row.imp fun r l g => g.put (g.other hb fun cs e => by cases e), h.nor⟩
noncomputable def nameCode : Code := subC [1,1,1,1, 1,1,0,1,0,0,1,1,0] (bodyF Try.f7)
end Go.DM
namespace Go.DM
open Go Go.Proofs Go.RowKit
set_option maxRecDepth 100000
theorem defs_len (l : List TObj) (j : Nat) (h : j ≤ (namesL l).length) : (defsJ l j).length = (locD (symsFrom 0 l)).length + j := by
  unfold defsJ
  rw [List.length_append, List.length_map, List.length_take]; omega
theorem names_len (l : List TObj) : (namesL l).length ≤ cntS l := by
  have h1 : ∀ (q : List (Int × TSym)) (gs : List (ByteArray × Gv)), (foldM gs q).length ≤ gs.length + q.length := by
    intro q
    induction q with
    | nil => intro gs; exact Nat.le_refl _
    | cons x r ih =>
      intro gs
      have h2 : (stepM gs x.1 x.2).length ≤ gs.length + 1 := by
        unfold stepM
        split
        · omega
        · cases hl : lookO gs x.2.f_Name with
          | none => rw [updG_no hl]; simp
          | some w =>
            have := congrArg List.length (updG_map (s := x.2.f_Name) (v := addV (lookG g0 gs x.2.f_Name) x.1 x.2) (w := w) (fun _ : Gv => ()) rfl hl)
            simp only [List.length_map] at this
            omega
      have := ih (stepM gs x.1 x.2)
      show (foldM (stepM gs x.1 x.2) r).length ≤ _
      rw [List.length_cons]; omega
  unfold namesL
  rw [(sortL_perm _).length_eq]
  unfold nmL
  rw [List.length_map]
  have := h1 (symsFrom 0 l) []
  rw [syms_len] at this
  simpa using this
section
variable {σ1 : St} {l : List TObj} {N1 bT bM bP : Nat} {G : List (ByteArray × Gr)} {rws : List A} {b2 : Nat} {a : A} {Q : X → Fr → St → Prop}
theorem name_step (hHS : HS l) (hmod : G.map (fun x => (x.1, x.2.v)) = foldM [] (symsFrom 0 l)) (hsz : cntS l ≤ 2000000) (hb2 : b2 < N1) (hr2 : σ1.blks.get b2 = some (.cells [nilS, nilS] 36)) (hne : bM ≠ bP) (hP0 : N1 ≤ bP)
    (q : L3 σ1 l N1 bT bM bP G rws) (hj : q.j < (namesL l).length)
    (hbad : (valN l (namesL l)[q.j]).2 = 205 → ∀ φ σ', Bad σ1 N1 b2 (bN (namesL l)[q.j]) 205 φ σ' → Q .ret φ σ')
    (h : ∀ q' : L3 σ1 l N1 bT bM bP G rws, q'.j = q.j + 1 → Q .normal (F3 a b2 bT bM bP (namesL l) q.j) q'.σ) :
    Ex cfgW 195 nameCode (F3 a b2 bT bM bP (namesL l) q.j) q.σ Q := by
  have hrow : rowA (namesL l) = .sl 1 ((namesL l).map strA) .no := by
    cases hn : namesL l with
    | nil => rw [hn] at hj; cases hj
    | cons x r => rfl
  have hgl : ∃ g, lookO G (bN (namesL l)[q.j]) = some g ∧ chosenV g (bN (namesL l)[q.j]) = valN l (namesL l)[q.j] := by
    have hm : (namesL l)[q.j] ∈ namesL l := List.getElem_mem hj
    have hlk := lookO_map (fun g : Gr => g.v) (bN (namesL l)[q.j]) G
    rw [hmod] at hlk
    have hcs := chosen_syms hHS (bN (namesL l)[q.j])
    rw [lookG_O, hlk] at hcs
    cases hg : lookO G (bN (namesL l)[q.j]) with
    | some g =>
      rw [hg] at hcs
      exact ⟨g, rfl, by rw [chosenV_v]; exact hcs⟩
    | none =>
      rw [hg] at hlk
      rcases look_some (symsFrom 0 l) (bN (namesL l)[q.j]) with ⟨h1, _⟩ | ⟨_, h2⟩
      · exact absurd h1 (namesL_mem.1 hm)
      · rw [h2] at hlk; cases hlk
  obtain ⟨g, hlg, hcg⟩ := hgl
  have hsn : strA (namesL l)[q.j] = vS (bN (namesL l)[q.j]) := rfl
  have hat : ((namesL l).map strA)[q.j * 1]? = some (vS (bN (namesL l)[q.j])) := by
    rw [Nat.mul_one, List.getElem?_map, List.getElem?_eq_getElem hj]; rfl
  have hnd := namesL_nodup l
  have hpj := plJ_succ (m := (locD (symsFrom 0 l)).length) hj hnd
  have hdl := defs_len l q.j q.hj
  have hdj : defsJ l (q.j + 1) = defsJ l q.j ++ [(valN l (namesL l)[q.j]).1] := by
    unfold defsJ
    rw [List.take_add_one, List.getElem?_eq_getElem hj, List.map_append, List.append_assoc]; rfl
  have hokj : (valN l (namesL l)[q.j]).2 = 0 → ∀ n ∈ (namesL l).take (q.j + 1), (valN l n).2 = 0 := by
    intro h0 n hn
    rw [List.take_add_one, List.getElem?_eq_getElem hj, List.mem_append] at hn
    rcases hn with hn | hn
    · exact q.ok n hn
    · simp at hn; subst hn; exact h0
  have herr := numD_err (symsN l (bN (namesL l)[q.j])) (bN (namesL l)[q.j])
  change (valN l (namesL l)[q.j]).2 = 0 ∨ (valN l (namesL l)[q.j]).2 = 205 at herr
  generalize hnn : (namesL l)[q.j] = nn at *
  generalize hvv : valN l nn = vv at *
  obtain ⟨d, e⟩ := vv
  simp only at herr hbad hokj hdj
  refine Ex.block ?_
  refine Ex.seq (Ex.region ?_)
  refine ExO.val rfl (op_atM (j := q.j) (sz := 1) rfl (congrArg some hrow) rfl Try.underlying57 rfl (by decide) (by rw [List.length_map, Nat.div_one]; exact hj)) rfl ?_
  refine ExO.val (x := vS (bN nn)) rfl (op_load rfl rfl (load_one hat rfl rfl)) rfl (ExO.val (x := vS (bN nn)) rfl rfl rfl (ExO.nil ?_))
  have hgat := q.tab.grp _ (lookO_mem hlg)
  refine Ex.seq (Ex.seq (Ex.region ?_))
  refine ExO.val (x := .mp bM) rfl rfl rfl (ExO.val (x := vS (bN nn)) rfl rfl rfl (ExO.val (x := ptrG g) rfl (op_look1 q.tab.map hlg rfl rfl rfl rfl) rfl ?_))
  refine ExO.val (x := .ptr g.b 0) rfl rfl rfl (ExO.val (x := .ptr g.b 3) rfl rfl rfl (ExO.val (x := vB false) rfl (op_loadM rfl rfl hgat.blk rfl) rfl (ExO.nil ?_)))
  refine Ex.cond (t := false) rfl (Ex.skip ?_)
  obtain ⟨x, σ3, hcl, rfl, k1, k2, k3, k4⟩ := chosen_ca (bN nn) hgat.ok
  rw [show chosenV (nn, g).2 (bN nn) = (d, e) from hcg] at hcl
  have kp3 : Keep q.σ σ3 := ⟨k1, by omega, k3, k4⟩
  refine Ex.seq (Ex.region ?_)
  refine ExO.val (x := .mp bM) rfl rfl rfl (ExO.val (x := vS (bN nn)) rfl rfl rfl (ExO.val (x := ptrG g) rfl (op_look1 q.tab.map hlg rfl rfl rfl rfl) rfl ?_))
  refine ExO.val (x := vS (bN nn)) rfl rfl rfl ?_
  refine ExO.call rfl rfl hcl rfl ?_
  refine ExO.val (x := .tup [.agg (defC d), vI e]) rfl rfl rfl (ExO.val (x := .agg (defC d)) rfl rfl rfl (ExO.val (x := vI e) rfl rfl rfl ?_))
  refine ExO.val (x := .ptr σ3.next 0) (σ' := σ3.push (.cells (defC zeroD) 42)) rfl rfl rfl ?_
  refine ExO.skip rfl (op_storeM (cs' := defC d) rfl rfl rfl (push_getM _ _) rfl rfl rfl (Nat.le_refl _) rfl) rfl (ExO.val (x := vI e) rfl rfl rfl (ExO.nil ?_))
  have kp4 : Keep q.σ ((σ3.push (.cells (defC zeroD) 42)).put σ3.next (.cells (defC d) 42)) := kp3.trans ((Keep.push _ _).putNew _ (Nat.le_refl _))
  have d4 : ((σ3.push (.cells (defC zeroD) 42)).put σ3.next (.cells (defC d) 42)).blks.get σ3.next = some (.cells (defC d) 42) := put_getM _ _ _
  have nx4 : ((σ3.push (.cells (defC zeroD) 42)).put σ3.next (.cells (defC d) 42)).next = σ3.next + 1 := rfl
  generalize (σ3.push (.cells (defC zeroD) 42)).put σ3.next (.cells (defC d) 42) = σ4 at kp4 d4 nx4 ⊢
  have old4 : ∀ b, b < N1 → σ4.blks.get b = σ1.blks.get b := fun b hb => (kp4.get b (Nat.lt_of_lt_of_le hb q.nx)).trans (q.old b hb)
  have tab4 := q.tab.keep kp4
  have r4 := (old4 b2 hb2).trans hr2
  have pl4 := (kp4.get bP q.plt).trans q.pl
  refine Ex.seq (Ex.seq (Ex.region ?_))
  rcases herr with rfl | rfl
  case inr =>
    refine ExO.val (x := vI 205) rfl rfl rfl (ExO.val (x := vB true) rfl rfl rfl (ExO.nil ?_))
    refine Ex.cond (t := true) rfl ?_
    refine Ex.seq (Ex.region ?_)
    refine ExO.val (x := .agg [nilS, nilS]) rfl rfl rfl (ExO.val (x := vS (bN nn)) rfl rfl rfl (ExO.val (x := vI 205) rfl rfl rfl ?_))
    refine ExO.skip rfl (op_storeM (cs' := [nilS, nilS]) rfl rfl rfl r4 rfl rfl rfl (Nat.le_of_ble_eq_true rfl) rfl) rfl ?_
    refine ExO.val (x := vS (bN nn)) rfl rfl rfl (ExO.val (x := vI 205) rfl rfl rfl (ExO.nil ?_))
    refine Ex.ret ?_
    exact hbad rfl _ _ ⟨rfl, rfl, rfl, rfl, put_getM _ _ _, fun b h1 h2 => (put_neM h2).trans (old4 b h1), Nat.le_trans q.nx kp4.next⟩
  refine ExO.val (x := vI 0) rfl rfl rfl (ExO.val (x := vB false) rfl rfl rfl (ExO.nil ?_))
  refine Ex.cond (t := false) rfl (Ex.skip ?_)
  have hfd := flat_len (defsJ l q.j)
  have hnl := names_len l
  have hll := locD_le (symsFrom 0 l)
  rw [syms_len] at hll
  have hlenD : ∀ (aD : A) (σ : St), SlE σ 6 42 aD ((defsJ l q.j).flatMap defC) → ∀ (φ : Fr) (o : Oper) (c : Call) (x : Operand) (σ : St), o.op = .call c → c.callee = .builtin .len → c.args.toList = [x] → c.argTypes[0]? = some 33 → ev cfgW φ x = some aD → op cfgW (ev cfgW φ) o σ = some (.val (vI (((locD (symsFrom 0 l)).length + q.j : Nat) : Int)) σ) := by
    intro aD σ hD φ o c x σ h1 h2 h3 h4 h5
    rcases hD with ⟨rfl, e⟩ | ⟨id, rfl, _⟩
    · rw [e] at hfd
      have : (locD (symsFrom 0 l)).length + q.j = 0 := by simp at hfd; omega
      rw [this]; exact op_lenNil h1 h2 h3 h4 h5 Try.underlying33
    · exact op_lenM h1 h2 h3 h4 h5 Try.underlying33 (by rw [hfd, hdl]; exact Nat.mul_div_cancel _ (by decide))
  obtain ⟨aD, aO, ht, hD, hO⟩ := tab4.tab
  refine Ex.seq (Ex.region ?_)
  refine ExO.val (x := .mp bP) rfl rfl rfl (ExO.val (x := vS (bN nn)) rfl rfl rfl (ExO.val (x := .ptr bT 0) rfl rfl rfl (ExO.val (x := aD) rfl (op_loadM rfl rfl ht rfl) rfl ?_)))
  refine ExO.val (x := vI (((locD (symsFrom 0 l)).length + q.j : Nat) : Int)) rfl (hlenD aD σ4 hD _ _ _ _ _ rfl rfl rfl rfl rfl) rfl ?_
  refine ExO.skip rfl (op_upd (f := fun v : Nat => vI v) (v := (locD (symsFrom 0 l)).length + q.j) pl4 rfl rfl rfl rfl rfl) rfl (ExO.nil ?_)
  rw [hpj]
  have tab5 := tab4.putMap pl4 hne (mapG (fun v : Nat => vI v) (plJ (locD (symsFrom 0 l)).length (namesL l) (q.j + 1)))
  have d5 : (σ4.put bP (mapG (fun v : Nat => vI v) (plJ (locD (symsFrom 0 l)).length (namesL l) (q.j + 1)))).blks.get σ3.next = some (.cells (defC d) 42) := (put_neM (ne_of_get d4 pl4 (by intro e; cases e))).trans d4
  have p5 : (σ4.put bP (mapG (fun v : Nat => vI v) (plJ (locD (symsFrom 0 l)).length (namesL l) (q.j + 1)))).blks.get bP = some (mapG (fun v : Nat => vI v) (plJ (locD (symsFrom 0 l)).length (namesL l) (q.j + 1))) := put_getM _ _ _
  have old5 : ∀ b, b < N1 → (σ4.put bP (mapG (fun v : Nat => vI v) (plJ (locD (symsFrom 0 l)).length (namesL l) (q.j + 1)))).blks.get b = σ1.blks.get b := fun b hb => (put_neM (by omega)).trans (old4 b hb)
  have nx5 : σ4.next = (σ4.put bP (mapG (fun v : Nat => vI v) (plJ (locD (symsFrom 0 l)).length (namesL l) (q.j + 1)))).next := rfl
  generalize σ4.put bP (mapG (fun v : Nat => vI v) (plJ (locD (symsFrom 0 l)).length (namesL l) (q.j + 1))) = σ5 at tab5 d5 p5 old5 nx5 ⊢
  clear ht hD hO
  obtain ⟨aD, aO, ht, hD, hO⟩ := tab5.tab
  obtain ⟨a', σ6, happ, hD6, hb6, hn6, hT6, hlv⟩ := SlE.app (P := cfgW.P) (t := 33) (new := defC d) (x := .sl 6 (defC d) .ex) hD Try.underlying33 rfl rfl (by decide) (by simp [defC]) rfl rfl rfl (by decide) (by
    show (2 * ((((defsJ l q.j).flatMap defC).length + 6) / 6) + 1024) * 56 ≤ 281474976710656
    omega)
  have hO6 : SlE σ6 1 43 aO rws := by
    rcases hO with g | ⟨id, g1, g2, g3⟩
    · exact .inl g
    · exact .inr ⟨id, g1, hlv id 43 g2 (by decide) g3, by omega⟩
  refine Ex.region ?_
  refine ExO.val (x := .ptr bT 0) rfl rfl rfl (ExO.val (x := aD) rfl (op_loadM rfl rfl ht rfl) rfl (ExO.val (x := .agg (defC d)) rfl (op_loadM rfl rfl d5 rfl) rfl ?_))
  refine ExO.val (x := .sl 6 (defC d) .ex) rfl rfl rfl ?_
  refine ExO.val (x := a') (σ' := σ6) rfl (op_app rfl rfl rfl rfl rfl rfl rfl Try.underlying33 rfl happ) rfl ?_
  have ht6 : σ6.blks.get bT = some (.cells [aD, aO] 36) := by rw [hb6]; exact ht
  refine ExO.val (x := .ptr bT 0) rfl rfl rfl ?_
  refine ExO.skip rfl (op_storeM (n := 1) (cs' := [a', aO]) rfl rfl rfl ht6 rfl (by rw [hD6.one.1]; rfl) (by rw [hD6.one.1]; exact hD6.one.2) (Nat.le_of_ble_eq_true rfl) (by rw [hD6.one.1]; rfl)) rfl ?_
  refine ExO.nilw (ψ := F3 a b2 bT bM bP (namesL l) q.j) (F3_le rfl rfl rfl rfl rfl rfl rfl rfl rfl) ?_
  refine h ⟨q.j + 1, hj, σ6.put bT (.cells [a', aO] 36), ?_, ?_, ?_, ?_, ?_, hokj rfl⟩ rfl
  · refine tab5.set hb6 hn6 ?_ hO6 tab5.row tab5.nor
    have hD7 : SlE σ6 6 42 a' ((defsJ l q.j).flatMap defC ++ defC d) := hD6
    rw [hdj, List.flatMap_append, List.flatMap_cons, List.flatMap_nil, List.append_nil]
    exact hD7
  · have : σ6.blks.get bP = some (mapG (fun v : Nat => vI v) (plJ (locD (symsFrom 0 l)).length (namesL l) (q.j + 1))) := by rw [hb6]; exact p5
    exact (put_neM (ne_of_get this ht6 (by intro e; cases e))).trans this
  · show bP < σ6.next
    have := q.plt
    have := kp4.next
    omega
  · intro b hb
    have := tab5.t0
    rw [put_neM (by omega), hb6]; exact old5 b hb
  · show N1 ≤ σ6.next
    have := q.nx
    have := kp4.next
    omega
end
end Go.DM
namespace Go.DM
open Go Go.Proofs Go.RowKit
set_option maxRecDepth 100000
noncomputable def namesCode : Code := subC [1,1,1,1, 1,1,0,1,0] (bodyF Try.f7)
section
variable {σ1 : St} {l : List TObj} {N1 bT bM bP : Nat} {G : List (ByteArray × Gr)} {rws : List A} {b2 : Nat} {a : A} {Q : X → Fr → St → Prop}
theorem names_loop (hHS : HS l) (hmod : G.map (fun x => (x.1, x.2.v)) = foldM [] (symsFrom 0 l)) (hsz : cntS l ≤ 2000000) (hb2 : b2 < N1) (hr2 : σ1.blks.get b2 = some (.cells [nilS, nilS] 36)) (hne : bM ≠ bP) (hP0 : N1 ≤ bP)
    (hbad : ∀ (j : Nat) (hj : j < (namesL l).length), (∀ n ∈ (namesL l).take j, (valN l n).2 = 0) → (valN l (namesL l)[j]).2 = 205 → ∀ φ σ', Bad σ1 N1 b2 (bN (namesL l)[j]) 205 φ σ' → Q .ret φ σ')
    (h : ∀ q' : L3 σ1 l N1 bT bM bP G rws, q'.j = (namesL l).length → Q .normal (F3 a b2 bT bM bP (namesL l) (namesL l).length) q'.σ)
    (q : L3 σ1 l N1 bT bM bP G rws) : Ex cfgW 195 namesCode (F3 a b2 bT bM bP (namesL l) q.j) q.σ (Blk' 4 Q) := by
  have hnl := names_len l
  refine Ex.loop (fun q : L3 σ1 l N1 bT bM bP G rws => F3 a b2 bT bM bP (namesL l) q.j) (fun q => q.σ) (fun q => (namesL l).length - q.j) ?_ q
  intro q
  refine Ex.seq (Ex.region ?_)
  refine ExO.val (x := vB (decide (((q.j : Nat) : Int) < (((namesL l).length : Nat) : Int)))) rfl rfl rfl (ExO.nil ?_)
  refine Ex.seq (Ex.split (t := decide (((q.j : Nat) : Int) < (((namesL l).length : Nat) : Int))) rfl (fun hlt => ?_) (fun hlt => ?_))
  · have hj : q.j < (namesL l).length := by have := of_decide_eq_true hlt; omega
    refine Ex.skip ?_
    refine Ex.seq (Ex.up (F3_le rfl rfl rfl rfl rfl rfl rfl rfl rfl) (name_step hHS hmod hsz hb2 hr2 hne hP0 q hj (fun hb φ σ' hbd => ?_) (fun q' e => ?_)))
    · exact hbad q.j hj q.ok hb φ σ' hbd
    · refine Ex.region ?_
      refine ExO.val (x := vI ((q.j + 1 : Nat) : Int)) rfl (val_int rfl (add_oneM (n := q.j) (by omega))) rfl (ExO.val (x := vI ((q.j + 1 : Nat) : Int)) rfl rfl rfl (ExO.nil ?_))
      exact ⟨q', by omega, F3_le rfl rfl rfl rfl rfl rfl rfl rfl (by rw [e]; rfl), rfl⟩
  · have hj : q.j = (namesL l).length := by have := of_decide_eq_false hlt; have := q.hj; omega
    refine Ex.exitw (ψ := F3 a b2 bT bM bP (namesL l) (namesL l).length) (F3_le rfl rfl rfl rfl rfl rfl rfl rfl (by rw [← hj]; rfl)) ?_
    exact h q hj
end
/-! the places, written into the rows -/
def plI (P : List (ByteArray × Nat)) (n : ByteArray) : Int := (((lookO P n).getD 0 : Nat) : Int)
def rowF (P : List (ByteArray × Nat)) : Nat → List TSym → List Int
  | _, [] => []
  | n, s :: r => if s.f_Bind = 0 then (n : Int) :: rowF P (n + 1) r else plI P s.f_Name :: rowF P n r
def rowsFin (P : List (ByteArray × Nat)) : Nat → List TObj → List (List Int)
  | _, [] => []
  | n, o :: r => rowF P n o.f_Syms :: rowsFin P (n + nloc o.f_Syms) r
theorem rowF_len (P : List (ByteArray × Nat)) : ∀ (n : Nat) (l : List TSym), (rowF P n l).length = l.length
  | _, [] => rfl
  | n, s :: r => by
    rw [rowF]
    split <;> simp [rowF_len P]
theorem rowF_app (P : List (ByteArray × Nat)) : ∀ (n : Nat) (a b : List TSym), rowF P n (a ++ b) = rowF P n a ++ rowF P (n + nloc a) b
  | n, [], b => by simp [rowF, nloc]
  | n, s :: r, b => by
    rw [List.cons_append, rowF, rowF, nloc]
    split
    · rw [rowF_app P (n + 1) r b, List.cons_append, show n + 1 + nloc r = n + (nloc r + 1) by omega]
    · rw [rowF_app P n r b, List.cons_append]
theorem nloc_app : ∀ (a b : List TSym), nloc (a ++ b) = nloc a + nloc b
  | [], b => by simp [nloc]
  | s :: r, b => by
    rw [List.cons_append, nloc, nloc, nloc_app r b]
    split <;> omega
def rowX (P : List (ByteArray × Nat)) (n : Nat) (ss : List TSym) (k : Nat) : List Int := rowF P n (ss.take k) ++ rowM (n + nloc (ss.take k)) (ss.drop k)
theorem rowX_zero (P : List (ByteArray × Nat)) (n : Nat) (ss : List TSym) : rowX P n ss 0 = rowM n ss := by
  unfold rowX; simp [rowF, nloc]
theorem rowX_full (P : List (ByteArray × Nat)) (n : Nat) (ss : List TSym) : rowX P n ss ss.length = rowF P n ss := by
  unfold rowX; rw [List.take_length, List.drop_length, rowM, List.append_nil]
theorem rowX_len (P : List (ByteArray × Nat)) (n : Nat) (ss : List TSym) (k : Nat) (h : k ≤ ss.length) : (rowX P n ss k).length = ss.length := by
  unfold rowX; rw [List.length_append, rowF_len, rowM_len, List.length_take, List.length_drop]; omega
theorem take_succ' {ss : List TSym} {k : Nat} (h : k < ss.length) : ss.take (k + 1) = ss.take k ++ [ss[k]] := by
  rw [List.take_add_one, List.getElem?_eq_getElem h]; rfl
theorem rowX_local (P : List (ByteArray × Nat)) (n : Nat) (ss : List TSym) (k : Nat) (h : k < ss.length) (hb : ss[k].f_Bind = 0) : rowX P n ss (k + 1) = rowX P n ss k := by
  unfold rowX
  rw [take_succ' h, rowF_app, nloc_app, List.drop_eq_getElem_cons h]
  simp only [rowF, rowM, nloc, if_pos hb, List.append_assoc, List.cons_append, List.nil_append, Nat.zero_add, Nat.add_assoc]
theorem rowX_set (P : List (ByteArray × Nat)) (n : Nat) (ss : List TSym) (k : Nat) (h : k < ss.length) (hb : ss[k].f_Bind ≠ 0) : rowX P n ss (k + 1) = (rowX P n ss k).set k (plI P ss[k].f_Name) := by
  unfold rowX
  have hl : (rowF P n (ss.take k)).length = k := by rw [rowF_len, List.length_take]; omega
  rw [take_succ' h, rowF_app, nloc_app, List.drop_eq_getElem_cons h, List.set_append_right _ _ (by omega), hl, Nat.sub_self]
  simp only [rowF, rowM, nloc, if_neg hb, List.append_assoc, List.cons_append, List.nil_append, Nat.add_zero, List.set_cons_zero]
theorem nlocs_app : ∀ (a b : List TObj), nlocs (a ++ b) = nlocs a + nlocs b
  | [], b => by simp [nlocs]
  | o :: r, b => by rw [List.cons_append, nlocs, nlocs, nlocs_app r b]; omega
theorem rowsFin_app (P : List (ByteArray × Nat)) : ∀ (n : Nat) (a b : List TObj), rowsFin P n (a ++ b) = rowsFin P n a ++ rowsFin P (n + nlocs a) b
  | n, [], b => by simp [rowsFin, nlocs]
  | n, o :: r, b => by
    rw [List.cons_append, rowsFin, rowsFin, rowsFin_app P _ r b, List.cons_append, nlocs, Nat.add_assoc]
theorem rowsFin_len (P : List (ByteArray × Nat)) : ∀ (n : Nat) (l : List TObj), (rowsFin P n l).length = l.length
  | _, [] => rfl
  | n, o :: r => by rw [rowsFin, List.length_cons, List.length_cons, rowsFin_len]
/-- the rows behind i objects -/
def xsO (P : List (ByteArray × Nat)) (l : List TObj) (i : Nat) : List (List Int) := rowsFin P 0 (l.take i) ++ rowsFrom (nlocs (l.take i)) (l.drop i)
/-- the rows behind k symbols of object i -/
def xsS (P : List (ByteArray × Nat)) (l : List TObj) (i : Nat) (ss : List TSym) (k : Nat) : List (List Int) := rowsFin P 0 (l.take i) ++ rowX P (nlocs (l.take i)) ss k :: rowsFrom (nlocs (l.take (i + 1))) (l.drop (i + 1))
theorem takeO_succ {l : List TObj} {i : Nat} (h : i < l.length) : l.take (i + 1) = l.take i ++ [l[i]] := by
  rw [List.take_add_one, List.getElem?_eq_getElem h]; rfl
theorem xsS_zero (P : List (ByteArray × Nat)) {l : List TObj} {i : Nat} (h : i < l.length) : xsS P l i l[i].f_Syms 0 = xsO P l i := by
  unfold xsS xsO
  rw [rowX_zero, List.drop_eq_getElem_cons h, rowsFrom, takeO_succ h, nlocs_app]
  simp only [nlocs, Nat.add_zero]
theorem xsS_full (P : List (ByteArray × Nat)) {l : List TObj} {i : Nat} (h : i < l.length) : xsS P l i l[i].f_Syms l[i].f_Syms.length = xsO P l (i + 1) := by
  unfold xsS xsO
  rw [rowX_full, takeO_succ h, rowsFin_app, Nat.zero_add]
  simp only [rowsFin, List.append_assoc, List.cons_append, List.nil_append]
theorem xsS_get (P : List (ByteArray × Nat)) {l : List TObj} {i : Nat} (h : i < l.length) (k : Nat) : (xsS P l i l[i].f_Syms k)[i]? = some (rowX P (nlocs (l.take i)) l[i].f_Syms k) := by
  have hl : (rowsFin P 0 (l.take i)).length = i := by rw [rowsFin_len, List.length_take]; omega
  unfold xsS
  rw [List.getElem?_append_right (by omega), hl, Nat.sub_self]; rfl
theorem xsS_set (P : List (ByteArray × Nat)) {l : List TObj} {i : Nat} (h : i < l.length) (k : Nat) : (xsS P l i l[i].f_Syms k).set i (rowX P (nlocs (l.take i)) l[i].f_Syms (k + 1)) = xsS P l i l[i].f_Syms (k + 1) := by
  have hl : (rowsFin P 0 (l.take i)).length = i := by rw [rowsFin_len, List.length_take]; omega
  unfold xsS
  rw [List.set_append_right _ _ (by omega), hl, Nat.sub_self]; rfl
/-- the frame of the third loop -/
noncomputable def F4 (a : A) (b2 bT bP n i : Nat) : Fr := ((((((fr0.set 2 (.ptr b2 0)).set 5 (.ptr bT 0)).set 14 (.mp bP)).set 163 a).set 164 (vI n)).set 165 (vI i))
theorem F4_le {a : A} {b2 bT bP n i : Nat} {ψ : Fr} (hd : ψ.ds = []) (e2 : ψ.s.get 2 = some (.ptr b2 0)) (e5 : ψ.s.get 5 = some (.ptr bT 0)) (e14 : ψ.s.get 14 = some (.mp bP)) (e163 : ψ.s.get 163 = some a) (e164 : ψ.s.get 164 = some (vI n)) (e165 : ψ.s.get 165 = some (vI i)) :
    (F4 a b2 bT bP n i).le ψ := frS_le e165 (frS_le e164 (frS_le e163 (frS_le e14 (frS_le e5 (frS_le e2 (fr0_le hd))))))
noncomputable def F5 (a : A) (b2 bT bP n i : Nat) (aS : A) (m k : Nat) : Fr := ((((F4 a b2 bT bP n i).set 19 (vI i)).set 171 aS).set 172 (vI m)).set 173 (vI k)
theorem F5_le {a : A} {b2 bT bP n i : Nat} {aS : A} {m k : Nat} {ψ : Fr} (h : (F4 a b2 bT bP n i).le ψ) (e19 : ψ.s.get 19 = some (vI i)) (e171 : ψ.s.get 171 = some aS) (e172 : ψ.s.get 172 = some (vI m)) (e173 : ψ.s.get 173 = some (vI k)) :
    (F5 a b2 bT bP n i aS m k).le ψ := frS_le e173 (frS_le e172 (frS_le e171 (frS_le e19 h)))
structure L5 (σ1 : St) (N1 bT bM bP : Nat) (G : List (ByteArray × Gr)) (rws : List A) (defs : List TDef) (P : List (ByteArray × Nat)) (l : List TObj) (i : Nat) (ss : List TSym) where
  k : Nat
  hk : k ≤ ss.length
  σ : St
  tab : Tab N1 bT bM σ G defs rws (xsS P l i ss k)
  pl : σ.blks.get bP = some (mapG (fun v : Nat => vI v) P)
  plt : bP < σ.next
  old : ∀ b, b < N1 → σ.blks.get b = σ1.blks.get b
  nx : N1 ≤ σ.next
noncomputable def wrCode : Code := subC [1,1,1,1, 1,1,1,0,1, 0,0, 1,1,0, 0, 1,1] (bodyF Try.f7)
section
variable {σ1 : St} {l : List TObj} {N1 bT bM bP i : Nat} {G : List (ByteArray × Gr)} {rws : List A} {defs : List TDef} {P : List (ByteArray × Nat)} {b2 n : Nat} {a : A} {cs : List A} {ap : Ap} {Q : X → Fr → St → Prop}
theorem wr_step (hi : i < l.length) (hc : Cells rTSym cs l[i].f_Syms) (q : L5 σ1 N1 bT bM bP G rws defs P l i l[i].f_Syms) (hk : q.k < l[i].f_Syms.length) (hrl : rws.length = l.length)
    (hP : l[i].f_Syms[q.k].f_Bind ≠ 0 → ∃ v, lookO P l[i].f_Syms[q.k].f_Name = some v)
    (h : ∀ q' : L5 σ1 N1 bT bM bP G rws defs P l i l[i].f_Syms, q'.k = q.k + 1 → Q .normal (F5 a b2 bT bP n i (.sl 6 cs ap) l[i].f_Syms.length q.k) q'.σ) :
    Ex cfgW 195 (subC [0,0,1,1,0] wrCode) (F5 a b2 bT bP n i (.sl 6 cs ap) l[i].f_Syms.length q.k) q.σ Q := by
  have hlen : cs.length / 6 = l[i].f_Syms.length := by rw [hc.length]; exact Nat.mul_div_cancel _ (by decide)
  obtain ⟨c, hrc, hat⟩ := hc.at (i := q.k) (List.getElem?_eq_getElem hk)
  have hxl := rowX_local P (nlocs (l.take i)) l[i].f_Syms q.k hk
  have hxs := rowX_set P (nlocs (l.take i)) l[i].f_Syms q.k hk
  generalize hs : l[i].f_Syms[q.k] = s at hrc hP hxl hxs
  obtain rfl : c = symC s := hrc
  refine Ex.block ?_
  refine Ex.seq (Ex.region ?_)
  refine ExO.val (x := vI q.k) rfl rfl rfl ?_
  refine ExO.val rfl (op_atM (j := q.k) (sz := 6) rfl rfl rfl Try.underlying26 rfl (by decide) (by rw [hlen]; exact hk)) rfl ?_
  refine ExO.val (x := .agg (symC s)) rfl (op_load rfl rfl (load_at (i := _) hat rfl rfl rfl)) rfl ?_
  refine ExO.val (x := .ptr q.σ.next 0) (σ' := q.σ.push (.cells [vS (ByteArray.mk #[]), vI 0, vI 0, vI 0, vI 0, vI 0] 31)) rfl rfl rfl ?_
  refine ExO.val (x := vI q.k) rfl rfl rfl ?_
  refine ExO.skip rfl (op_storeM (cs' := symC s) rfl rfl rfl (push_getM _ _) rfl rfl rfl (Nat.le_refl _) rfl) rfl (ExO.nil ?_)
  have kp : Keep q.σ ((q.σ.push (.cells [vS (ByteArray.mk #[]), vI 0, vI 0, vI 0, vI 0, vI 0] 31)).put q.σ.next (.cells (symC s) 31)) := (Keep.push _ _).putNew _ (Nat.le_refl _)
  have d2 : ((q.σ.push (.cells [vS (ByteArray.mk #[]), vI 0, vI 0, vI 0, vI 0, vI 0] 31)).put q.σ.next (.cells (symC s) 31)).blks.get q.σ.next = some (.cells (symC s) 31) := put_getM _ _ _
  generalize (q.σ.push (.cells [vS (ByteArray.mk #[]), vI 0, vI 0, vI 0, vI 0, vI 0] 31)).put q.σ.next (.cells (symC s) 31) = σ2 at kp d2 ⊢
  have tab2 := q.tab.keep kp
  have old2 : ∀ b, b < N1 → σ2.blks.get b = σ1.blks.get b := fun b hb => (kp.get b (Nat.lt_of_lt_of_le hb q.nx)).trans (q.old b hb)
  have pl2 := (kp.get bP q.plt).trans q.pl
  have nx2 := kp.next
  refine Ex.seq (Ex.region ?_)
  refine ExO.val (x := .ptr q.σ.next 1) rfl rfl rfl (ExO.val (x := vI s.f_Bind) rfl (op_loadM rfl rfl d2 rfl) rfl ?_)
  by_cases hb : s.f_Bind = 0
  · refine ExO.val (x := vB false) rfl (val_bl rfl (by simp [hb])) rfl (ExO.nil ?_)
    refine Ex.cond (t := false) rfl (Ex.skipw (ψ := F5 a b2 bT bP n i (.sl 6 cs ap) l[i].f_Syms.length q.k) (F5_le (F4_le rfl rfl rfl rfl rfl rfl rfl) rfl rfl rfl rfl) ?_)
    refine h ⟨q.k + 1, hk, σ2, ?_, pl2, by have := q.plt; omega, old2, by have := q.nx; omega⟩ rfl
    have : xsS P l i l[i].f_Syms (q.k + 1) = xsS P l i l[i].f_Syms q.k := by unfold xsS; rw [hxl hb]
    rw [this]; exact tab2
  · refine ExO.val (x := vB true) rfl (val_bl rfl (by simp [hb])) rfl (ExO.nil ?_)
    obtain ⟨v, hv⟩ := hP hb
    have hpl := rowX_len P (nlocs (l.take i)) l[i].f_Syms q.k q.hk
    have hpl' := rowX_len P (nlocs (l.take i)) l[i].f_Syms (q.k + 1) hk
    have hset := hxs hb
    rw [show plI P s.f_Name = ((v : Nat) : Int) by unfold plI; rw [hv]; rfl] at hset
    obtain ⟨br, hbr, hb0, hb1, hb2⟩ := tab2.rowGet (xsS_get P hi q.k) (by intro e; rw [e] at hpl; simp at hpl; omega)
    rw [hpl] at hbr
    obtain ⟨aD, aO, ht, hD, hO⟩ := tab2.tab
    obtain ⟨idO, rfl⟩ : ∃ id, aO = .sl 1 rws (.gr id) := by
      rcases hO with ⟨_, e⟩ | ⟨id, e, _⟩
      · rw [e] at hrl; simp at hrl; omega
      · exact ⟨id, e⟩
    refine Ex.cond (t := true) rfl (Ex.drawn (by kernel_rfl) ?_)
    refine ExD.val (x := .ptr bT 1) rfl rfl rfl rfl rfl ?_
    refine ExD.val (x := .sl 1 rws (.gr idO)) rfl rfl (opQ_loadM rfl rfl ht rfl) rfl rfl ?_
    refine ExD.val (x := vI i) rfl rfl rfl rfl rfl ?_
    refine ExD.val (x := .sp rws (i * 1) .no) rfl rfl (opQ_of_op (op_atM (j := i) (sz := 1) rfl rfl rfl Try.underlying34 rfl (by decide) (by rw [Nat.div_one]; omega)) rfl) rfl rfl ?_
    refine ExD.val (x := .ms br 0 l[i].f_Syms.length l[i].f_Syms.length) rfl rfl (opQ_of_op (op_load rfl rfl (load_one (by rw [Nat.mul_one]; exact hbr) rfl rfl)) rfl) rfl rfl ?_
    refine ExD.val (x := vI q.k) rfl rfl rfl rfl rfl ?_
    refine ExD.val (x := .mp bP) rfl rfl rfl rfl rfl ?_
    refine ExD.val (x := .ptr q.σ.next 0) rfl rfl rfl rfl rfl ?_
    refine ExD.val (x := vS s.f_Name) rfl rfl (opQ_loadM rfl rfl d2 rfl) rfl rfl ?_
    refine ExD.val (x := vI v) rfl rfl (opQ_of_op (op_look1 (f := fun v : Nat => vI v) pl2 hv rfl rfl rfl rfl) rfl) rfl rfl ?_
    refine ExD.val (x := .ptr br (0 + q.k * 1)) rfl rfl (opQ_of_op (op_atMs (j := q.k) (sz := 1) rfl rfl rfl Try.underlying43 rfl hk) rfl) rfl rfl ?_
    refine ExD.loud (x := und) (σ' := σ2.put br (.cells ((rowX P (nlocs (l.take i)) l[i].f_Syms (q.k + 1)).map fun x => vI x) 3)) rfl rfl (.inr ⟨op_storeM (n := 1) rfl rfl rfl hb2 rfl rfl rfl (by rw [List.length_map, hpl]; omega) (by rw [hset]; exact splice_set _ _ _ (by rw [hpl]; exact hk)), rfl⟩) rfl rfl (ExD.nilw (ψ := F5 a b2 bT bP n i (.sl 6 cs ap) l[i].f_Syms.length q.k) (F5_le (F4_le rfl rfl rfl rfl rfl rfl rfl) rfl rfl rfl rfl) ?_)
    have tab3 := tab2.write (row' := rowX P (nlocs (l.take i)) l[i].f_Syms (q.k + 1)) (by rw [hpl']; exact hbr) hb0 hb1 hb2
    rw [xsS_set P hi q.k] at tab3
    refine h ⟨q.k + 1, hk, _, tab3, ?_, ?_, ?_, ?_⟩ rfl
    · exact (put_neM (ne_of_get pl2 hb2 (by intro e; cases e))).trans pl2
    · show bP < σ2.next
      have := q.plt
      omega
    · intro b hb
      rw [put_neM (by omega)]; exact old2 b hb
    · show N1 ≤ σ2.next
      have := q.nx
      omega
end
end Go.DM
namespace Go.DM
open Go Go.Proofs Go.RowKit
set_option maxRecDepth 100000
section
variable {σ1 : St} {l : List TObj} {N1 bT bM bP : Nat} {G : List (ByteArray × Gr)} {rws : List A} {defs : List TDef} {P : List (ByteArray × Nat)} {b2 n : Nat} {a aS : A} {cs : List A} {ap : Ap} {Q : X → Fr → St → Prop}
theorem wr_loop {i : Nat} (hi : i < l.length) (hc : Sl rTSym aS l[i].f_Syms) (hsz : cntS l ≤ 2000000) (hrl : rws.length = l.length)
    (hP : ∀ (k : Nat) (hk : k < l[i].f_Syms.length), l[i].f_Syms[k].f_Bind ≠ 0 → ∃ v, lookO P l[i].f_Syms[k].f_Name = some v)
    (h : ∀ q' : L5 σ1 N1 bT bM bP G rws defs P l i l[i].f_Syms, q'.k = l[i].f_Syms.length → Q .normal (F4 a b2 bT bP n i) q'.σ) (q : L5 σ1 N1 bT bM bP G rws defs P l i l[i].f_Syms) :
    Ex cfgW 195 wrCode (F5 a b2 bT bP n i aS l[i].f_Syms.length q.k) q.σ Q := by
  have hm : l[i].f_Syms.length ≤ 2000000 := by
    have h1 := cntS_take l i hi
    have h2 := cntS_le l (i + 1)
    omega
  refine Ex.block (Ex.loop (fun q : L5 σ1 N1 bT bM bP G rws defs P l i l[i].f_Syms => F5 a b2 bT bP n i aS l[i].f_Syms.length q.k) (fun q => q.σ) (fun q => l[i].f_Syms.length - q.k) ?_ q)
  intro q
  refine Ex.seq (Ex.region ?_)
  refine ExO.val (x := vB (decide (((q.k : Nat) : Int) < ((l[i].f_Syms.length : Nat) : Int)))) rfl rfl rfl (ExO.nil ?_)
  refine Ex.seq (Ex.split (t := decide (((q.k : Nat) : Int) < ((l[i].f_Syms.length : Nat) : Int))) rfl (fun hlt => ?_) (fun hlt => ?_))
  · have hk : q.k < l[i].f_Syms.length := by have := of_decide_eq_true hlt; omega
    refine Ex.skip ?_
    rcases hc with ⟨_, e⟩ | ⟨cs, ap, rfl, hc⟩
    · exact absurd hk (by rw [show l[i].f_Syms.length = 0 from congrArg List.length e]; exact Nat.not_lt_zero _)
    refine Ex.seq (Ex.up (F5_le (F4_le rfl rfl rfl rfl rfl rfl rfl) rfl rfl rfl rfl) (wr_step hi hc q hk hrl (hP q.k hk) (fun q' e => ?_)))
    refine Ex.region ?_
    refine ExO.val (x := vI ((q.k + 1 : Nat) : Int)) rfl (val_int rfl (add_oneM (n := q.k) (by omega))) rfl (ExO.val (x := vI ((q.k + 1 : Nat) : Int)) rfl rfl rfl (ExO.nil ?_))
    exact ⟨q', by omega, F5_le (F4_le rfl rfl rfl rfl rfl rfl rfl) rfl rfl rfl (by rw [e]; rfl), rfl⟩
  · have hk : q.k = l[i].f_Syms.length := by have := of_decide_eq_false hlt; have := q.hk; omega
    refine Ex.exitw (ψ := F4 a b2 bT bP n i) (F4_le rfl rfl rfl rfl rfl rfl rfl) ?_
    exact h q hk
structure L6 (σ1 : St) (N1 bT bM bP : Nat) (G : List (ByteArray × Gr)) (rws : List A) (defs : List TDef) (P : List (ByteArray × Nat)) (l : List TObj) where
  i : Nat
  hi : i ≤ l.length
  σ : St
  tab : Tab N1 bT bM σ G defs rws (xsO P l i)
  pl : σ.blks.get bP = some (mapG (fun v : Nat => vI v) P)
  plt : bP < σ.next
  old : ∀ b, b < N1 → σ.blks.get b = σ1.blks.get b
  nx : N1 ≤ σ.next
noncomputable def wobjsCode : Code := subC [1,1,1,1, 1,1,1,0,1] (bodyF Try.f7)
theorem wobjs_loop (hc : Cells rTObj cs l) (hl : l.length ≤ 64) (hsz : cntS l ≤ 2000000) (hrl : rws.length = l.length)
    (hP : ∀ (i : Nat) (hi : i < l.length) (k : Nat) (hk : k < l[i].f_Syms.length), l[i].f_Syms[k].f_Bind ≠ 0 → ∃ v, lookO P l[i].f_Syms[k].f_Name = some v)
    (h : ∀ q' : L6 σ1 N1 bT bM bP G rws defs P l, q'.i = l.length → Q .normal (F4 (.sl 4 cs ap) b2 bT bP l.length l.length) q'.σ) (q : L6 σ1 N1 bT bM bP G rws defs P l) :
    Ex cfgW 195 wobjsCode (F4 (.sl 4 cs ap) b2 bT bP l.length q.i) q.σ Q := by
  have hlen : cs.length / 4 = l.length := by rw [hc.length]; exact Nat.mul_div_cancel _ (by decide)
  refine Ex.block (Ex.loop (fun q : L6 σ1 N1 bT bM bP G rws defs P l => F4 (.sl 4 cs ap) b2 bT bP l.length q.i) (fun q => q.σ) (fun q => l.length - q.i) ?_ q)
  intro q
  refine Ex.seq (Ex.region ?_)
  refine ExO.val (x := vB (decide (((q.i : Nat) : Int) < ((l.length : Nat) : Int)))) rfl rfl rfl (ExO.nil ?_)
  refine Ex.seq (Ex.split (t := decide (((q.i : Nat) : Int) < ((l.length : Nat) : Int))) rfl (fun hlt => ?_) (fun hlt => ?_))
  · have hi : q.i < l.length := by have := of_decide_eq_true hlt; omega
    refine Ex.skip ?_
    obtain ⟨c, hrc, hat⟩ := hc.at (i := q.i) (List.getElem?_eq_getElem hi)
    have hrc' := hrc
    obtain ⟨a0, aS, a2, rfl, g0', g1, g2⟩ := hrc
    refine Ex.seq (Ex.block ?_)
    refine Ex.seq (Ex.region ?_)
    refine ExO.val (x := vI q.i) rfl rfl rfl ?_
    refine ExO.val rfl (op_atM (j := q.i) (sz := 4) rfl rfl rfl Try.underlying22 rfl (by decide) (by rw [hlen]; exact hi)) rfl ?_
    refine ExO.val (x := .agg [vI l[q.i].f_Machine, a0, aS, a2]) rfl (op_load rfl rfl (load_at (i := _) hat rfl rfl rfl)) rfl ?_
    refine ExO.val (x := .ptr q.σ.next 0) (σ' := q.σ.push (.cells [vI 0, nilS, nilS, nilS] 29)) rfl rfl rfl (ExO.val (x := vI q.i) rfl rfl rfl ?_)
    refine ExO.skip rfl (op_storeM (cs' := [vI l[q.i].f_Machine, a0, aS, a2]) rfl rfl rfl (push_getM _ _) rfl rfl (rTObj.one _ _ hrc') (Nat.le_refl _) rfl) rfl (ExO.nil ?_)
    have kp : Keep q.σ ((q.σ.push (.cells [vI 0, nilS, nilS, nilS] 29)).put q.σ.next (.cells [vI l[q.i].f_Machine, a0, aS, a2] 29)) := (Keep.push _ _).putNew _ (Nat.le_refl _)
    have d2 : ((q.σ.push (.cells [vI 0, nilS, nilS, nilS] 29)).put q.σ.next (.cells [vI l[q.i].f_Machine, a0, aS, a2] 29)).blks.get q.σ.next = some (.cells [vI l[q.i].f_Machine, a0, aS, a2] 29) := put_getM _ _ _
    generalize (q.σ.push (.cells [vI 0, nilS, nilS, nilS] 29)).put q.σ.next (.cells [vI l[q.i].f_Machine, a0, aS, a2] 29) = σ2 at kp d2 ⊢
    refine Ex.seq (Ex.region ?_)
    refine ExO.val (x := .ptr q.σ.next 2) rfl rfl rfl (ExO.val (x := aS) rfl (op_loadM rfl rfl d2 rfl) rfl ?_)
    refine ExO.val (x := vI l[q.i].f_Syms.length) (σ' := σ2) rfl ?_ rfl (ExO.val (x := vI (0 : Nat)) rfl rfl rfl (ExO.nil ?_))
    · rcases g1 with ⟨rfl, e⟩ | ⟨cS, apS, rfl, hcS⟩
      · rw [e]; exact op_lenNil rfl rfl rfl rfl rfl Try.underlying26
      · exact op_lenM rfl rfl rfl rfl rfl Try.underlying26 (by rw [hcS.length]; exact Nat.mul_div_cancel _ (by decide))
    have nx2 := kp.next
    refine Ex.up (F5_le (F4_le rfl rfl rfl rfl rfl rfl rfl) rfl rfl rfl rfl) (wr_loop hi g1 hsz hrl (hP q.i hi) (fun q' e => ?_) ⟨0, Nat.zero_le _, σ2, by rw [xsS_zero P hi]; exact q.tab.keep kp, (kp.get bP q.plt).trans q.pl, by have := q.plt; omega, fun b hb => (kp.get b (Nat.lt_of_lt_of_le hb q.nx)).trans (q.old b hb), by have := q.nx; omega⟩)
    refine Ex.region ?_
    refine ExO.val (x := vI ((q.i + 1 : Nat) : Int)) rfl (val_int rfl (add_oneM (n := q.i) (by omega))) rfl (ExO.val (x := vI ((q.i + 1 : Nat) : Int)) rfl rfl rfl (ExO.nil ?_))
    refine ⟨⟨q.i + 1, hi, q'.σ, ?_, q'.pl, q'.plt, q'.old, q'.nx⟩, by show l.length - (q.i + 1) < l.length - q.i; omega, F4_le rfl rfl rfl rfl rfl rfl rfl, rfl⟩
    have := q'.tab
    rw [e, xsS_full P hi] at this
    exact this
  · have hi : q.i = l.length := by have := of_decide_eq_false hlt; have := q.hi; omega
    refine Ex.exitw (ψ := F4 (.sl 4 cs ap) b2 bT bP l.length l.length) (F4_le rfl rfl rfl rfl rfl rfl (by rw [← hi]; rfl)) ?_
    exact h q hi
end
/-- the places of the names -/
def plL (l : List TObj) : List (ByteArray × Nat) := plJ (locD (symsFrom 0 l)).length (namesL l) (namesL l).length
theorem pl_some {l : List TObj} {i k : Nat} (hi : i < l.length) (hk : k < l[i].f_Syms.length) (hb : l[i].f_Syms[k].f_Bind ≠ 0) :
    ∃ j, ∃ hj : j < (namesL l).length, bN (namesL l)[j] = l[i].f_Syms[k].f_Name ∧ lookO (plL l) l[i].f_Syms[k].f_Name = some ((locD (symsFrom 0 l)).length + j) := by
  have hm : l[i].f_Syms[k].f_Name.data.toList ∈ namesL l := by
    rw [namesL_mem, bN_data]
    have : (((i : Nat) : Int), l[i].f_Syms[k]) ∈ symsN l l[i].f_Syms[k].f_Name := mem_symsN.2 ⟨i, _, _, List.getElem?_eq_getElem hi, List.getElem_mem hk, hb, rfl, rfl⟩
    intro e
    rw [e] at this; cases this
  obtain ⟨j, hj, e⟩ := List.mem_iff_getElem.1 hm
  have he : bN (namesL l)[j] = l[i].f_Syms[k].f_Name := by rw [e, bN_data]
  refine ⟨j, hj, he, ?_⟩
  rw [← he]
  exact plJ_look (namesL_nodup l) hj
/-- a slice's cells -/
def SlC (z : Nat) (a : A) (cs : List A) : Prop := (a = nilS ∧ cs = []) ∨ ∃ ap, a = .sl z cs ap
theorem SlE.c {σ : St} {z : Nat} {e : TypeId} {a : A} {cs : List A} (h : SlE σ z e a cs) : SlC z a cs := by
  rcases h with h | ⟨id, h, _⟩
  · exact .inl h
  · exact .inr ⟨_, h⟩
/-- what Resolve answers -/
def ResR (l : List TObj) (lkB : TObj → Bool) (m0 : Int) (N0 : Nat) (x : A) (σ' : St) : Prop :=
  ((∃ o ∈ l, lkB o = false ∨ o.f_Machine ≠ m0) ∧ x = badR (ByteArray.mk #[]) 201) ∨
  ((∀ o ∈ l, lkB o = true ∧ o.f_Machine = m0) ∧ ((∃ j, ∃ hj : j < (namesL l).length, (∀ n ∈ (namesL l).take j, (valN l n).2 = 0) ∧ (valN l (namesL l)[j]).2 = 205 ∧ x = badR (bN (namesL l)[j]) 205) ∨
    ((∀ n ∈ namesL l, (valN l n).2 = 0) ∧ ∃ aD aO rws, x = .tup [.agg [aD, aO], vS (ByteArray.mk #[]), vI 0] ∧ SlC 6 aD ((defsJ l (namesL l).length).flatMap defC) ∧ SlC 1 aO rws ∧ All2 (RowAt N0 σ') rws (rowsFin (plL l) 0 l))))
theorem resolve_ca {σ : St} {cs : List A} {ap : Ap} {l : List TObj} (hc : Cells rTObj cs l) (hl : l.length ≤ 64) {N : Nat} (lkB : TObj → Bool) (hk : ∀ o ∈ l, gresolve_linkable N o = some (lkB o)) (hsz : cntS l ≤ 2000000) {m0 : Int} (hm0 : ∀ o, l[0]? = some o → o.f_Machine = m0)
    (hHS : HS l) (hnz : ∀ o ∈ l, ∀ s ∈ o.f_Syms, s.f_Name.size ≤ 4000000) :
    Ca cfgW 7 [.sl 4 cs ap] σ (fun x σ' => ResR l lkB m0 (σ.next + 1) x σ' ∧ (∀ b, b < σ.next → σ'.blks.get b = σ.blks.get b) ∧ σ.next ≤ σ'.next) := by
  have hlen : cs.length / 4 = l.length := by rw [hc.length]; exact Nat.mul_div_cancel _ (by decide)
  have hok : ∀ (i : Nat) (hi : i < l.length) (k : Nat) (hk : k < l[i].f_Syms.length), l[i].f_Syms[k].f_Bind ≠ 0 → OkAdd (lookG g0 (foldM [] (pre l i k l[i].f_Syms)) l[i].f_Syms[k].f_Name) l[i].f_Syms[k] := by
    intro i hi k hk hb
    refine okAdd_pre fun y hy hcd hd => ?_
    obtain ⟨h1, h2⟩ := cand_iff.1 hcd
    have hmem : ∃ (j m : Nat) (p : TObj) (t : TSym), l[j]? = some p ∧ p.f_Syms[m]? = some t ∧ t = y.2 ∧ ¬ (i = j ∧ k = m) := by
      unfold pre at hy
      rw [List.mem_append] at hy
      rcases hy with hy | hy
      · obtain ⟨j, p, t, g1, g2, rfl⟩ := mem_from.1 hy
        have hj : j < i := by
          have := (List.getElem?_eq_some_iff.1 g1).1
          rw [List.length_take] at this; omega
        rw [List.getElem?_take, if_pos hj] at g1
        obtain ⟨m, hm⟩ := List.mem_iff_getElem?.1 g2
        exact ⟨j, m, p, t, g1, hm, rfl, by omega⟩
      · obtain ⟨t, ht, rfl⟩ := List.mem_map.1 hy
        obtain ⟨m, hm⟩ := List.mem_iff_getElem?.1 ht
        have hmk : m < k := by
          have := (List.getElem?_eq_some_iff.1 hm).1
          rw [List.length_take] at this; omega
        rw [List.getElem?_take, if_pos hmk] at hm
        exact ⟨i, m, l[i], t, List.getElem?_eq_getElem hi, hm, rfl, by omega⟩
    obtain ⟨j, m, p, t, g1, g2, rfl, g4⟩ := hmem
    exact sec_dfn (hHS i k j m _ _ _ _ (List.getElem?_eq_getElem hi) (List.getElem?_eq_getElem hk) g1 g2 g4 hb (dfn_sec hd) h2.symm)
  refine Ca.enter Try.func7 rfl rfl (Nat.le_of_ble_eq_true rfl) ?_
  refine Ex.seq (Ex.region ?_)
  refine ExO.val (x := .ptr σ.next 0) rfl rfl rfl (ExO.val rfl rfl rfl (ExO.val rfl rfl rfl (ExO.nil ?_)))
  refine Ex.seq (Ex.seq (Ex.region ?_))
  refine ExO.val rfl rfl rfl (ExO.val (x := vI (l.length : Nat)) rfl (op_lenM rfl rfl rfl rfl rfl Try.underlying22 hlen) rfl ?_)
  refine ExO.val (x := vB false) rfl (val_bl rfl (by simp; omega)) rfl (ExO.nil ?_)
  refine Ex.cond (t := false) rfl (Ex.skip ?_)
  generalize h1 : St.push σ _ = σ1
  have n1 : σ1.next = σ.next + 1 := by rw [← h1]; rfl
  have o1 : ∀ b, b < σ.next → σ1.blks.get b = σ.blks.get b := fun b hb => by rw [← h1]; exact push_neM hb
  have d1 : σ1.blks.get σ.next = some (.cells [nilS, nilS] 36) := by rw [← h1, push_getM]; rfl
  clear h1
  refine Ex.seq (Ex.region ?_)
  refine ExO.val (x := .ptr σ1.next 0) (σ' := σ1.push (.cells [nilS, nilS] 36)) rfl rfl rfl (ExO.nil ?_)
  refine Ex.seq (Ex.region ?_)
  refine ExO.val (x := .mp (σ1.next + 1)) (σ' := (σ1.push (.cells [nilS, nilS] 36)).push (mapG ptrG [])) rfl rfl rfl (ExO.val (x := .mp (σ1.next + 1)) rfl rfl rfl (ExO.nil ?_))
  refine Ex.seq (Ex.seq (Ex.region ?_))
  refine ExO.val rfl rfl rfl (ExO.val (x := vI (l.length : Nat)) rfl (op_lenM rfl rfl rfl rfl rfl Try.underlying22 hlen) rfl (ExO.val (x := vI (0 : Nat)) rfl rfl rfl (ExO.nil ?_)))
  refine Ex.block ?_
  obtain ⟨q0, e1, e2⟩ : ∃ q : L1 σ1 l σ1.next σ1.next (σ1.next + 1), q.i = 0 ∧ q.σ = (σ1.push (.cells [nilS, nilS] 36)).push (mapG ptrG []) := ⟨⟨0, Nat.zero_le _, (σ1.push (.cells [nilS, nilS] 36)).push (mapG ptrG []), [], [],
    ⟨Nat.le_refl _, by show σ1.next < σ1.next + 2; omega, Nat.le_succ _, by show σ1.next + 1 < σ1.next + 2; omega,
      ⟨nilS, nilS, by rw [push_neM (by show σ1.next < σ1.next + 1; omega), push_getM], .inl ⟨rfl, rfl⟩, .inl ⟨rfl, rfl⟩⟩, push_getM _ _, fun x hx => (by cases hx), by simp, by simp, .nil, by simp⟩,
    fun b hb => by rw [push_neM (by show b < σ1.next + 1; omega), push_neM hb], by show σ1.next ≤ σ1.next + 2; omega, rfl⟩, rfl, rfl⟩
  rw [← e2]
  have hbadf : ∀ (nm : ByteArray) (e : Int) (φ : Fr) (σ' : St), Bad σ1 σ1.next σ.next nm e φ σ' → ResR l lkB m0 (σ.next + 1) (badR nm e) σ' →
      ∃ xs, resA cfgW φ σ' Try.f7.results.toList = some xs ∧ (ResR l lkB m0 (σ.next + 1) (oneOrTup xs) σ' ∧ (∀ b, b < σ.next → σ'.blks.get b = σ.blks.get b) ∧ σ.next ≤ σ'.next) := by
    rintro nm e φ σ' ⟨p1, p2, p3, p4, p5, p6, p7⟩ hr
    have hr2 : resA cfgW φ σ' [.tmp 3, .tmp 4] = some [vS nm, vI e] := by simp only [resA, p3, p4]
    exact ⟨[.agg [nilS, nilS], vS nm, vI e], res_cell p2 p5 rfl hr2, hr, fun b hb => (p6 b (by omega) (by omega)).trans (o1 b hb), by omega⟩
  refine Ex.up (F1_le rfl rfl rfl rfl rfl rfl rfl (by rw [e1]; rfl)) (objs_loop hc hk hsz hl hm0 hok (b2 := σ.next) (by omega) d1 (fun hb φ σ' hB => ?_) (fun hgood q hq => ?_) q0 e1)
  · exact ⟨.inr rfl, hB.1, hbadf _ _ φ σ' hB (.inl ⟨hb, rfl⟩)⟩
  have hmod := q.mod
  have htab := q.tab
  rw [hq, List.take_length] at hmod htab
  refine Ex.seq (Ex.region ?_)
  refine ExO.val (x := .mp q.σ.next) (σ' := q.σ.push (mapG (fun v : Nat => vI v) [])) rfl rfl rfl (ExO.val (x := .mp q.σ.next) rfl rfl rfl (ExO.nil ?_))
  have kp := Keep.push q.σ (mapG (fun v : Nat => vI v) [])
  have tab2 := htab.keep kp
  have dP : (q.σ.push (mapG (fun v : Nat => vI v) [])).blks.get q.σ.next = some (mapG (fun v : Nat => vI v) []) := push_getM _ _
  have nx2 : (q.σ.push (mapG (fun v : Nat => vI v) [])).next = q.σ.next + 1 := rfl
  have old2 : ∀ b, b < σ1.next → (q.σ.push (mapG (fun v : Nat => vI v) [])).blks.get b = σ1.blks.get b := fun b hb => (kp.get b (Nat.lt_of_lt_of_le hb q.nx)).trans (q.old b hb)
  generalize q.σ.push (mapG (fun v : Nat => vI v) []) = σ2 at kp tab2 dP nx2 old2 ⊢
  obtain ⟨x, σ3, hcl, rfl, rfl⟩ := keys_ca (σ := σ2) (σ1.next + 1)
  have kp3 := Keep.push σ2 (.cells [.mp (σ1.next + 1)] 47)
  have tab3 := tab2.keep kp3
  have hns : sortL (nmL q.G) = namesL l := by rw [nm_map hmod]; rfl
  have hsc := sorted_cl (σ := σ2.push (.cells [.mp (σ1.next + 1)] 47)) (b := σ1.next + 1) (b' := σ2.next) (T := 47) (f := ptrG) (l := q.G) (push_getM _ _) tab3.map (nm_nodup tab3.nam) (fun p hp => by
    have : p.1 ∈ (foldM [] (symsFrom 0 l)).map (·.1) := by
      rw [← hmod, List.map_map]
      exact List.mem_map.2 ⟨p, hp, rfl⟩
    obtain ⟨x, hx, hcx⟩ := names_mem.1 this
    obtain ⟨j, o, s, g1, g2, rfl⟩ := mem_from.1 hx
    rw [← (cand_iff.1 hcx).2]
    exact hnz o (List.mem_of_getElem? g1) s g2) (by
    have h5 : q.G.length = (namesL l).length := by
      rw [← hns, (sortL_perm _).length_eq]; exact (List.length_map _).symm
    have := names_len l
    omega)
  rw [hns] at hsc
  refine Ex.seq (Ex.seq (Ex.region ?_))
  refine ExO.val (x := .mp (σ1.next + 1)) rfl rfl rfl ?_
  refine ExO.call rfl rfl hcl rfl ?_
  refine ExO.call rfl rfl hsc rfl ?_
  have hP3 := (kp3.get q.σ.next (by omega)).trans dP
  have old3 : ∀ b, b < σ1.next → (σ2.push (.cells [.mp (σ1.next + 1)] 47)).blks.get b = σ1.blks.get b := fun b hb => (kp3.get b (by have := q.nx; omega)).trans (old2 b hb)
  have nx3 : (σ2.push (.cells [.mp (σ1.next + 1)] 47)).next = q.σ.next + 2 := by show σ2.next + 1 = _; omega
  generalize σ2.push (.cells [.mp (σ1.next + 1)] 47) = σ3 at tab3 hP3 old3 nx3 ⊢
  refine ExO.val (x := vI (namesL l).length) (σ' := σ3) rfl ?_ rfl (ExO.val (x := vI (0 : Nat)) rfl rfl rfl (ExO.nil ?_))
  · cases hn : namesL l with
    | nil => exact op_lenNil rfl rfl rfl rfl rfl Try.underlying57
    | cons x r => exact op_lenM rfl rfl rfl rfl rfl Try.underlying57 (by rw [Nat.div_one, List.length_map])
  refine Ex.block ?_
  refine Ex.up (F3_le (a := .sl 4 cs ap) (b2 := σ.next) (bT := σ1.next) (bM := σ1.next + 1) (bP := q.σ.next) (ns := namesL l) (j := 0) rfl rfl rfl rfl rfl rfl rfl rfl rfl)
    (names_loop (rws := q.rws) hHS hmod hsz (by omega) d1 (by have := htab.m1; omega) q.nx (fun j hj hb0 hb1 φ σ' hB => ?_) (fun q3 hq3 => ?_) ⟨0, Nat.zero_le _, σ3, ?_, hP3, by omega, old3, by have := q.nx; omega, fun n hn => (by cases hn)⟩)
  · exact ⟨.inr rfl, hB.1, hbadf _ _ φ σ' hB (.inr ⟨hgood, .inl ⟨j, hj, hb0, hb1, rfl⟩⟩)⟩
  rotate_left
  · have : defsJ l 0 = locD (symsFrom 0 l) := by unfold defsJ; rw [List.take_zero, List.map_nil, List.append_nil]
    rw [this]; exact tab3
  have htab3 := q3.tab
  have hpl3 := q3.pl
  have hok3 := q3.ok
  rw [hq3] at htab3 hpl3 hok3
  rw [List.take_length] at hok3
  have hrl : q.rws.length = l.length := by
    have := htab3.row.length
    rw [this, rowsFrom_len]
  refine Ex.seq (Ex.seq (Ex.region ?_))
  refine ExO.val (x := .sl 4 cs ap) rfl rfl rfl (ExO.val (x := vI (l.length : Nat)) rfl (op_lenM rfl rfl rfl rfl rfl Try.underlying22 hlen) rfl (ExO.val (x := vI (0 : Nat)) rfl rfl rfl (ExO.nil ?_)))
  refine Ex.up (F4_le (i := 0) rfl rfl rfl rfl rfl rfl rfl) (wobjs_loop (bM := σ1.next + 1) (G := q.G) (rws := q.rws) (defs := defsJ l (namesL l).length) (P := plL l) hc hl hsz hrl (fun i hi k hk hb => by
    obtain ⟨j, hj, _, h⟩ := pl_some hi hk hb
    exact ⟨_, h⟩) (fun q6 hq6 => ?_) ⟨0, Nat.zero_le _, q3.σ, ?_, hpl3, q3.plt, q3.old, q3.nx⟩)
  rotate_left
  · have : xsO (plL l) l 0 = rowsFrom 0 l := by unfold xsO; simp [rowsFin, nlocs]
    rw [this]; exact htab3
  have tab6 := q6.tab
  have hx6 : xsO (plL l) l l.length = rowsFin (plL l) 0 l := by unfold xsO; simp [rowsFrom]
  rw [hq6, hx6] at tab6
  obtain ⟨aD, aO, ht, hD, hO⟩ := tab6.tab
  have r6 := (q6.old σ.next (by omega)).trans d1
  have hone : allOne [aD, aO] = true := by
    rcases hD with ⟨rfl, _⟩ | ⟨id, rfl, _⟩ <;> rcases hO with ⟨rfl, _⟩ | ⟨id, rfl, _⟩ <;> rfl
  refine Ex.seq (Ex.region ?_)
  refine ExO.val (x := .agg [aD, aO]) rfl (op_loadM rfl rfl ht rfl) rfl ?_
  refine ExO.skip rfl (op_storeM (n := 2) (cs' := [aD, aO]) rfl rfl rfl r6 rfl rfl hone (Nat.le_of_ble_eq_true rfl) rfl) rfl ?_
  refine ExO.val (x := vS (ByteArray.mk #[])) rfl rfl rfl (ExO.val (x := vI 0) rfl rfl rfl (ExO.nil ?_))
  refine Ex.ret ?_
  refine ⟨.inr rfl, rfl, [.agg [aD, aO], vS (ByteArray.mk #[]), vI 0], res_cell rfl (put_getM _ _ _) rfl rfl, .inr ⟨hgood, .inr ⟨hok3, aD, aO, q.rws, rfl, hD.c, hO.c, ?_⟩⟩, fun b hb => ?_, ?_⟩
  · rw [← n1]
    refine tab6.row.imp fun r xs hr => ?_
    rcases hr with hr | ⟨c, h1, h2, h3, h4⟩
    · exact .inl hr
    · exact .inr ⟨c, h1, h2, h3, (put_neM (by omega)).trans h4⟩
  · rw [put_neM (by omega), q6.old b (by omega)]; exact o1 b hb
  · show σ.next ≤ q6.σ.next
    have := q6.nx
    omega
end Go.DM
namespace Go.DM
open Go Go.Proofs Go.RowKit
set_option maxRecDepth 100000
theorem nlocs_rev (l : List TObj) : nlocs l.reverse = nlocs l := by
  induction l with
  | nil => rfl
  | cons o r ih =>
    rw [List.reverse_cons, nlocs_app, ih, nlocs, nlocs, nlocs]; omega
theorem rowF_get (P : List (ByteArray × Nat)) : ∀ (ss : List TSym) (n k : Nat) (h : k < ss.length), (rowF P n ss)[k]? = some (if ss[k].f_Bind = 0 then ((n + nloc (ss.take k) : Nat) : Int) else plI P ss[k].f_Name)
  | [], _, _, h => by simp at h
  | s :: r, n, 0, h => by
    rw [rowF]
    simp only [List.getElem_cons_zero, List.take_zero, nloc, Nat.add_zero]
    split <;> simp
  | s :: r, n, k + 1, h => by
    rw [rowF]
    simp only [List.getElem_cons_succ, List.take_succ_cons, nloc]
    by_cases hb : s.f_Bind = 0
    · rw [if_pos hb, List.getElem?_cons_succ, rowF_get P r (n + 1) k (by simpa using h), if_pos hb, show n + 1 + nloc (r.take k) = n + (nloc (r.take k) + 1) by omega]
    · rw [if_neg hb, List.getElem?_cons_succ, rowF_get P r n k (by simpa using h), if_neg hb]
theorem rowsFin_get (P : List (ByteArray × Nat)) {l : List TObj} {i : Nat} (h : i < l.length) : (rowsFin P 0 l)[i]? = some (rowF P (nlocs (l.take i)) l[i].f_Syms) := by
  have h1 : rowsFin P 0 l = rowsFin P 0 (l.take i) ++ rowsFin P (nlocs (l.take i)) (l.drop i) := by
    rw [← Nat.zero_add (nlocs _), ← rowsFin_app, List.take_append_drop]
  have hl : (rowsFin P 0 (l.take i)).length = i := by rw [rowsFin_len, List.length_take]; omega
  rw [h1, List.getElem?_append_right (by omega), hl, Nat.sub_self, List.drop_eq_getElem_cons h]
  rfl
/-- what a symbol of object i stands for -/
def stD (l : List TObj) (i : Nat) (s : TSym) : TDef := if s.f_Bind = 0 then defV i s else (numD (symsN l s.f_Name) s.f_Name).1
theorem split_from {l : List TObj} {i k : Nat} (hi : i < l.length) (hk : k < l[i].f_Syms.length) : ∃ r, symsFrom 0 l = pre l i k l[i].f_Syms ++ ((i : Int), l[i].f_Syms[k]) :: r := by
  refine ⟨(l[i].f_Syms.drop (k + 1)).map (fun s => ((i : Int), s)) ++ symsFrom (i + 1) (l.drop (i + 1)), ?_⟩
  have h1 : l = l.take i ++ l[i] :: l.drop (i + 1) := by rw [← List.drop_eq_getElem_cons hi, List.take_append_drop]
  have h2 : l[i].f_Syms = l[i].f_Syms.take k ++ l[i].f_Syms[k] :: l[i].f_Syms.drop (k + 1) := by rw [← List.drop_eq_getElem_cons hk, List.take_append_drop]
  have hl : (l.take i).length = i := by rw [List.length_take]; omega
  have h3 : symsFrom 0 l = symsFrom 0 (l.take i) ++ (l[i].f_Syms.map (fun s => ((i : Int), s)) ++ symsFrom (i + 1) (l.drop (i + 1))) := by
    have := symsFrom_app 0 (l.take i) (l[i] :: l.drop (i + 1))
    rw [← h1, hl, Nat.zero_add] at this
    exact this
  have h4 : l[i].f_Syms.map (fun s => ((i : Int), s)) = (l[i].f_Syms.take k).map (fun s => ((i : Int), s)) ++ ((i : Int), l[i].f_Syms[k]) :: (l[i].f_Syms.drop (k + 1)).map (fun s => ((i : Int), s)) := by
    have := congrArg (List.map fun s => ((i : Int), s)) h2
    rw [List.map_append, List.map_cons] at this
    exact this
  rw [h3, h4]
  unfold pre
  simp only [List.append_assoc, List.cons_append]
theorem def_at {l : List TObj} {i k : Nat} (hi : i < l.length) (hk : k < l[i].f_Syms.length) :
    ∃ v : Nat, (rowF (plL l) (nlocs (l.take i)) l[i].f_Syms)[k]? = some (v : Int) ∧ (defsJ l (namesL l).length)[v]? = some (stD l i l[i].f_Syms[k]) := by
  rw [rowF_get _ _ _ _ hk]
  by_cases hb : l[i].f_Syms[k].f_Bind = 0
  · refine ⟨nlocs (l.take i) + nloc (l[i].f_Syms.take k), by rw [if_pos hb], ?_⟩
    unfold stD
    rw [if_pos hb]
    obtain ⟨r, hr⟩ := split_from hi hk
    have hnl : (locD (pre l i k l[i].f_Syms)).length = nlocs (l.take i) + nloc (l[i].f_Syms.take k) := by
      unfold pre
      rw [locD_app, List.length_append, locD_from, locD_map]
    unfold defsJ
    rw [hr, locD_app, locD, if_pos hb, List.append_assoc, List.getElem?_append_right (by omega), hnl, Nat.sub_self]
    rfl
  · obtain ⟨j, hj, he, hl⟩ := pl_some hi hk hb
    refine ⟨(locD (symsFrom 0 l)).length + j, by rw [if_neg hb]; unfold plI; rw [hl]; rfl, ?_⟩
    unfold stD defsJ
    rw [if_neg hb, List.getElem?_append_right (by omega), Nat.add_sub_cancel_left, List.take_length, List.getElem?_map, List.getElem?_eq_getElem hj]
    show some (valN l (namesL l)[j]).1 = _
    unfold valN
    rw [he]
theorem stD_name {l : List TObj} {i k : Nat} (hi : i < l.length) (hk : k < l[i].f_Syms.length) (hok : ∀ n ∈ namesL l, (valN l n).2 = 0) : (stD l i l[i].f_Syms[k]).f_Name = l[i].f_Syms[k].f_Name := by
  unfold stD
  by_cases hb : l[i].f_Syms[k].f_Bind = 0
  · rw [if_pos hb]; rfl
  · rw [if_neg hb]
    obtain ⟨j, hj, he, _⟩ := pl_some hi hk hb
    have := hok _ (List.getElem_mem hj)
    unfold valN at this
    rw [he] at this
    exact numD_name this
theorem stD_back {l : List TObj} (hHS : HS l) {i k : Nat} (hi : i < l.length) (hk : k < l[i].f_Syms.length) (hok : ∀ n ∈ namesL l, (valN l n).2 = 0) : backD l.length (stD l i l[i].f_Syms[k]) (stD l.reverse (l.length - 1 - i) l[i].f_Syms[k]) = stD l i l[i].f_Syms[k] := by
  unfold stD
  by_cases hb : l[i].f_Syms[k].f_Bind = 0
  · rw [if_pos hb, if_pos hb]; exact backD_defV hi
  · rw [if_neg hb, if_neg hb]
    obtain ⟨j, hj, he, _⟩ := pl_some hi hk hb
    have := hok _ (List.getElem_mem hj)
    unfold valN at this
    rw [he] at this
    exact (numD_rev hHS _).2 this
theorem valN_rev {l : List TObj} (hHS : HS l) (n : List UInt8) : (valN l.reverse n).2 = (valN l n).2 := (numD_rev hHS (bN n)).1
theorem defs_rev (l : List TObj) : (defsJ l.reverse (namesL l.reverse).length).length = (defsJ l (namesL l).length).length := by
  rw [defs_len _ _ (Nat.le_refl _), defs_len _ _ (Nat.le_refl _), namesL_rev, locD_from, locD_from, nlocs_rev]
/-- a table: its parts -/
def TabR (l : List TObj) (N0 : Nat) (x : A) (σ' : St) (aD aO : A) (rws : List A) : Prop := x = .tup [.agg [aD, aO], vS (ByteArray.mk #[]), vI 0] ∧ SlC 6 aD ((defsJ l (namesL l).length).flatMap defC) ∧ SlC 1 aO rws ∧ All2 (RowAt N0 σ') rws (rowsFin (plL l) 0 l)
theorem two_res {l : List TObj} (hHS : HS l) {lkB : TObj → Bool} {m0 m1 : Int} {N0 N1 : Nat} {x1 x2 : A} {σ1 σ2 : St} (hm0 : ∀ o, l[0]? = some o → o.f_Machine = m0) (hm1 : ∀ o, l.reverse[0]? = some o → o.f_Machine = m1) (h0 : 0 < l.length)
    (h1 : ResR l lkB m0 N0 x1 σ1) (h2 : ResR l.reverse lkB m1 N1 x2 σ2) :
    (∃ nm e, e ≠ 0 ∧ x1 = badR nm e ∧ x2 = badR nm e) ∨ ((∀ n ∈ namesL l, (valN l n).2 = 0) ∧ ∃ aD aO rws bD bO rwt, TabR l N0 x1 σ1 aD aO rws ∧ TabR l.reverse N1 x2 σ2 bD bO rwt) := by
  have hmm : (∀ o ∈ l, lkB o = true ∧ o.f_Machine = m0) ↔ (∀ o ∈ l.reverse, lkB o = true ∧ o.f_Machine = m1) := by
    have hr0 : 0 < l.reverse.length := by rw [List.length_reverse]; exact h0
    have e1 := hm1 _ (List.getElem?_eq_getElem hr0)
    have e0 := hm0 _ (List.getElem?_eq_getElem h0)
    constructor
    · intro h o ho
      have := (h _ (List.mem_reverse.1 (List.getElem_mem hr0))).2
      have g := h o (List.mem_reverse.1 ho)
      exact ⟨g.1, by rw [g.2, ← this, e1]⟩
    · intro h o ho
      have := (h _ (List.mem_reverse.2 (List.getElem_mem h0))).2
      have g := h o (List.mem_reverse.2 ho)
      exact ⟨g.1, by rw [g.2, ← this, e0]⟩
  have hcon : ∀ (l : List TObj) (m0 : Int), (∃ o ∈ l, lkB o = false ∨ o.f_Machine ≠ m0) → ¬ ∀ o ∈ l, lkB o = true ∧ o.f_Machine = m0 := by
    rintro l m0 ⟨o, ho, h⟩ hg
    obtain ⟨g1, g2⟩ := hg o ho
    rcases h with h | h
    · rw [g1] at h; cases h
    · exact h g2
  rcases h1 with ⟨hb, rfl⟩ | ⟨hg, h1⟩
  · rcases h2 with ⟨_, rfl⟩ | ⟨hg2, _⟩
    · exact .inl ⟨_, 201, by decide, rfl, rfl⟩
    · exact absurd (hmm.2 hg2) (hcon _ _ hb)
  · rcases h2 with ⟨hb, rfl⟩ | ⟨_, h2⟩
    · exact absurd (hmm.1 hg) (hcon _ _ hb)
    · rw [namesL_rev] at h2
      rcases h1 with ⟨j, hj, p1, p2, rfl⟩ | ⟨hok, aD, aO, rws, q1, q2, q3, q4⟩
      · rcases h2 with ⟨k, hk, r1, r2, rfl⟩ | ⟨hok2, _⟩
        · have : j = k := by
            rcases Nat.lt_trichotomy j k with h | h | h
            · have hm : (namesL l)[j] ∈ (namesL l).take k := List.mem_iff_getElem.2 ⟨j, by rw [List.length_take]; omega, by rw [List.getElem_take]⟩
              have := r1 _ hm
              rw [valN_rev hHS, p2] at this; exact absurd this (by decide)
            · exact h
            · have hm : (namesL l)[k] ∈ (namesL l).take j := List.mem_iff_getElem.2 ⟨k, by rw [List.length_take]; omega, by rw [List.getElem_take]⟩
              have := p1 _ hm
              rw [← valN_rev hHS, r2] at this; exact absurd this (by decide)
          subst this
          exact .inl ⟨_, 205, by decide, rfl, rfl⟩
        · have := hok2 _ (List.getElem_mem hj)
          rw [valN_rev hHS, p2] at this; exact absurd this (by decide)
      · rcases h2 with ⟨k, hk, r1, r2, rfl⟩ | ⟨_, bD, bO, rwt, s1, s2, s3, s4⟩
        · have := hok _ (List.getElem_mem hk)
          rw [← valN_rev hHS, r2] at this; exact absurd this (by decide)
        · exact .inr ⟨hok, aD, aO, rws, bD, bO, rwt, ⟨q1, q2, q3, q4⟩, ⟨s1, by rw [namesL_rev]; exact s2, s3, s4⟩⟩
end Go.DM
