/- The statement ResolveCommons of dovetaillaw20: its run at any sizes and alignments. No condition. -/
import Derived.Test.YtjaekghlgndfiaaStT
namespace Go.DM.RC
open Go Go.Proofs Go.RowKit
set_option maxRecDepth 100000
theorem val_bool {r : Option R} {σ : St} {m n : Bool} (h : r = some (.val (.v (.bool m)) σ)) (e : m = n) : r = some (.val (.v (.bool n)) σ) := e ▸ h
theorem op_lenM {C : Cfg} {ρ : Operand → Option A} {o : Oper} {σ : St} {c : Call} {x : Operand} {cs : List A} {sz m : Nat} {ap : Ap} {t e : TypeId} (hop : o.op = .call c) (hc : c.callee = .builtin .len) (ha : c.args.toList = [x]) (h0 : c.argTypes[0]? = some t) (hx : ρ x = some (.sl sz cs ap)) (ht : C.P.underlying t = some (.slice e)) (hm : cs.length / sz = m) :
    op C ρ o σ = some (.val (i (m : Nat)) σ) := by subst hm; exact op_lenS hop hc ha h0 hx ht
theorem op_atM {C : Cfg} {ρ : Operand → Option A} {o : Oper} {σ : St} {t e : TypeId} {x ix : Operand} {cs : List A} {sz j : Nat} {ap : Ap} (hop : o.op = .indexAddr t x ix) (hx : ρ x = some (.sl sz cs ap)) (hi : ρ ix = some (i (j : Nat))) (ht : C.P.underlying t = some (.slice e)) (hs : sizeOfT C.P e = some sz) (h0 : 0 < sz) (hl : j < cs.length / sz) :
    op C ρ o σ = some (.val (.sp cs (j * sz) .no) σ) := by
  have := op_at (σ := σ) hop hx hi ht hs h0 (Int.natCast_nonneg j) (Int.ofNat_lt.2 hl)
  rwa [Int.toNat_natCast] at this
theorem load_int {l : List Int} {j : Nat} (h : j < l.length) : loadAt cfgC.P 3 (l.map i) (j * 1) = some (i l[j]) := by
  show (l.map i)[j * 1]? = _
  rw [Nat.mul_one, List.getElem?_map, List.getElem?_eq_getElem h]
  rfl
theorem op_maxM {C : Cfg} {ρ : Operand → Option A} {o : Oper} {σ : St} {c : Call} {x y : Operand} {a b : Int} (hop : o.op = .call c) (hc : c.callee = .builtin .max) (ha : c.args = #[x, y]) (hx : ρ x = some (i a)) (hy : ρ y = some (i b)) : op C ρ o σ = some (.val (i (if a < b then b else a)) σ) := by
  have hd : detIf C ρ o σ = some (.val (i (if a < b then b else a)) σ) := by
    refine detIf_of (u := .int .i64 (if a < b then b else a)) ?_ ?_ rfl
    · have : o.op.operands.toList = [x, y] := by simp [hop, Op.operands, Call.operands, hc, ha]
      rw [this]; simp [plainOps, hx, hy, toVal]
    · rw [exec_builtin hop hc, ha]
      have : (#[x, y].map (valOf ρ)) = #[.int .i64 a, .int .i64 b] := by simp [valOf_v hx, valOf_v hy]
      rw [this]
      rfl
  simp only [op, hop, hc, builtinOp]
  exact hd
/-- the greatest so far, from 0 on -/
def mz (f : Nat → Nat) : Nat → Int
  | 0 => 0
  | j + 1 => if mz f j < (f j : Int) then (f j : Int) else mz f j
theorem add_oneM {n : Nat} (h : n < 2 ^ 40) : IntKind.i64.wrap ((n : Nat) + 1) = ((n + 1 : Nat) : Int) := by rw [wrap_i64] <;> omega
def nf (l : List Int) (k : Nat) : Nat := (l.getD k 0).toNat
theorem nf_eq {l : List Int} {k : Nat} (h : k < l.length) (h0 : 0 ≤ l[k]) : ((nf l k : Nat) : Int) = l[k] := by
  unfold nf
  rw [List.getD_eq_getElem?_getD, List.getElem?_eq_getElem h, Option.getD_some]
  omega
noncomputable def Fl (xs ys : List Int) (p q : Ap) (j : Nat) : Fr :=
  (((((((fr0.set 1 (.sl 1 (ys.map i) q)).set 5 (.sl 4 (objs (nf ys) (nf xs) j) (apT j))).set 6 (i (mz (nf xs) j))).set 7 (i (mz (nf ys) j))).set 33 (.sl 1 (xs.map i) p)).set 34 (i xs.length)).set 35 (i j))
theorem Fl_le {xs ys : List Int} {p q : Ap} {j : Nat} {ψ : Fr} (hd : ψ.ds = []) (e1 : ψ.s.get 1 = some (.sl 1 (ys.map i) q)) (e5 : ψ.s.get 5 = some (.sl 4 (objs (nf ys) (nf xs) j) (apT j))) (e6 : ψ.s.get 6 = some (i (mz (nf xs) j))) (e7 : ψ.s.get 7 = some (i (mz (nf ys) j))) (e33 : ψ.s.get 33 = some (.sl 1 (xs.map i) p)) (e34 : ψ.s.get 34 = some (i xs.length)) (e35 : ψ.s.get 35 = some (i j)) :
    (Fl xs ys p q j).le ψ := frS_le e35 (frS_le e34 (frS_le e33 (frS_le e7 (frS_le e6 (frS_le e5 (frS_le e1 (fr0_le hd)))))))
theorem nextT_st : ∀ n, (stT n).nextT = n
  | 0 => rfl
  | 1 => rfl
  | n + 2 => by show (stT (n + 1)).nextT + 1 = _; rw [nextT_st (n + 1)]
theorem live_st : ∀ n, (stT (n + 1)).live n = some 31
  | 0 => rfl
  | n + 1 => by
    have := live_retok (stT (n + 1)) n 31
    rw [nextT_st] at this
    exact this
theorem len_objs (a s : Nat → Nat) : ∀ n, (objs a s n).length = 4 * n
  | 0 => rfl
  | n + 1 => by rw [objs, List.length_append, len_objs a s n]; simp only [obj, List.length_cons, List.length_nil]; omega
theorem app_obj (a s : Nat → Nat) (j : Nat) (hj : j < 60) : appendOp cfgC.P 24 (.sl 4 (objs a s j) (apT j)) (.sl 4 (obj (a j) (s j)) .ex) (stT j) = some (.sl 4 (objs a s (j + 1)) (apT (j + 1)), stT (j + 1)) := by
  obtain ⟨i, hi, hs, hz, hz2, hb⟩ : ∃ i, cfgC.P.info? 31 = some i ∧ i.size = 4 ∧ i.zero.isSome = true ∧ (i.zero.map (·.cells.size)) = some 4 ∧ i.bytes = 80 := ⟨_, rfl, rfl, rfl, rfl, rfl⟩
  cases j with
  | zero =>
    have := append_new_ (P := cfgC.P) (σ := σ0) (t := 24) (e := 31) (cs := []) (new := obj (a 0) (s 0)) (x := .sl 4 (obj (a 0) (s 0)) .ex) Try.underlying24 hi (by rw [hs]; rfl) (by omega) (by simp [obj]) rfl hz (by rw [hz2, hs]) (by omega) (by rw [hs, hb]; simp [obj])
    rw [hs] at this
    exact this
  | succ m =>
    have hl := len_objs a s (m + 1)
    have := append_own (P := cfgC.P) (σ := stT (m + 1)) (t := 24) (e := 31) (cs := objs a s (m + 1)) (new := obj (a (m + 1)) (s (m + 1))) (id := m) (x := .sl 4 (obj (a (m + 1)) (s (m + 1))) .ex) Try.underlying24 hi (by rw [hs]; rfl) (by omega) (by simp [obj]) rfl hz (by rw [hz2, hs]) (by omega)
      (by rw [hs, hb, hl]; simp only [obj, List.length_cons, List.length_nil]; omega) (live_st m)
    rw [hs, nextT_st] at this
    exact this
theorem mz_mxf (f : Nat → Nat) : ∀ n, mz f (n + 1) = mxf f n
  | 0 => by show (if (0 : Int) < (f 0 : Int) then (f 0 : Int) else 0) = (f 0 : Int); split <;> omega
  | n + 1 => by
    show (if mz f (n + 1) < (f (n + 1) : Int) then (f (n + 1) : Int) else mz f (n + 1)) = _
    rw [mz_mxf f n]; rfl
theorem push_getM (σ : St) (x : Blk) : (σ.push x).blks.get σ.next = some x := by simp [St.push, Tr.get_set]
theorem push_neM {σ : St} {x : Blk} {b : Nat} (h : b < σ.next) : (σ.push x).blks.get b = σ.blks.get b := by
  simp only [St.push, Tr.get_set]; rw [if_neg (by omega)]
theorem put_getM (σ : St) (b : Nat) (x : Blk) : (σ.put b x).blks.get b = some x := by simp [St.put, Tr.get_set]
theorem put_neM {σ : St} {x : Blk} {b c : Nat} (h : b ≠ c) : (σ.put c x).blks.get b = σ.blks.get b := by
  simp only [St.put, Tr.get_set]; rw [if_neg h]
theorem op_storeM {C : Cfg} {ρ : Operand → Option A} {o : Oper} {σ : St} {t : TypeId} {a y : Operand} {x : A} {cs cs' : List A} {b i n : Nat} {e : TypeId} (hop : o.op = .store t a y) (ha : ρ a = some (.ptr b i)) (hy : ρ y = some x) (hb : σ.blks.get b = some (.cells cs e)) (hz : sizeOfT C.P t = some n) (hl : x.cells.length = n) (h1 : allOne x.cells = true) (hi : i + n ≤ cs.length) (hs : splice cs i x.cells = cs') :
    op C ρ o σ = some (.skip (σ.put b (.cells cs' e))) := by
  have hc : σ.cells b = some (cs, e) := by unfold St.cells; rw [hb]
  subst hs
  simp only [op, hop, ha, hy, storeOp, hc, hz]
  rw [if_pos ⟨hl, h1, hi⟩]; rfl
theorem op_loadM {C : Cfg} {ρ : Operand → Option A} {o : Oper} {σ : St} {t : TypeId} {a : Operand} {cs : List A} {b i : Nat} {e : TypeId} {x : A} (hop : o.op = .load t a) (ha : ρ a = some (.ptr b i)) (hb : σ.blks.get b = some (.cells cs e)) (hl : loadAt C.P t cs i = some x) : op C ρ o σ = some (.val x σ) := by
  have hc : σ.cells b = some (cs, e) := by unfold St.cells; rw [hb]
  simp only [op, hop, ha, loadOp, hc, hl]; rfl
noncomputable def FrR (rs : List A) (ar : Ap) (n k : Nat) : Fr := (((fr0.set 103 (.sl 1 rs ar)).set 104 (i n)).set 105 (i k))
theorem Fr_le {rs : List A} {ar : Ap} {n k : Nat} {ψ : Fr} (hd : ψ.ds = []) (e1 : ψ.s.get 103 = some (.sl 1 rs ar)) (e2 : ψ.s.get 104 = some (i n)) (e3 : ψ.s.get 105 = some (i k)) : (FrR rs ar n k).le ψ := frS_le e3 (frS_le e2 (frS_le e1 (fr0_le hd)))
theorem load_row {l : List A} {j : Nat} {x : A} (h : j < l.length) (e : l[j] = x) : loadAt cfgC.P 22 l (j * 1) = some x := by
  show l[j * 1]? = _
  rw [Nat.mul_one, List.getElem?_eq_getElem h, e]
theorem ne_def {ρ : Operand → Option A} {o : Oper} {σ : St} {x y : Operand} {u : TypeId} (v z : Int) (hop : o.op = .binOp .neq 40 x y u) (hx : ρ x = some (.agg [str "c", i (-1), i (-3), i v, i z, i 0])) (hy : ρ y = some (.agg [str "c", i (-1), i (-3), i v, i z, i 0])) :
    op cfgC ρ o σ = some (.val (.v (.bool false)) σ) := by
  refine val_bool (op_neSt hop hx hy rfl rfl Try.underlying40 (by kernel_rfl) (by kernel_rfl) (fun d => det_eqF_cons rfl rfl rfl (det_eqS Try.underlying9) (det_eqF_cons rfl rfl rfl (det_eqI Try.underlying3) (det_eqF_cons rfl rfl rfl (det_eqI Try.underlying3) (det_eqF_cons rfl rfl rfl (det_eqI Try.underlying3) (det_eqF_cons rfl rfl rfl (det_eqI Try.underlying3) (det_eqF_cons rfl rfl rfl (det_eqI Try.underlying3) det_eqF_nil))))))) ?_
  simp
theorem cl4 (σ : St) : Cl cfgC 4 [] σ (.ret (.v (.bool true))) σ := Cl.of (k := 1) rfl
theorem cells_map : ∀ {cs : List A} {l : List Int}, Cells (rI .i64) cs l → cs = l.map i
  | _, _, .nil => rfl
  | _, _, .cons h g => by cases h; rw [cells_map g]; rfl
theorem sl_map {a : A} {l : List Int} (h : Sl (rI .i64) a l) (hl : 1 ≤ l.length) : ∃ p, a = .sl 1 (l.map i) p := by
  rcases h with ⟨rfl, rfl⟩ | ⟨cs, p, rfl, h⟩
  · simp at hl
  · exact ⟨p, by rw [cells_map h]; rfl⟩
theorem law_ca {xs ys : List Int} {ax ay : A} (hax : Sl (rI .i64) ax xs) (hay : Sl (rI .i64) ay ys) (R : ∀ n, 1 ≤ n → n ≤ 60 → ∀ a s, Answers n a s) : Ca cfgC 3 [ax, ay] σ0 (fun x _ => x = .v (.bool true)) := by
  have hlx : (xs.map i).length / 1 = xs.length := by rw [List.length_map, Nat.div_one]
  have hly : (ys.map i).length / 1 = ys.length := by rw [List.length_map, Nat.div_one]
  refine Ca.enter Try.func3 rfl rfl (Nat.le_of_ble_eq_true rfl) ?_
  refine Ex.seq (Ex.region ?_)
  refine ExO.val rfl rfl rfl (ExO.nil ?_)
  refine Ex.seq (Ex.seq (Ex.region ?_))
  refine ExO.call rfl rfl (cl4 _) rfl ?_
  refine ExO.val rfl rfl rfl (ExO.nil ?_)
  refine Ex.cond (t := false) rfl (Ex.skip ?_)
  refine Ex.seq (Ex.seq (Ex.region ?_))
  refine ExO.val rfl rfl rfl ?_
  refine ExO.val (x := i xs.length) rfl (op_lenL hax rfl rfl rfl rfl rfl Try.underlying22) rfl ?_
  by_cases h1 : xs.length < 1
  · refine ExO.val (x := .v (.bool true)) rfl (val_bool rfl (decide_eq_true (by omega))) rfl ?_
    refine ExO.val rfl rfl rfl ?_
    refine ExO.off rfl rfl (ExO.off rfl rfl (ExO.off rfl rfl ?_))
    refine ExO.val (x := .v (.bool true)) rfl rfl rfl (ExO.val rfl rfl rfl ?_)
    refine ExO.off rfl rfl (ExO.off rfl rfl (ExO.off rfl rfl (ExO.off rfl rfl (ExO.off rfl rfl ?_))))
    refine ExO.val (x := .v (.bool true)) rfl rfl rfl (ExO.nil ?_)
    refine Ex.cond (t := true) rfl (Ex.seq (Ex.region (ExO.val rfl rfl rfl (ExO.nil (Ex.ret ?_)))))
    exact ⟨.inr rfl, rfl, _, rfl, rfl⟩
  refine ExO.val (x := .v (.bool false)) rfl (val_bool rfl (decide_eq_false (by omega))) rfl ?_
  refine ExO.val rfl rfl rfl (ExO.val rfl rfl rfl ?_)
  refine ExO.val (x := i xs.length) rfl (op_lenL hax rfl rfl rfl rfl rfl Try.underlying22) rfl ?_
  by_cases h2 : 60 < xs.length
  · refine ExO.val (x := .v (.bool true)) rfl (val_bool rfl (decide_eq_true (by omega))) rfl ?_
    refine ExO.val (x := .v (.bool true)) rfl rfl rfl (ExO.val rfl rfl rfl ?_)
    refine ExO.off rfl rfl (ExO.off rfl rfl (ExO.off rfl rfl (ExO.off rfl rfl (ExO.off rfl rfl ?_))))
    refine ExO.val (x := .v (.bool true)) rfl rfl rfl (ExO.nil ?_)
    refine Ex.cond (t := true) rfl (Ex.seq (Ex.region (ExO.val rfl rfl rfl (ExO.nil (Ex.ret ?_)))))
    exact ⟨.inr rfl, rfl, _, rfl, rfl⟩
  refine ExO.val (x := .v (.bool false)) rfl (val_bool rfl (decide_eq_false (by omega))) rfl ?_
  refine ExO.val (x := .v (.bool false)) rfl rfl rfl (ExO.val rfl rfl rfl (ExO.val rfl rfl rfl ?_))
  refine ExO.val (x := i ys.length) rfl (op_lenL hay rfl rfl rfl rfl rfl Try.underlying22) rfl (ExO.val rfl rfl rfl ?_)
  refine ExO.val (x := i xs.length) rfl (op_lenL hax rfl rfl rfl rfl rfl Try.underlying22) rfl ?_
  by_cases h3 : ys.length = xs.length
  rotate_left
  · refine ExO.val (x := .v (.bool true)) rfl (val_bool rfl (by simp; omega)) rfl ?_
    refine ExO.val (x := .v (.bool true)) rfl rfl rfl (ExO.nil ?_)
    refine Ex.cond (t := true) rfl (Ex.seq (Ex.region (ExO.val rfl rfl rfl (ExO.nil (Ex.ret ?_)))))
    exact ⟨.inr rfl, rfl, _, rfl, rfl⟩
  obtain ⟨p, rfl⟩ := sl_map hax (by omega)
  obtain ⟨q, rfl⟩ := sl_map hay (by omega)
  refine ExO.val (x := .v (.bool false)) rfl (val_bool rfl (by simp [h3])) rfl ?_
  refine ExO.val (x := .v (.bool false)) rfl rfl rfl (ExO.nil ?_)
  refine Ex.cond (t := false) rfl (Ex.skip ?_)
  refine Ex.seq (Ex.region ?_)
  refine ExO.val rfl rfl rfl (ExO.val rfl rfl rfl (ExO.nil ?_))
  refine Ex.seq (Ex.region ?_)
  refine ExO.val rfl rfl rfl (ExO.val rfl rfl rfl (ExO.nil ?_))
  refine Ex.seq (Ex.seq (Ex.region ?_))
  refine ExO.val rfl rfl rfl ?_
  refine ExO.val (x := i xs.length) rfl (op_lenM rfl rfl rfl rfl rfl Try.underlying22 hlx) rfl (ExO.val rfl rfl rfl (ExO.nil ?_))
  refine Ex.block ?_
  refine Ex.up (Fl_le (xs := xs) (ys := ys) (p := p) (q := q) (j := 0) rfl rfl rfl rfl rfl rfl rfl rfl) ?_
  refine Ex.loop (fun j : {j : Nat // j ≤ xs.length} => Fl xs ys p q j.1) (fun j => stT j.1) (fun j => xs.length - j.1) (fun j => ?_) ⟨0, Nat.zero_le _⟩
  obtain ⟨j, hj⟩ := j
  refine Ex.seq (Ex.region ?_)
  refine ExO.val (x := .v (.bool (decide ((j : Int) < (xs.length : Nat))))) rfl rfl rfl (ExO.nil ?_)
  refine Ex.seq (Ex.split (t := decide ((j : Int) < (xs.length : Nat))) rfl (fun hlt => ?_) (fun hlt => ?_))
  · have hlt : j < xs.length := by have := of_decide_eq_true hlt; omega
    have hlty : j < ys.length := by omega
    refine Ex.skip ?_
    refine Ex.seq (Ex.block (Ex.seq (Ex.region ?_)))
    refine ExO.val rfl rfl rfl ?_
    refine ExO.val (x := .sp (xs.map i) (j * 1) .no) rfl (op_atM rfl rfl rfl Try.underlying22 rfl Nat.one_pos (by rw [hlx]; exact hlt)) rfl ?_
    refine ExO.val (x := i xs[j]) rfl (op_load rfl rfl (load_int hlt)) rfl ?_
    refine ExO.val rfl rfl rfl (ExO.val rfl rfl rfl (ExO.nil ?_))
    refine Ex.seq (Ex.seq (Ex.region ?_))
    refine ExO.val rfl rfl rfl ?_
    by_cases hx0 : xs[j] < 0
    · refine ExO.val (x := .v (.bool true)) rfl (val_bool rfl (decide_eq_true hx0)) rfl (ExO.val rfl rfl rfl ?_)
      refine ExO.off rfl rfl (ExO.off rfl rfl (ExO.off rfl rfl (ExO.off rfl rfl (ExO.off rfl rfl ?_))))
      refine ExO.val (x := .v (.bool true)) rfl rfl rfl (ExO.nil ?_)
      refine Ex.cond (t := true) rfl (Ex.seq (Ex.region (ExO.val rfl rfl rfl (ExO.nil (Ex.ret ?_)))))
      exact ⟨.inr rfl, rfl, _, rfl, rfl⟩
    refine ExO.val (x := .v (.bool false)) rfl (val_bool rfl (decide_eq_false hx0)) rfl (ExO.val rfl rfl rfl (ExO.val rfl rfl rfl (ExO.val rfl rfl rfl ?_)))
    refine ExO.val (x := .sp (ys.map i) (j * 1) .no) rfl (op_atM rfl rfl rfl Try.underlying22 rfl Nat.one_pos (by rw [hly]; exact hlty)) rfl ?_
    refine ExO.val (x := i ys[j]) rfl (op_load rfl rfl (load_int hlty)) rfl ?_
    by_cases hy0 : ys[j] < 0
    · refine ExO.val (x := .v (.bool true)) rfl (val_bool rfl (decide_eq_true hy0)) rfl ?_
      refine ExO.val (x := .v (.bool true)) rfl rfl rfl (ExO.nil ?_)
      refine Ex.cond (t := true) rfl (Ex.seq (Ex.region (ExO.val rfl rfl rfl (ExO.nil (Ex.ret ?_)))))
      exact ⟨.inr rfl, rfl, _, rfl, rfl⟩
    refine ExO.val (x := .v (.bool false)) rfl (val_bool rfl (decide_eq_false hy0)) rfl ?_
    refine ExO.val (x := .v (.bool false)) rfl rfl rfl (ExO.nil ?_)
    refine Ex.cond (t := false) rfl (Ex.skip ?_)
    have ex := nf_eq hlt (by omega)
    have ey := nf_eq hlty (by omega)
    refine Ex.seq (Ex.region ?_)
    refine ExO.val rfl rfl rfl (ExO.val rfl rfl rfl (ExO.val rfl rfl rfl ?_))
    refine ExO.val (x := .sp (ys.map i) (j * 1) .no) rfl (op_atM rfl rfl rfl Try.underlying22 rfl Nat.one_pos (by rw [hly]; exact hlty)) rfl ?_
    refine ExO.val (x := i (nf ys j)) rfl (op_load rfl rfl (by rw [ey]; exact load_int hlty)) rfl ?_
    refine ExO.val (x := i (nf xs j)) rfl (val_int rfl ex.symm) rfl ?_
    refine ExO.val (x := .agg (sym (nf ys j) (nf xs j))) rfl rfl rfl ?_
    refine ExO.val (x := .sl 6 (sym (nf ys j) (nf xs j)) .ex) rfl rfl rfl ?_
    refine ExO.val (x := .agg (obj (nf ys j) (nf xs j))) rfl rfl rfl ?_
    refine ExO.val (x := .sl 4 (obj (nf ys j) (nf xs j)) .ex) rfl rfl rfl ?_
    refine ExO.val (x := .sl 4 (objs (nf ys) (nf xs) (j + 1)) (apT (j + 1))) (σ' := stT (j + 1)) rfl ?_ rfl (ExO.val rfl rfl rfl (ExO.nil ?_))
    · show wrapS (appendOp cfgC.P 24 (.sl 4 (objs (nf ys) (nf xs) j) (apT j)) (.sl 4 (obj (nf ys j) (nf xs j)) .ex) (stT j)) = _
      rw [app_obj _ _ j (by omega)]; rfl
    refine Ex.seq (Ex.region ?_)
    refine ExO.val rfl rfl rfl ?_
    refine ExO.val (x := i (nf xs j)) rfl (val_int rfl ex.symm) rfl ?_
    refine ExO.val (x := i (mz (nf xs) (j + 1))) rfl (op_maxM rfl rfl rfl rfl rfl) rfl ?_
    refine ExO.val rfl rfl rfl (ExO.nil ?_)
    refine Ex.region ?_
    refine ExO.val rfl rfl rfl (ExO.val rfl rfl rfl (ExO.val rfl rfl rfl ?_))
    refine ExO.val (x := .sp (ys.map i) (j * 1) .no) rfl (op_atM rfl rfl rfl Try.underlying22 rfl Nat.one_pos (by rw [hly]; exact hlty)) rfl ?_
    refine ExO.val (x := i (nf ys j)) rfl (op_load rfl rfl (by rw [ey]; exact load_int hlty)) rfl ?_
    refine ExO.val (x := i (mz (nf ys) (j + 1))) rfl (op_maxM rfl rfl rfl rfl rfl) rfl ?_
    refine ExO.val rfl rfl rfl (ExO.nil ?_)
    refine Ex.region ?_
    refine ExO.val (x := i ((j + 1 : Nat) : Int)) rfl (val_int rfl (add_oneM (n := j) (by omega))) rfl (ExO.val rfl rfl rfl (ExO.nil ?_))
    exact ⟨⟨j + 1, hlt⟩, by show xs.length - (j + 1) < xs.length - j; omega, Fl_le rfl rfl rfl rfl rfl rfl rfl rfl, rfl⟩
  · have hn : j = xs.length := by have := of_decide_eq_false hlt; omega
    subst hn
    refine Ex.exit ?_
    obtain ⟨rs, ap, ar, σ1, hc, hrows⟩ := chk_inv (R xs.length (by omega) (by omega) (nf ys) (nf xs))
    obtain ⟨hrl, hrow⟩ := rows_get hrows
    have ez : ∀ f : Nat → Nat, mxf f (xs.length - 1) = mz f xs.length := fun f => by
      have := mz_mxf f (xs.length - 1)
      rw [show xs.length - 1 + 1 = xs.length by omega] at this
      exact this.symm
    rw [ez, ez] at hc
    refine Ex.seq (Ex.region ?_)
    refine ExO.val rfl rfl rfl ?_
    refine ExO.call rfl rfl (Cl.of (k := 1000) hc) rfl ?_
    refine ExO.val rfl rfl rfl (ExO.val rfl rfl rfl (ExO.val rfl rfl rfl (ExO.val rfl rfl rfl ?_)))
    refine ExO.val (x := .ptr σ1.next 0) (σ' := σ1.push (.cells [nilS, nilS] 35)) rfl rfl rfl ?_
    generalize hD : A.sl 6 [str "c", i (-1), i (-3), i (mz (nf ys) xs.length), i (mz (nf xs) xs.length), i 0] ap = D
    refine ExO.skip (σ' := (σ1.push (.cells [nilS, nilS] 35)).put σ1.next (.cells [D, .sl 1 rs ar] 35)) rfl (op_storeM (n := 2) (cs' := [D, .sl 1 rs ar]) rfl rfl rfl (push_getM _ _) rfl rfl (by subst hD; rfl) (Nat.le_of_ble_eq_true rfl) rfl) rfl ?_
    generalize hσ2 : (σ1.push (.cells [nilS, nilS] 35)).put σ1.next (.cells [D, .sl 1 rs ar] 35) = σ2
    have g0 : σ2.blks.get σ1.next = some (.cells [D, .sl 1 rs ar] 35) := by rw [← hσ2]; exact put_getM _ _ _
    have g1 : ∀ b, b < σ1.next → σ2.blks.get b = σ1.blks.get b := fun b hb => by rw [← hσ2, put_neM (by omega), push_neM hb]
    refine ExO.val rfl rfl rfl (ExO.val rfl rfl rfl (ExO.nil ?_))
    refine Ex.seq (Ex.seq (Ex.region ?_))
    refine ExO.val rfl rfl rfl (ExO.val (x := .v (.bool false)) rfl rfl rfl (ExO.val rfl rfl rfl ?_))
    refine ExO.val (x := .ptr σ1.next 0) rfl rfl rfl ?_
    refine ExO.val (x := D) rfl (op_loadM rfl rfl g0 rfl) rfl ?_
    subst hD
    refine ExO.val (x := i (1 : Nat)) rfl (op_lenM rfl rfl rfl rfl rfl Try.underlying32 (by simp)) rfl (ExO.val (x := .v (.bool false)) rfl rfl rfl (ExO.val (x := .v (.bool false)) rfl rfl rfl (ExO.val rfl rfl rfl ?_)))
    refine ExO.val (x := .ptr σ1.next 0) rfl rfl rfl ?_
    refine ExO.val (x := A.sl 6 [str "c", i (-1), i (-3), i (mz (nf ys) xs.length), i (mz (nf xs) xs.length), i 0] ap) rfl (op_loadM rfl rfl g0 rfl) rfl ?_
    refine ExO.val (x := .sp [str "c", i (-1), i (-3), i (mz (nf ys) xs.length), i (mz (nf xs) xs.length), i 0] (0 * 6) .no) rfl (op_atM (j := 0) rfl rfl rfl Try.underlying32 rfl (Nat.le_of_ble_eq_true rfl) (by simp)) rfl ?_
    refine ExO.val (x := .agg [str "c", i (-1), i (-3), i (mz (nf ys) xs.length), i (mz (nf xs) xs.length), i 0]) rfl (op_load rfl rfl rfl) rfl ?_
    refine ExO.val rfl rfl rfl (ExO.val rfl rfl rfl ?_)
    refine ExO.val (x := .agg [str "c", i (-1), i (-3), i (mz (nf ys) xs.length), i (mz (nf xs) xs.length), i 0]) rfl rfl rfl ?_
    refine ExO.val (x := .v (.bool false)) rfl (ne_def _ _ rfl rfl rfl) rfl ?_
    refine ExO.val (x := .v (.bool false)) rfl rfl rfl (ExO.val rfl rfl rfl ?_)
    refine ExO.val (x := .ptr σ1.next 1) rfl rfl rfl ?_
    refine ExO.val (x := .sl 1 rs ar) rfl (op_loadM rfl rfl g0 rfl) rfl ?_
    refine ExO.val (x := i xs.length) rfl (op_lenM rfl rfl rfl rfl rfl Try.underlying33 (by rw [hrl, Nat.div_one])) rfl (ExO.val rfl rfl rfl ?_)
    refine ExO.val (x := i xs.length) rfl (op_lenM rfl rfl rfl rfl rfl Try.underlying24 (by rw [len_objs]; exact Nat.mul_div_cancel_left _ (Nat.le_of_ble_eq_true rfl))) rfl ?_
    refine ExO.val (x := .v (.bool false)) rfl (val_bool rfl (by simp)) rfl ?_
    refine ExO.val (x := .v (.bool false)) rfl rfl rfl (ExO.nil ?_)
    refine Ex.cond (t := false) rfl (Ex.skip ?_)
    refine Ex.seq (Ex.seq (Ex.region ?_))
    refine ExO.val (x := .ptr σ1.next 1) rfl rfl rfl ?_
    refine ExO.val (x := .sl 1 rs ar) rfl (op_loadM rfl rfl g0 rfl) rfl ?_
    refine ExO.val (x := i xs.length) rfl (op_lenM rfl rfl rfl rfl rfl Try.underlying33 (by rw [hrl, Nat.div_one])) rfl (ExO.val rfl rfl rfl (ExO.nil ?_))
    refine Ex.block ?_
    refine Ex.up (Fr_le (rs := rs) (ar := ar) (n := xs.length) (k := 0) rfl rfl rfl rfl) ?_
    refine Ex.loop (fun k : {k : Nat // k ≤ xs.length} => FrR rs ar xs.length k.1) (fun _ => σ2) (fun k => xs.length - k.1) (fun k => ?_) ⟨0, Nat.zero_le _⟩
    obtain ⟨k, hk⟩ := k
    refine Ex.seq (Ex.region ?_)
    refine ExO.val (x := .v (.bool (decide ((k : Int) < (xs.length : Nat))))) rfl rfl rfl (ExO.nil ?_)
    refine Ex.seq (Ex.split (t := decide ((k : Int) < (xs.length : Nat))) rfl (fun hlt => ?_) (fun hlt => ?_))
    · have hlt : k < rs.length := by have := of_decide_eq_true hlt; omega
      obtain ⟨b, cap, e, hr, hb, hg⟩ := hrow k hlt
      refine Ex.skip ?_
      refine Ex.seq (Ex.block (Ex.seq (Ex.region ?_)))
      refine ExO.val (x := .sp rs (k * 1) .no) rfl (op_atM rfl rfl rfl Try.underlying33 rfl Nat.one_pos (by rw [Nat.div_one]; exact hlt)) rfl ?_
      refine ExO.val (x := .ms b 0 1 cap) rfl (op_load rfl rfl (load_row hlt hr)) rfl ?_
      refine ExO.val rfl rfl rfl (ExO.nil ?_)
      refine Ex.seq (Ex.region ?_)
      refine ExO.val rfl rfl rfl ?_
      refine ExO.val (x := i 1) rfl rfl rfl ?_
      refine ExO.val (x := .v (.bool false)) rfl rfl rfl (ExO.val rfl rfl rfl (ExO.val rfl rfl rfl ?_))
      refine ExO.val (x := .ptr b 0) rfl rfl rfl ?_
      refine ExO.val (x := i 0) rfl (op_loadM rfl rfl (by rw [g1 b hb]; exact hg) rfl) rfl ?_
      refine ExO.val (x := .v (.bool false)) rfl rfl rfl ?_
      refine ExO.val (x := .v (.bool false)) rfl rfl rfl (ExO.nil ?_)
      refine Ex.cond (t := false) rfl (Ex.skip ?_)
      refine Ex.region ?_
      refine ExO.val (x := i ((k + 1 : Nat) : Int)) rfl (val_int rfl (add_oneM (n := k) (by omega))) rfl (ExO.val rfl rfl rfl (ExO.nil ?_))
      exact ⟨⟨k + 1, by omega⟩, by show xs.length - (k + 1) < xs.length - k; omega, Fr_le rfl rfl rfl rfl, rfl⟩
    · refine Ex.exit ?_
      refine Ex.seq (Ex.region ?_)
      refine ExO.val rfl rfl rfl (ExO.nil ?_)
      refine Ex.ret ?_
      exact ⟨.inr rfl, rfl, _, rfl, rfl⟩
end Go.DM.RC
