/- A function by hand that is a run of a machine of its own; the document's reader of trees: its setting, and its fold over tokens. No condition. -/
import Derived.Test.YtbnffodjkbjlbaaDoorTokT
import Derived.Test.YtbnffodjkbjlbaaDoorDmE
namespace Go.DM
open Go Go.Proofs Go.RowKit
mutual
theorem strip_strip : ∀ a : A, strip (strip a) = strip a
  | .sp cs o _ => by simp only [strip, stripL_stripL cs]
  | .sl sz cs _ => by simp only [strip, stripL_stripL cs]
  | .ifc t x => by simp only [strip, strip_strip x]
  | .agg cs => by simp only [strip, stripL_stripL cs]
  | .tup cs => by simp only [strip, stripL_stripL cs]
  | .fn f a c => by simp only [strip, stripL_stripL a, stripL_stripL c]
  | .v x => rfl
  | .ptr b o => rfl
  | .ms b o len cap => rfl
  | .mp b => rfl
  | .raw id len => rfl
  | .junk => rfl
theorem stripL_stripL : ∀ l : List A, stripL (stripL l) = stripL l
  | [] => rfl
  | a :: r => by simp only [stripL, strip_strip a, stripL_stripL r]
end
open Classical in
/-- what a machine's run of a function gives at data without addresses, without rights -/
noncomputable def runG (D : Cfg) (f : FuncId) (lit : List A) : Option A :=
  if h : ∃ x σ1 N, call D N f lit σ0 = some (.ret x, σ1) ∧ pureL lit = true ∧ pureA (strip x) = true then some (strip h.choose) else none
/-- one more function by hand: a machine's run -/
noncomputable def addR (C D : Cfg) (f : FuncId) : Cfg := { C with prim := fun h => bif Nat.beq h f then some (fun args σ => (runG D f (stripL args)).map fun x => (x, σ)) else C.prim h }
theorem addR_ok {C D : Cfg} {G : World → Prop} (hP : D.P = C.P) (hm : D.P.follows .mixedOrders = true) (hG : ∀ w w', G w → Below w.heap.size w w' → G w') (hp : PrimsOk C G) (hd : PrimsOk D G) (hgp : ∀ g, D.glob g = none) (f : FuncId) : PrimsOk (addR C D f) G := by
  intro w hw f' g' args σ σ' y k us hf hg hI hgl hr
  simp only [addR] at hf
  cases hb : Nat.beq f' f with
  | false =>
    rw [hb] at hf
    exact hp w hw f' g' args σ σ' y k us hf hg hI hgl hr
  | true =>
    rw [hb] at hf
    have e1 := Nat.eq_of_beq_eq_true hb
    subst e1
    cases hf
    have hg : (runG D f' (stripL args)).map (fun x => (x, σ)) = some (y, σ') := hg
    cases hq : runG D f' (stripL args) with
    | none => rw [hq] at hg; cases hg
    | some x =>
      rw [hq] at hg
      cases hg
      unfold runG at hq
      split at hq
      case isFalse => cases hq
      rename_i h
      cases hq
      obtain ⟨σ1, N, h1, h2, h3⟩ := h.choose_spec
      have hglD : GlobOk D k := fun g a h => by rw [hgp g] at h; cases h
      have hdk := hd k.w (hG w k.w hw hI.below)
      have := closed_pt (C := D) (σ := σ) (σ1 := σ1) hI hglD (fun g a h => by rw [hgp g] at h; cases h) (fun k us hI hg hr => call_good (drOk hm) hdk N _ _ _ _ _ k us h1 hI hg hr) h2 h3 hr
      rw [hP] at this
      exact this
theorem runG_eq {D : Cfg} {f : FuncId} {lit : List A} {x : A} {σ1 : St} (h : Cl D f lit σ0 (.ret x) σ1) (hl : pureL lit = true) (hx : pureA (strip x) = true) : runG D f lit = some (strip x) := by
  obtain ⟨M, hM⟩ := h
  have hex : ∃ x σ1 N, call D N f lit σ0 = some (.ret x, σ1) ∧ pureL lit = true ∧ pureA (strip x) = true := ⟨x, σ1, M, hM M (Nat.le_refl _), hl, hx⟩
  unfold runG
  rw [dif_pos hex]
  obtain ⟨σ2, N, h1, _, _⟩ := hex.choose_spec
  have e := call_mono (Nat.le_max_right M N) h1
  rw [hM (max M N) (Nat.le_max_left _ _)] at e
  injection e with e
  injection e with e1 e2
  injection e1 with e1
  rw [← e1]
theorem addR_cl {C D : Cfg} {f : FuncId} {args : List A} {x : A} {σ1 : St} (σ : St) (h : Cl D f (stripL args) σ0 (.ret x) σ1) (hl : pureL (stripL args) = true) (hx : pureA (strip x) = true) : Cl (addR C D f) f args σ (.ret (strip x)) σ := by
  refine Cl.of (k := 1) ?_
  have : (addR C D f).prim f = some (fun args σ => (runG D f (stripL args)).map fun x => (x, σ)) := by
    show (bif Nat.beq f f then _ else _) = _
    rw [Nat.beq_refl]; rfl
  simp only [call, this, runG_eq h hl hx, Option.map_some]
end Go.DM
namespace Go.DM.RP
open Go Go.Proofs Go.RowKit
set_option maxRecDepth 100000
abbrev Tok := TK.Tdovetailref03_Token
abbrev i (n : Int) : A := .v (.int .i64 n)
noncomputable def cfgM0 : Cfg := { P := Tryd.prog, glob := fun _ => none, prim := fun _ => none, mutB := fun t => Nat.beq t 33 }
noncomputable def cfgM : Cfg := addR cfgM0 TK.cfg 8
def tokC (t : Tok) : List A := [i t.f_At, i t.f_Kind, i t.f_Num, i t.f_Wrong, .v (.string t.f_Word)]
def nilB : ByteArray := ByteArray.mk #[]
def treeA (k : Int) (w : ByteArray) (v : Int) (kids : A) : List A := [i k, .v (.string w), i v, kids]
/-- the fold over the tokens: the lists that are open, the innermost first -/
def refF (len : Nat) : List Tok → List (List A) → Nat → A × Int × Int
  | [], [c], _ => (.sl 4 c .no, 0, 0)
  | [], _, _ => (nilS, (len : Nat), 31)
  | t :: r, stk, n =>
    if t.f_Kind = 6 then (nilS, t.f_Wrong, 31)
    else if t.f_Kind = 5 then (match stk with
      | top :: p :: rest => refF len r ((p ++ treeA 4 nilB 0 (.sl 4 top .no)) :: rest) n
      | _ => (nilS, t.f_At, 31))
    else if 65536 < n + 1 ∨ (t.f_Kind = 4 ∧ 32 < stk.length) then (nilS, t.f_At, 33)
    else if t.f_Kind = 4 then refF len r ([] :: stk) (n + 1)
    else (match stk with
      | top :: rest => refF len r ((top ++ treeA t.f_Kind t.f_Word t.f_Num nilS) :: rest) (n + 1)
      | [] => (nilS, 0, 0))
theorem refF_cons (len : Nat) (t : Tok) (r : List Tok) (stk : List (List A)) (n : Nat) : refF len (t :: r) stk n =
    (if t.f_Kind = 6 then (nilS, t.f_Wrong, 31)
    else if t.f_Kind = 5 then (match stk with
      | top :: p :: rest => refF len r ((p ++ treeA 4 nilB 0 (.sl 4 top .no)) :: rest) n
      | _ => (nilS, t.f_At, 31))
    else if 65536 < n + 1 ∨ (t.f_Kind = 4 ∧ 32 < stk.length) then (nilS, t.f_At, 33)
    else if t.f_Kind = 4 then refF len r ([] :: stk) (n + 1)
    else (match stk with
      | top :: rest => refF len r ((top ++ treeA t.f_Kind t.f_Word t.f_Num nilS) :: rest) (n + 1)
      | [] => (nilS, 0, 0))) := by
  cases stk with
  | nil => rfl
  | cons a b => cases b <;> rfl
def refR (r : A × Int × Int) : A := .tup [r.1, i r.2.1, i r.2.2]
theorem cells_tok : ∀ {cs : List A} {l : List Tok}, Cells TK.rTdovetailref03_Token cs l → cs = l.flatMap tokC
  | _, _, .nil => rfl
  | _, _, .cons h g => by cases h; rw [cells_tok g]; rfl
theorem pure_tok : ∀ l : List Tok, pureL (stripL (l.flatMap tokC)) = true ∧ stripL (l.flatMap tokC) = l.flatMap tokC
  | [] => ⟨rfl, rfl⟩
  | t :: r => by
    obtain ⟨h1, h2⟩ := pure_tok r
    have e : (t :: r).flatMap tokC = tokC t ++ r.flatMap tokC := rfl
    have e2 : stripL (tokC t ++ r.flatMap tokC) = tokC t ++ stripL (r.flatMap tokC) := rfl
    rw [e, e2]
    refine ⟨?_, by rw [h2]⟩
    show pureL (tokC t ++ _) = true
    simp only [tokC, List.cons_append, List.nil_append, pureL, pureA, Bool.true_and]
    exact h1
/-- the tokens, wherever they are asked for -/
theorem tok_cl {N : Nat} {s : ByteArray} {toks : List Tok} (H : TK.gdovetailref03_Tokens N s = some toks) : ∃ x, (x = nilS ∧ toks = [] ∨ x = .sl 5 (toks.flatMap tokC) .no) ∧ ∀ σ, Cl cfgM 8 [.v (.string s)] σ (.ret x) σ := by
  obtain ⟨x, σ', h1, a1, rfl, h2, _⟩ := TK.gdovetailref03_Tokens_ok (R := []) (Hp.nil σ0) H
  rcases h2 with ⟨rfl, rfl⟩ | ⟨cs, ap, rfl, h2⟩
  · exact ⟨nilS, .inl ⟨rfl, rfl⟩, fun σ => addR_cl (C := cfgM0) (D := TK.cfg) (f := 8) (args := [.v (.string s)]) (x := nilS) σ h1 rfl rfl⟩
  · obtain rfl := cells_tok h2
    obtain ⟨g1, g2⟩ := pure_tok toks
    refine ⟨.sl 5 (toks.flatMap tokC) .no, .inr rfl, fun σ => ?_⟩
    have := addR_cl (C := cfgM0) (D := TK.cfg) (f := 8) (args := [.v (.string s)]) σ h1 rfl (by simp only [strip, pureA, g1]; rfl)
    simp only [strip, g2] at this
    exact this
theorem len_tok : ∀ l : List Tok, (l.flatMap tokC).length = 5 * l.length
  | [] => rfl
  | t :: r => by
    have e : (t :: r).flatMap tokC = tokC t ++ r.flatMap tokC := rfl
    rw [e, List.length_append, len_tok r]; simp only [tokC, List.length_cons, List.length_nil]; omega
theorem drop_tok : ∀ (l : List Tok) (j : Nat) (h : j < l.length), ((l.flatMap tokC).drop (j * 5)).take 5 = tokC l[j]
  | t :: r, 0, _ => rfl
  | t :: r, j + 1, h => by
    have e : (t :: r).flatMap tokC = tokC t ++ r.flatMap tokC := rfl
    have := drop_tok r j (by simpa using h)
    rw [e, show (j + 1) * 5 = 5 + j * 5 by omega, ← List.drop_drop]
    exact this
theorem load_tok {l : List Tok} {j : Nat} (h : j < l.length) : loadAt cfgM.P 37 (l.flatMap tokC) (j * 5) = some (.agg (tokC l[j])) := by
  have hh := drop_tok l j h
  have hl := len_tok l
  have e : loadAt cfgM.P 37 (l.flatMap tokC) (j * 5) = if j * 5 + 5 ≤ (l.flatMap tokC).length then some (.agg (((l.flatMap tokC).drop (j * 5)).take 5)) else none := rfl
  rw [e, if_pos (by omega), hh]
theorem val_bool {r : Option R} {σ : St} {m n : Bool} (h : r = some (.val (.v (.bool m)) σ)) (e : m = n) : r = some (.val (.v (.bool n)) σ) := e ▸ h
theorem parse_big {s : ByteArray} (h : 262144 < s.size) : Ca cfgM 5 [.v (.string s)] σ0 (fun x _ => x = refR (nilS, 0, 33)) := by
  refine Ca.enter Tryd.func5 rfl rfl (Nat.le_of_ble_eq_true rfl) ?_
  refine Ex.seq (Ex.region ?_)
  refine ExO.val rfl rfl rfl (ExO.val rfl rfl rfl (ExO.val rfl rfl rfl (ExO.nil ?_)))
  refine Ex.seq (Ex.seq (Ex.region ?_))
  refine ExO.val rfl rfl rfl ?_
  refine ExO.val (x := i s.size) rfl (op_len rfl rfl rfl rfl rfl Tryd.underlying9) rfl ?_
  refine ExO.val (x := .v (.bool true)) rfl (val_bool rfl (decide_eq_true (by omega))) rfl (ExO.nil ?_)
  refine Ex.cond (t := true) rfl (Ex.seq (Ex.region (ExO.val rfl rfl rfl (ExO.val rfl rfl rfl (ExO.val rfl rfl rfl (ExO.nil (Ex.ret ?_)))))))
  exact ⟨.inr rfl, rfl, _, rfl, rfl⟩
end Go.DM.RP
namespace Go.DM.RP
open Go Go.Proofs Go.RowKit
set_option maxRecDepth 100000
theorem op_lenM {C : Cfg} {ρ : Operand → Option A} {o : Oper} {σ : St} {c : Call} {x : Operand} {cs : List A} {sz m : Nat} {ap : Ap} {t e : TypeId} (hop : o.op = .call c) (hc : c.callee = .builtin .len) (ha : c.args.toList = [x]) (h0 : c.argTypes[0]? = some t) (hx : ρ x = some (.sl sz cs ap)) (ht : C.P.underlying t = some (.slice e)) (hm : cs.length / sz = m) :
    op C ρ o σ = some (.val (i (m : Nat)) σ) := by subst hm; exact op_lenS hop hc ha h0 hx ht
theorem op_atM {C : Cfg} {ρ : Operand → Option A} {o : Oper} {σ : St} {t e : TypeId} {x ix : Operand} {cs : List A} {sz j : Nat} {ap : Ap} (hop : o.op = .indexAddr t x ix) (hx : ρ x = some (.sl sz cs ap)) (hi : ρ ix = some (i (j : Nat))) (ht : C.P.underlying t = some (.slice e)) (hs : sizeOfT C.P e = some sz) (h0 : 0 < sz) (hl : j < cs.length / sz) :
    op C ρ o σ = some (.val (.sp cs (j * sz) .no) σ) := by
  have := op_at (σ := σ) hop hx hi ht hs h0 (Int.natCast_nonneg j) (Int.ofNat_lt.2 hl)
  rwa [Int.toNat_natCast] at this
theorem opQ_loadM {C : Cfg} {ρ : Operand → Option A} {o : Oper} {σ : St} {t : TypeId} {a : Operand} {cs : List A} {b i : Nat} {e : TypeId} {x : A} (hop : o.op = .load t a) (ha : ρ a = some (.ptr b i)) (hb : σ.blks.get b = some (.cells cs e)) (hl : loadAt C.P t cs i = some x) : opQ C ρ o σ = some x := by
  have hc : σ.cells b = some (cs, e) := by unfold St.cells; rw [hb]
  simp only [opQ, hop, op, ha, loadOp, hc, hl]; rfl
theorem op_atMs {C : Cfg} {ρ : Operand → Option A} {o : Oper} {σ : St} {t e : TypeId} {x ix : Operand} {b len cap j : Nat} (hop : o.op = .indexAddr t x ix) (hx : ρ x = some (.ms b 0 len cap)) (hi : ρ ix = some (i (j : Nat))) (ht : C.P.underlying t = some (.slice e)) (hs : sizeOfT C.P e = some 1) (hl : j < len) :
    op C ρ o σ = some (.val (.ptr b j) σ) := by
  simp only [op, hop, hx, hi, indexAddrOp, ht, hs]
  rw [if_pos ⟨by omega, by omega⟩]
  simp [wrapV]
theorem opQ_atMs {C : Cfg} {ρ : Operand → Option A} {o : Oper} {σ : St} {t e : TypeId} {x ix : Operand} {b len cap j : Nat} (hop : o.op = .indexAddr t x ix) (hx : ρ x = some (.ms b 0 len cap)) (hi : ρ ix = some (i (j : Nat))) (ht : C.P.underlying t = some (.slice e)) (hs : sizeOfT C.P e = some 1) (hl : j < len) :
    opQ C ρ o σ = some (.ptr b j) := by
  simp only [opQ, hop, op_atMs hop hx hi ht hs hl]
theorem opQ_lenM {C : Cfg} {ρ : Operand → Option A} {o : Oper} {σ : St} {c : Call} {x : Operand} {cs : List A} {sz m : Nat} {ap : Ap} {t e : TypeId} (hop : o.op = .call c) (hc : c.callee = .builtin .len) (ha : c.args.toList = [x]) (h0 : c.argTypes[0]? = some t) (hx : ρ x = some (.sl sz cs ap)) (ht : C.P.underlying t = some (.slice e)) (hm : cs.length / sz = m) :
    opQ C ρ o σ = some (i (m : Nat)) := by
  simp only [opQ, hop, hc, op_lenM hop hc ha h0 hx ht hm]
theorem op_cutMs {ρ : Operand → Option A} {o : Oper} {σ : St} {x h : Operand} {b len k : Nat} (hop : o.op = .slice 33 x none (some h) none) (hx : ρ x = some (.ms b 0 len (capX + 1))) (hh : ρ h = some (i (k : Nat))) (hl : k ≤ len) (h0 : 0 < len) :
    op cfgM ρ o σ = some (.val (.ms b 0 k (capX + 1)) σ) := by
  have e : sliceOp cfgM.P 33 (.ms b 0 len (capX + 1)) none (some (i (k : Nat))) σ = some (.ms b 0 k (capX + 1), σ) := by
    have hu : cfgM.P.underlying 33 = some (.slice 23) := Tryd.underlying33
    have hz : sizeOfT cfgM.P 23 = some 1 := rfl
    have hb : bounds len none (some (i (k : Nat))) = some (0, k) := by
      simp only [bounds, asNat]
      simp [hl]
    unfold sliceOp
    simp only [hu, hz, hb]
    rw [if_pos (by simp [capX]), if_pos (by simpa using h0)]
    simp
  simp only [op, hop, hx, optOf, hh, e]
theorem add_oneM {n : Nat} (h : n < 2 ^ 40) : IntKind.i64.wrap ((n : Nat) + 1) = ((n + 1 : Nat) : Int) := by rw [wrap_i64] <;> omega
theorem push_getM (σ : St) (x : Blk) : (σ.push x).blks.get σ.next = some x := by simp [St.push, Tr.get_set]
theorem push_neM {σ : St} {x : Blk} {b : Nat} (h : b < σ.next) : (σ.push x).blks.get b = σ.blks.get b := by
  simp only [St.push, Tr.get_set]; rw [if_neg (by omega)]
theorem put_getM (σ : St) (b : Nat) (x : Blk) : (σ.put b x).blks.get b = some x := by simp [St.put, Tr.get_set]
theorem put_neM {σ : St} {x : Blk} {b c : Nat} (h : b ≠ c) : (σ.put c x).blks.get b = σ.blks.get b := by
  simp only [St.put, Tr.get_set]; rw [if_neg h]
theorem op_storeM {C : Cfg} {ρ : Operand → Option A} {o : Oper} {σ : St} {t : TypeId} {a y : Operand} {x : A} {cs cs' : List A} {b i n : Nat} {e : TypeId} (hop : o.op = .store t a y) (ha : ρ a = some (.ptr b i)) (hy : ρ y = some x) (hb : σ.blks.get b = some (.cells cs e)) (hz : sizeOfT C.P t = some n) (hl : x.cells.length = n) (h1 : allOne x.cells = true) (hi : i + n ≤ cs.length) (hs : splice cs i x.cells = cs') :
    op C ρ o σ = some (.skip (σ.put b (.cells cs' e))) := by
  have hc : σ.cells b = some (cs, e) := by unfold St.cells; rw [hb]
  subst hs
  simp only [op, hop, ha, hy, storeOp, hc, hz]
  rw [if_pos ⟨hl, h1, hi⟩]; rfl
theorem op_loadM {C : Cfg} {ρ : Operand → Option A} {o : Oper} {σ : St} {t : TypeId} {a : Operand} {cs : List A} {b i : Nat} {e : TypeId} {x : A} (hop : o.op = .load t a) (ha : ρ a = some (.ptr b i)) (hb : σ.blks.get b = some (.cells cs e)) (hl : loadAt C.P t cs i = some x) : op C ρ o σ = some (.val x σ) := by
  have hc : σ.cells b = some (cs, e) := by unfold St.cells; rw [hb]
  simp only [op, hop, ha, loadOp, hc, hl]; rfl
/-- an open list: its cells, and the right to append -/
abbrev En := List A × Ap
def slot (e : En) : A := .sl 4 e.1 e.2
theorem get_mid {l r : List A} {x : A} : (l ++ x :: r)[l.length]? = some x := by simp
theorem splice_mid {l r : List A} {x y : A} : splice (l ++ x :: r) l.length [y] = l ++ y :: r := by
  unfold splice
  simp [List.drop_append]
theorem load_stk {l r : List A} {x : A} {j : Nat} (h : l.length = j) : loadAt cfgM.P 23 (l ++ x :: r) j = some x := by
  subst h
  show (l ++ x :: r)[l.length]? = _
  exact get_mid
/-- a list appended to -/
theorem app_en {σ : St} {e : En} {vc : List A} (hv : vc.length = 4) (h1 : allOne vc = true) (hl : e.1.length ≤ 4194304) (h : (e.2 = .ex ∧ e.1 = []) ∨ ∃ id, e.2 = .gr id ∧ σ.live id = some 32 ∧ id < σ.nextT) :
    ∃ σ2, (∀ ap, appendOp cfgM.P 23 (slot e) (.sl 4 vc ap) σ = some (slot (e.1 ++ vc, .gr σ.nextT), σ2)) ∧ σ2.blks = σ.blks ∧ σ2.next = σ.next ∧ σ2.nextT = σ.nextT + 1 ∧ σ2.live σ.nextT = some 32 ∧ ∀ id, e.2 ≠ .gr id → id < σ.nextT → σ2.live id = σ.live id := by
  obtain ⟨inf, hi, hs, hz, hz2, hb⟩ : ∃ inf, cfgM.P.info? 32 = some inf ∧ inf.size = 4 ∧ inf.zero.isSome = true ∧ (inf.zero.map (·.cells.size)) = some 4 ∧ inf.bytes = 56 := ⟨_, rfl, rfl, rfl, rfl, rfl⟩
  have hn : vc ≠ [] := by rintro rfl; simp at hv
  obtain ⟨cs, ap0⟩ := e
  rcases h with ⟨h2, h3⟩ | ⟨id, h2, h3, h4⟩
  · dsimp only at h2 h3 hl
    subst h2 h3
    refine ⟨σ.tok 32, fun ap => ?_, rfl, rfl, rfl, by simp [St.live, St.tok, Tr.get_set], fun id _ hid => by simp only [St.live, St.tok, Tr.get_set]; rw [if_neg (by omega)]⟩
    have := append_new_ (P := cfgM.P) (σ := σ) (t := 23) (e := 32) (cs := []) (new := vc) (x := .sl 4 vc ap) Tryd.underlying23 hi (by rw [hs]; rfl) (by omega) hn h1 hz (by rw [hz2, hs]) (by omega) (by rw [hs, hb]; simp [hv])
    rw [hs] at this
    exact this
  · dsimp only at h2 h3 h4 hl
    subst h2
    refine ⟨(σ.untok id).tok 32, fun ap => ?_, rfl, rfl, rfl, by simp [St.live, St.tok, St.untok, Tr.get_set], fun id' hne hid => ?_⟩
    · have := append_own (P := cfgM.P) (σ := σ) (t := 23) (e := 32) (cs := cs) (new := vc) (id := id) (x := .sl 4 vc ap) Tryd.underlying23 hi (by rw [hs]; rfl) (by omega) hn h1 hz (by rw [hz2, hs]) (by omega) (by rw [hs, hb, hv]; omega) h3
      rw [hs] at this
      exact this
    · have : id' ≠ id := fun e => hne (by rw [e])
      simp only [St.live, St.tok, St.untok, Tr.get_set, Tr.get_del]
      rw [if_neg (by omega), if_neg this]
theorem late_mk {n : Nat} {p : LateP} (h0 : p.c.argTypes[0]? = some 23) (h1 : p.c.argTypes[1]? = some 23) (h2 : p.t1 = 23) (h3 : p.e = 32) (h4 : p.t2 = 23) (k1 : Nat.blt p.ta n = true) (k2 : Nat.blt p.tp n = true) (k3 : Nat.blt p.tb n = true)
    {φ : Fr} {σ σ2 : St} {e e' : En} {zs vc l r : List A} {zap : Ap} {m b : Nat} {x : A} {eb : TypeId} (g1 : φ.s.get p.s = some (slot e)) (g2 : φ.s.get p.z = some (.sl 4 zs zap)) (z1 : zs.length = 4) (z2 : allOne zs = true) (g3 : φ.s.get p.ti = some (i (m : Nat))) (hm : e.1.length / 4 = m)
    (g4 : φ.s.get p.tv = some (.agg vc)) (v1 : vc.length = 4) (v2 : allOne vc = true) (ha : appendOp cfgM.P 23 (slot e) (.sl 4 vc .no) σ = some (slot e', σ2)) (had : p.ad.val cfgM φ = some (.ptr b l.length)) (hst : σ2.blks.get b = some (.cells (l ++ x :: r) eb)) :
    ∃ x3 φ3, lateTail cfgM n p φ σ = some (x3, φ3, σ2.put b (.cells (l ++ slot e' :: r) eb)) := by
  have hc : σ2.cells b = some (l ++ x :: r, eb) := by unfold St.cells; rw [hst]
  have hso : storeOp cfgM.P p.t2 (.ptr b l.length) (slot e') σ2 = some (σ2.put b (.cells (l ++ slot e' :: r) eb)) := by
    rw [h4]
    have hz : sizeOfT cfgM.P 23 = some 1 := rfl
    simp only [storeOp, hc, hz]
    rw [if_pos ⟨rfl, rfl, by simp⟩]
    have : (slot e').cells = [slot e'] := rfl
    rw [this, splice_mid]
  unfold lateTail
  simp only [g1, g2, g3, g4, had]
  have hu : cfgM.P.underlying 23 = some (.slice 32) := Tryd.underlying23
  have hz : sizeOfT cfgM.P 32 = some 4 := rfl
  have hv : lateVal cfgM n p (slot e) (.sl 4 zs zap) (i (m : Nat)) (.agg vc) (some (.ptr b l.length)) σ = some (slot e', .ptr b l.length, σ2.put b (.cells (l ++ slot e' :: r) eb)) := by
    unfold lateVal
    simp only [h0, h1, h2, h3, hu]
    rw [if_pos ⟨hz, hz, hz, z1, z2, v1, v2, by omega, by simp [slot, lenS, hm], Nat.le_of_ble_eq_true k1, Nat.le_of_ble_eq_true k2, Nat.le_of_ble_eq_true k3⟩]
    have : (A.agg vc).cells = vc := rfl
    simp only [this, ha, hso]
  rw [hv]
  exact ⟨_, _, rfl⟩
theorem late_mk2 {n : Nat} {p : LateP} (h0 : p.c.argTypes[0]? = some 23) (h1 : p.c.argTypes[1]? = some 23) (h2 : p.t1 = 23) (h3 : p.e = 32) (h4 : p.t2 = 23) (k1 : Nat.blt p.ta n = true) (k2 : Nat.blt p.tp n = true) (k3 : Nat.blt p.tb n = true)
    {φ : Fr} {σ σ2 : St} {e e' : En} {zs vc l r : List A} {zap : Ap} {m b : Nat} {x : A} {eb : TypeId} (g1 : φ.s.get p.s = some (slot e)) (g2 : φ.s.get p.z = some (.sl 4 zs zap)) (z1 : zs.length = 4) (z2 : allOne zs = true) (g3 : φ.s.get p.ti = some (i (m : Nat))) (hm : e.1.length / 4 = m)
    (g4 : φ.s.get p.tv = some (.agg vc)) (v1 : vc.length = 4) (v2 : allOne vc = true) (ha : appendOp cfgM.P 23 (slot e) (.sl 4 vc .no) σ = some (slot e', σ2)) (had : p.ad.val cfgM φ = some (.ptr b l.length)) (hst : σ2.blks.get b = some (.cells (l ++ x :: r) eb)) :
    lateTail cfgM n p φ σ = some (.normal, ((φ.set p.ta (slot e')).set p.tp .junk).set p.tb (.ptr b l.length), σ2.put b (.cells (l ++ slot e' :: r) eb)) := by
  have hc : σ2.cells b = some (l ++ x :: r, eb) := by unfold St.cells; rw [hst]
  have hso : storeOp cfgM.P p.t2 (.ptr b l.length) (slot e') σ2 = some (σ2.put b (.cells (l ++ slot e' :: r) eb)) := by
    rw [h4]
    have hz : sizeOfT cfgM.P 23 = some 1 := rfl
    simp only [storeOp, hc, hz]
    rw [if_pos ⟨rfl, rfl, by simp⟩]
    have : (slot e').cells = [slot e'] := rfl
    rw [this, splice_mid]
  unfold lateTail
  simp only [g1, g2, g3, g4, had]
  have hu : cfgM.P.underlying 23 = some (.slice 32) := Tryd.underlying23
  have hz : sizeOfT cfgM.P 32 = some 4 := rfl
  have hv : lateVal cfgM n p (slot e) (.sl 4 zs zap) (i (m : Nat)) (.agg vc) (some (.ptr b l.length)) σ = some (slot e', .ptr b l.length, σ2.put b (.cells (l ++ slot e' :: r) eb)) := by
    unfold lateVal
    simp only [h0, h1, h2, h3, hu]
    rw [if_pos ⟨hz, hz, hz, z1, z2, v1, v2, by omega, by simp [slot, lenS, hm], Nat.le_of_ble_eq_true k1, Nat.le_of_ble_eq_true k2, Nat.le_of_ble_eq_true k3⟩]
    have : (A.agg vc).cells = vc := rfl
    simp only [this, ha, hso]
  rw [hv]
theorem stripL_app : ∀ a b : List A, stripL (a ++ b) = stripL a ++ stripL b
  | [], _ => rfl
  | x :: r, b => by simp only [List.cons_append, stripL, stripL_app r b]
theorem pureL_app : ∀ a b : List A, pureL (a ++ b) = (pureL a && pureL b)
  | [], _ => by simp [pureL]
  | x :: r, b => by simp only [List.cons_append, pureL, pureL_app r b, Bool.and_assoc]
def Right (σ : St) (x : En) : Prop := (x.2 = .ex ∧ x.1 = []) ∨ ∃ id, x.2 = .gr id ∧ σ.live id = some 32 ∧ id < σ.nextT
def Dist (l : List En) : Prop := l.Pairwise fun x y => ∀ id, x.2 = .gr id → y.2 ≠ .gr id
theorem step_ok {σ σ2 σ3 : St} {pre : List En} {p : En} {vc : List A} {j : Nat} (e1 : σ2.toks = σ.toks) (e2 : σ2.nextT = σ.nextT) (hsz : ∀ x ∈ pre ++ [p], x.1.length ≤ 4 * j) (hr : ∀ x ∈ pre ++ [p], Right σ x) (hd : Dist (pre ++ [p])) (hp : ∀ x ∈ pre ++ [p], pureL (stripL x.1) = true)
    (a4 : σ3.nextT = σ2.nextT + 1) (a5 : σ3.live σ2.nextT = some 32) (a6 : ∀ id, p.2 ≠ .gr id → id < σ2.nextT → σ3.live id = σ2.live id) (hv : vc.length = 4) (hpv : pureL (stripL vc) = true) :
    (∀ x ∈ pre ++ [(p.1 ++ vc, .gr σ2.nextT)], x.1.length ≤ 4 * (j + 1)) ∧ (∀ x ∈ pre ++ [(p.1 ++ vc, .gr σ2.nextT)], Right σ3 x) ∧ Dist (pre ++ [(p.1 ++ vc, .gr σ2.nextT)]) ∧ ∀ x ∈ pre ++ [(p.1 ++ vc, .gr σ2.nextT)], pureL (stripL x.1) = true := by
  have hp0 : p ∈ pre ++ [p] := by simp
  have hin : ∀ x ∈ pre, x ∈ pre ++ [p] := fun x hx => List.mem_append_left _ hx
  have hd' := List.pairwise_append.1 hd
  refine ⟨fun x hx => ?_, fun x hx => ?_, ?_, fun x hx => ?_⟩
  · rcases List.mem_append.1 hx with h | h
    · have := hsz x (hin x h); omega
    · obtain rfl := List.mem_singleton.1 h
      have := hsz p hp0
      simp only [List.length_append, hv]; omega
  · rcases List.mem_append.1 hx with h | h
    · rcases hr x (hin x h) with h1 | ⟨id, h1, h2, h3⟩
      · exact .inl h1
      · refine .inr ⟨id, h1, ?_, by rw [a4, e2]; omega⟩
        have hne : p.2 ≠ .gr id := hd'.2.2 x h p (by simp) id h1
        rw [a6 id hne (by rw [e2]; exact h3)]
        have : σ2.live id = σ.live id := by simp only [St.live, e1]
        rw [this]; exact h2
    · obtain rfl := List.mem_singleton.1 h
      exact .inr ⟨σ2.nextT, rfl, a5, by rw [a4]; omega⟩
  · refine List.pairwise_append.2 ⟨hd'.1, List.pairwise_singleton _ _, fun x hx y hy id hid => ?_⟩
    obtain rfl := List.mem_singleton.1 hy
    rcases hr x (hin x hx) with h1 | ⟨id', h1, h2, h3⟩
    · rw [h1.1] at hid; cases hid
    · rw [h1] at hid
      cases hid
      intro e
      injection e with e
      rw [e2] at e
      omega
  · rcases List.mem_append.1 hx with h | h
    · exact hp x (hin x h)
    · obtain rfl := List.mem_singleton.1 h
      show pureL (stripL (p.1 ++ vc)) = true
      rw [stripL_app, pureL_app, hp p hp0, hpv]; rfl
theorem opt_int {r : Option A} {k : IntKind} {m n : Int} (h : r = some (.v (.int k m))) (e : m = n) : r = some (.v (.int k n)) := e ▸ h
theorem adr_idx {φ : Fr} {x k : Tmp} {b len cap j : Nat} (hx : φ.s.get x = some (.ms b 0 len cap)) (hk : φ.s.get k = some (i (j : Nat))) (hl : j < len) : (LateAdr.idx 33 x k).val cfgM φ = some (.ptr b j) := by
  have hu : cfgM.P.underlying 33 = some (.slice 23) := Tryd.underlying33
  have hz : sizeOfT cfgM.P 23 = some 1 := rfl
  simp only [LateAdr.val, hx, hk, hu, hz]
  rw [if_pos ⟨by omega, by omega⟩]
  simp
/-- a list begun -/
theorem app_stk {σ : St} {pre : List En} {top : En} {ext : List A} {b cap : Nat} {e : TypeId} (hb : σ.blks.get b = some (.cells (pre.map slot ++ slot top :: ext) e)) (hbn : b < σ.next) (hl : pre.length ≤ 32) (hcap : (cap = capX + 1 ∧ e = offX + 23) ∨ (pre = [] ∧ ext = [] ∧ cap = 1 ∧ e = 23)) :
    ∃ σ3, appendM cfgM.P 33 (.ms b 0 (pre.length + 1) cap) (.ms σ.next 0 1 1) (σ.push (.cells [.sl 4 [] .ex] 23)) = some (.ms (σ.next + 1) 0 (pre.length + 2) (capX + 1), σ3) ∧
      σ3.blks.get (σ.next + 1) = some (.cells ((pre ++ [top]).map slot ++ slot ([], .ex) :: []) (offX + 23)) ∧ σ3.next = σ.next + 2 ∧ σ3.toks = σ.toks ∧ σ3.nextT = σ.nextT := by
  obtain ⟨inf, hi, hs, hz, hz2, hby⟩ : ∃ inf, cfgM.P.info? 23 = some inf ∧ inf.size = 1 ∧ inf.zero.isSome = true ∧ (inf.zero.map (·.cells.size)) = some 1 ∧ inf.bytes = 24 := ⟨_, rfl, rfl, rfl, rfl, rfl⟩
  have hu : cfgM.P.underlying 33 = some (.slice 23) := Tryd.underlying33
  generalize hτ : σ.push (.cells [.sl 4 [] .ex] 23) = τ
  have g1 : τ.blks.get σ.next = some (.cells [.sl 4 [] .ex] 23) := by rw [← hτ]; exact push_getM _ _
  have g2 : τ.blks.get b = some (.cells (pre.map slot ++ slot top :: ext) e) := by rw [← hτ, push_neM hbn]; exact hb
  have g3 : τ.next = σ.next + 1 := by rw [← hτ]; rfl
  have g4 : τ.toks = σ.toks ∧ τ.nextT = σ.nextT := by rw [← hτ]; exact ⟨rfl, rfl⟩
  have hc1 : τ.cells σ.next = some ([.sl 4 [] .ex], 23) := by unfold St.cells; rw [g1]
  have hc2 : τ.cells b = some (pre.map slot ++ slot top :: ext, e) := by unfold St.cells; rw [g2]
  have hap : appended τ inf.size (.ms σ.next 0 1 1) = some [.sl 4 [] .ex] := by rw [hs]; simp [appended, hc1]
  have htk : (pre.map slot ++ slot top :: ext).take ((pre.length + 1) * 1) = (pre ++ [top]).map slot := by
    have e1 : pre.map slot ++ slot top :: ext = (pre ++ [top]).map slot ++ ext := by simp
    rw [e1, Nat.mul_one, List.take_append_of_le_length (by simp), List.take_of_length_le (by simp)]
  unfold appendM
  simp only [hu, hi, hap, hc2]
  rw [if_pos (by omega), if_neg (by simp), if_pos ⟨rfl, hz, by rw [hz2, hs], by omega⟩]
  rcases hcap with ⟨rfl, rfl⟩ | ⟨rfl, rfl, rfl, rfl⟩
  · rw [if_pos (by rw [hs, hby]; simp; omega), hs, htk]
    refine ⟨(τ.kill b).push (.cells ((pre ++ [top]).map slot ++ [.sl 4 [] .ex]) (offX + 23)), by simp [g3], ?_, ?_, ?_, ?_⟩
    · have := push_getM (τ.kill b) (.cells ((pre ++ [top]).map slot ++ [.sl 4 [] .ex]) (offX + 23))
      rw [← g3]; exact this
    · show τ.next + 1 = _; omega
    · exact g4.1
    · exact g4.2
  · rw [if_neg (by simp [capX, offX]), if_pos (by rw [hs, hby]; simp [capX]), hs, htk]
    refine ⟨τ.push (.cells (([] ++ [top]).map slot ++ [.sl 4 [] .ex]) (offX + 23)), by simp [g3], ?_, ?_, ?_, ?_⟩
    · have := push_getM τ (.cells (([] ++ [top]).map slot ++ [.sl 4 [] .ex]) (offX + 23))
      rw [← g3]; exact this
    · show τ.next + 1 = _; omega
    · exact g4.1
    · exact g4.2
/-- what the loop keeps -/
structure In (len : Nat) (toks : List Tok) (R : A × Int × Int) where
  j : Nat
  σ : St
  pre : List En
  top : En
  ext : List A
  b : Nat
  cap : Nat
  e : TypeId
  n : Nat
  hj : j ≤ toks.length
  hb : σ.blks.get b = some (.cells (pre.map slot ++ slot top :: ext) e)
  hbn : b < σ.next
  hcap : (cap = capX + 1 ∧ e = offX + 23) ∨ (pre = [] ∧ ext = [] ∧ cap = 1 ∧ e = 23)
  hn : n ≤ 65536
  hl : pre.length ≤ 32
  hsz : ∀ x ∈ pre ++ [top], x.1.length ≤ 4 * j
  hr : ∀ x ∈ pre ++ [top], Right σ x
  hd : Dist (pre ++ [top])
  hp : ∀ x ∈ pre ++ [top], pureL (stripL x.1) = true
  hs : refF len (toks.drop j) (stripL top.1 :: (pre.map fun x => stripL x.1).reverse) n = R
noncomputable def Fl {len : Nat} {toks : List Tok} {R : A × Int × Int} (s : ByteArray) (q : In len toks R) (jj : Nat) : Fr :=
  ((((((fr0.set 0 (.v (.string s))).set 5 (.ms q.b 0 (q.pre.length + 1) q.cap)).set 6 (i q.n)).set 17 (.sl 5 (toks.flatMap tokC) .no)).set 18 (i toks.length)).set 19 (i jj))
theorem Fl_le {len : Nat} {toks : List Tok} {R : A × Int × Int} {s : ByteArray} {q : In len toks R} {jj : Nat} {ψ : Fr} (hd : ψ.ds = []) (e0 : ψ.s.get 0 = some (.v (.string s))) (e5 : ψ.s.get 5 = some (.ms q.b 0 (q.pre.length + 1) q.cap)) (e6 : ψ.s.get 6 = some (i q.n)) (e17 : ψ.s.get 17 = some (.sl 5 (toks.flatMap tokC) .no)) (e18 : ψ.s.get 18 = some (i toks.length)) (e19 : ψ.s.get 19 = some (i jj)) :
    (Fl s q jj).le ψ := frS_le e19 (frS_le e18 (frS_le e17 (frS_le e6 (frS_le e5 (frS_le e0 (fr0_le hd))))))
def Post (R : A × Int × Int) (x : A) (_ : St) : Prop := strip x = refR R ∧ pureA (strip x) = true
theorem parse_ca {N : Nat} {s : ByteArray} {toks : List Tok} (H : TK.gdovetailref03_Tokens N s = some toks) (hs : s.size ≤ 262144) (hl : toks.length ≤ 1048576) (hne : toks ≠ []) : Ca cfgM 5 [.v (.string s)] σ0 (Post (refF s.size toks [[]] 0)) := by
  obtain ⟨xt, hxt, hcl⟩ := tok_cl H
  obtain rfl : xt = .sl 5 (toks.flatMap tokC) .no := by
    rcases hxt with ⟨_, h⟩ | h
    · exact absurd h hne
    · exact h
  refine Ca.enter Tryd.func5 rfl rfl (Nat.le_of_ble_eq_true rfl) ?_
  refine Ex.seq (Ex.region ?_)
  refine ExO.val rfl rfl rfl (ExO.val rfl rfl rfl (ExO.val rfl rfl rfl (ExO.nil ?_)))
  refine Ex.seq (Ex.seq (Ex.region ?_))
  refine ExO.val rfl rfl rfl ?_
  refine ExO.val (x := i s.size) rfl (op_len rfl rfl rfl rfl rfl Tryd.underlying9) rfl ?_
  refine ExO.val (x := .v (.bool false)) rfl (val_bool rfl (decide_eq_false (by omega))) rfl (ExO.nil ?_)
  refine Ex.cond (t := false) rfl (Ex.skip ?_)
  refine Ex.seq (Ex.region ?_)
  refine ExO.val (x := .sl 4 [] .ex) rfl rfl rfl ?_
  refine ExO.val (x := .ms σ0.next 0 1 1) (σ' := σ0.push (.cells [.sl 4 [] .ex] 23)) rfl rfl rfl ?_
  refine ExO.val rfl rfl rfl (ExO.nil ?_)
  refine Ex.seq (Ex.region ?_)
  refine ExO.val rfl rfl rfl (ExO.nil ?_)
  refine Ex.seq (Ex.seq (Ex.region ?_))
  refine ExO.val rfl rfl rfl ?_
  refine ExO.call rfl rfl (hcl _) rfl ?_
  refine ExO.val (x := i toks.length) rfl (op_lenM rfl rfl rfl rfl rfl Tryd.underlying34 (by rw [len_tok]; omega)) rfl (ExO.val rfl rfl rfl (ExO.nil ?_))
  refine Ex.block ?_
  let q0 : In s.size toks (refF s.size toks [[]] 0) := ⟨0, σ0.push (.cells [.sl 4 [] .ex] 23), [], ([], .ex), [], 0, 1, 23, 0, Nat.zero_le _, rfl, Nat.zero_lt_one, .inr ⟨rfl, rfl, rfl, rfl⟩, by omega, by simp, by simp, by simp [Right], by simp [Dist], by simp [stripL, pureL], rfl⟩
  refine Ex.up (Fl_le (q := q0) rfl rfl rfl rfl rfl rfl rfl) ?_
  refine Ex.loop (fun q : In s.size toks (refF s.size toks [[]] 0) => Fl s q q.j) (fun q => q.σ) (fun q => toks.length - q.j) (fun q => ?_) q0
  refine Ex.seq (Ex.region ?_)
  refine ExO.val (x := .v (.bool (decide ((q.j : Int) < (toks.length : Nat))))) rfl rfl rfl (ExO.nil ?_)
  refine Ex.seq (Ex.split (t := decide ((q.j : Int) < (toks.length : Nat))) rfl (fun hlt => ?_) (fun hlt => ?_))
  · have hlt : q.j < toks.length := by have := of_decide_eq_true hlt; omega
    have hdrop : toks.drop q.j = toks[q.j] :: toks.drop (q.j + 1) := List.drop_eq_getElem_cons hlt
    have hlt' := load_tok hlt
    have hsp := q.hs
    rw [hdrop, refF_cons] at hsp
    generalize toks[q.j] = t at hlt' hdrop hsp
    refine Ex.skip ?_
    refine Ex.seq (Ex.block (Ex.seq (Ex.region ?_)))
    refine ExO.val (x := .sp (toks.flatMap tokC) (q.j * 5) .no) rfl (op_atM rfl rfl rfl Tryd.underlying34 rfl (Nat.le_of_ble_eq_true rfl) (by rw [len_tok]; omega)) rfl ?_
    refine ExO.val (x := .agg (tokC t)) rfl (op_load rfl rfl hlt') rfl ?_
    refine ExO.val (x := .ptr q.σ.next 0) (σ' := q.σ.push (.cells [i 0, i 0, i 0, i 0, .v (.string nilB)] 37)) rfl rfl rfl ?_
    refine ExO.skip (σ' := (q.σ.push (.cells [i 0, i 0, i 0, i 0, .v (.string nilB)] 37)).put q.σ.next (.cells (tokC t) 37)) rfl (op_storeM (n := 5) (cs' := tokC t) rfl rfl rfl (push_getM _ _) rfl rfl rfl (Nat.le_of_ble_eq_true rfl) rfl) rfl (ExO.nil ?_)
    generalize hσ1 : (q.σ.push (.cells [i 0, i 0, i 0, i 0, .v (.string nilB)] 37)).put q.σ.next (.cells (tokC t) 37) = σ1
    have t0 : σ1.blks.get q.σ.next = some (.cells (tokC t) 37) := by rw [← hσ1]; exact put_getM _ _ _
    have t1 : ∀ b, b < q.σ.next → σ1.blks.get b = q.σ.blks.get b := fun b hb => by rw [← hσ1, put_neM (by omega), push_neM hb]
    have t2 : σ1.next = q.σ.next + 1 := by rw [← hσ1]; rfl
    have t3 : σ1.toks = q.σ.toks := by rw [← hσ1]; rfl
    have t4 : σ1.nextT = q.σ.nextT := by rw [← hσ1]; rfl
    have hb1 : σ1.blks.get q.b = some (.cells (q.pre.map slot ++ slot q.top :: q.ext) q.e) := by rw [t1 q.b q.hbn]; exact q.hb
    refine Ex.seq (Ex.region ?_)
    refine ExO.val rfl rfl rfl (ExO.val (x := i ((q.pre.length + 1 : Nat) : Int)) rfl rfl rfl ?_)
    refine ExO.val (x := i (q.pre.length : Nat)) rfl (val_int rfl (by rw [wrap_i64] <;> have := q.hl <;> omega)) rfl (ExO.val rfl rfl rfl (ExO.nil ?_))
    refine Ex.seq (Ex.seq (Ex.region ?_))
    refine ExO.val (x := .ptr q.σ.next 1) rfl rfl rfl ?_
    refine ExO.val (x := i t.f_Kind) rfl (op_loadM rfl rfl t0 rfl) rfl ?_
    by_cases h6 : t.f_Kind = 6
    · rw [if_pos h6] at hsp
      refine ExO.val (x := .v (.bool true)) rfl (val_bool rfl (by simp [h6])) rfl (ExO.nil ?_)
      refine Ex.cond (t := true) rfl (Ex.seq (Ex.drawn (by kernel_rfl) ?_))
      refine ExD.val (x := .ptr q.σ.next 3) rfl rfl rfl rfl rfl ?_
      refine ExD.val (x := i t.f_Wrong) rfl rfl (opQ_loadM rfl rfl t0 rfl) rfl rfl ?_
      refine ExD.val (x := nilS) rfl rfl rfl rfl rfl (ExD.val (x := i t.f_Wrong) rfl rfl rfl rfl rfl (ExD.val (x := i 31) rfl rfl rfl rfl rfl (ExD.nil ?_)))
      refine Ex.ret ?_
      exact ⟨.inr rfl, rfl, [nilS, i t.f_Wrong, i 31], rfl, by rw [← hsp]; exact ⟨rfl, rfl⟩⟩
    rw [if_neg h6] at hsp
    refine ExO.val (x := .v (.bool false)) rfl (val_bool rfl (by simp [h6])) rfl (ExO.nil ?_)
    refine Ex.cond (t := false) rfl (Ex.skip ?_)
    refine Ex.seq (Ex.seq (Ex.region ?_))
    refine ExO.val (x := .ptr q.σ.next 1) rfl rfl rfl ?_
    refine ExO.val (x := i t.f_Kind) rfl (op_loadM rfl rfl t0 rfl) rfl ?_
    by_cases h5 : t.f_Kind = 5
    · rw [if_pos h5] at hsp
      refine ExO.val (x := .v (.bool true)) rfl (val_bool rfl (by simp [h5])) rfl (ExO.val rfl rfl rfl (ExO.val rfl rfl rfl ?_))
      rcases List.eq_nil_or_concat q.pre with hpre | ⟨pre', p, hpre⟩
      · rw [hpre] at hsp
        refine ExO.val (x := .v (.bool true)) rfl (val_bool rfl (by simp [hpre])) rfl (ExO.val (x := .v (.bool true)) rfl rfl rfl (ExO.nil ?_))
        refine Ex.cond (t := true) rfl (Ex.seq (Ex.drawn (by kernel_rfl) ?_))
        refine ExD.val (x := .ptr q.σ.next 0) rfl rfl rfl rfl rfl ?_
        refine ExD.val (x := i t.f_At) rfl rfl (opQ_loadM rfl rfl t0 rfl) rfl rfl ?_
        refine ExD.val (x := nilS) rfl rfl rfl rfl rfl (ExD.val (x := i t.f_At) rfl rfl rfl rfl rfl (ExD.val (x := i 31) rfl rfl rfl rfl rfl (ExD.nil ?_)))
        refine Ex.ret ?_
        exact ⟨.inr rfl, rfl, [nilS, i t.f_At, i 31], rfl, by rw [← hsp]; exact ⟨rfl, rfl⟩⟩
      rw [List.concat_eq_append] at hpre
      have hpl : q.pre.length = pre'.length + 1 := by rw [hpre]; simp
      refine ExO.val (x := .v (.bool false)) rfl (val_bool rfl (by simp [hpl]; omega)) rfl (ExO.val (x := .v (.bool false)) rfl rfl rfl (ExO.nil ?_))
      refine Ex.cond (t := false) rfl (Ex.skip ?_)
      refine Ex.seq (Ex.seq (Ex.region ?_))
      refine ExO.val (x := .ptr q.σ.next 1) rfl rfl rfl ?_
      refine ExO.val (x := i t.f_Kind) rfl (op_loadM rfl rfl t0 rfl) rfl ?_
      refine ExO.val (x := .v (.bool true)) rfl (val_bool rfl (by simp [h5])) rfl (ExO.nil ?_)
      refine Ex.cond (t := true) rfl ?_
      -- the tree of what was read
      refine Ex.seq (Ex.region ?_)
      refine ExO.val rfl rfl rfl (ExO.val rfl rfl rfl ?_)
      refine ExO.val (x := .ptr q.b q.pre.length) rfl (op_atMs rfl rfl rfl Tryd.underlying33 rfl (by omega)) rfl ?_
      refine ExO.val (x := slot q.top) rfl (op_loadM rfl rfl hb1 (load_stk (l := q.pre.map slot) (by simp))) rfl ?_
      refine ExO.val (x := .agg (treeA 4 nilB 0 (slot q.top))) rfl rfl rfl ?_
      refine ExO.val (x := .ptr σ1.next 0) (σ' := σ1.push (.cells [i 0, .v (.string nilB), i 0, nilS] 32)) rfl rfl rfl ?_
      refine ExO.skip (σ' := (σ1.push (.cells [i 0, .v (.string nilB), i 0, nilS] 32)).put σ1.next (.cells (treeA 4 nilB 0 (slot q.top)) 32)) rfl (op_storeM (n := 4) (cs' := treeA 4 nilB 0 (slot q.top)) rfl rfl rfl (push_getM _ _) rfl rfl rfl (Nat.le_of_ble_eq_true rfl) rfl) rfl (ExO.nil ?_)
      generalize hσ2 : (σ1.push (.cells [i 0, .v (.string nilB), i 0, nilS] 32)).put σ1.next (.cells (treeA 4 nilB 0 (slot q.top)) 32) = σ2
      have u0 : σ2.blks.get σ1.next = some (.cells (treeA 4 nilB 0 (slot q.top)) 32) := by rw [← hσ2]; exact put_getM _ _ _
      have u1 : ∀ b, b < σ1.next → σ2.blks.get b = σ1.blks.get b := fun b hb => by rw [← hσ2, put_neM (by omega), push_neM hb]
      have u2 : σ2.next = σ1.next + 1 := by rw [← hσ2]; rfl
      have u3 : σ2.toks = σ1.toks := by rw [← hσ2]; rfl
      have u4 : σ2.nextT = σ1.nextT := by rw [← hσ2]; rfl
      have hqb := q.hbn
      have hb2 : σ2.blks.get q.b = some (.cells (q.pre.map slot ++ slot q.top :: q.ext) q.e) := by rw [u1 q.b (by omega)]; exact hb1
      have hcap : q.cap = capX + 1 ∧ q.e = offX + 23 := by
        rcases q.hcap with h | ⟨h, _⟩
        · exact h
        · rw [h] at hpl; simp at hpl
      have hfl : (Fl s q q.j).s.get 5 = some (.ms q.b 0 (q.pre.length + 1) (capX + 1)) := by rw [← hcap.1]; rfl
      refine Ex.seq (Ex.region ?_)
      refine ExO.val (x := .ms q.b 0 (q.pre.length + 1) (capX + 1)) rfl (by rw [← hcap.1]; rfl) rfl (ExO.val (x := i (q.pre.length : Nat)) rfl rfl rfl ?_)
      refine ExO.val (x := .ms q.b 0 q.pre.length (capX + 1)) rfl (op_cutMs rfl rfl rfl (by omega) (by omega)) rfl (ExO.val rfl rfl rfl (ExO.nil ?_))
      have hin : ∀ x ∈ pre' ++ [p], x ∈ q.pre ++ [q.top] := fun x hx => List.mem_append_left _ (by rw [hpre]; exact hx)
      have hin0 : p ∈ pre' ++ [p] := by simp
      have htop : q.top ∈ q.pre ++ [q.top] := by simp
      have hdp : Dist (pre' ++ [p]) := by have := (List.pairwise_append.1 q.hd).1; rw [hpre] at this; exact this
      have hRp : Right σ2 p := by
        rcases q.hr p (hin p hin0) with h | ⟨id, h1, h2, h3⟩
        · exact .inl h
        · exact .inr ⟨id, h1, by simp only [St.live, u3, t3]; exact h2, by rw [u4, t4]; exact h3⟩
      obtain ⟨σ3, a1, a2, a3, a4, a5, a6⟩ := app_en (σ := σ2) (e := p) (vc := treeA 4 nilB 0 (slot q.top)) rfl rfl (by have := q.hsz p (hin p hin0); omega) hRp
      have hb3 : σ2.blks.get q.b = some (.cells (pre'.map slot ++ slot p :: (slot q.top :: q.ext)) q.e) := by rw [hb2, hpre]; simp
      have hb4 : σ3.blks.get q.b = some (.cells (pre'.map slot ++ slot p :: (slot q.top :: q.ext)) q.e) := by rw [a2]; exact hb3
      have hml : (pre'.map slot).length = pre'.length := List.length_map _
      obtain ⟨b1, b2, b3, b4⟩ := step_ok (vc := treeA 4 nilB 0 (slot q.top)) (σ := q.σ) (σ2 := σ2) (σ3 := σ3) (u3.trans t3) (u4.trans t4) (fun x hx => q.hsz x (hin x hx)) (fun x hx => q.hr x (hin x hx)) hdp (fun x hx => q.hp x (hin x hx)) a4 a5 a6 rfl
        (by have := q.hp q.top htop; simp only [treeA, slot, stripL, strip, pureL, pureA, this, noAp]; rfl)
      have hw : IntKind.i64.wrap (((q.pre.length : Nat) : Int) - 1) = ((pre'.length : Nat) : Int) := by rw [wrap_i64] <;> have := q.hl <;> omega
      refine Ex.seq (Ex.coin' (σ' := σ3.put q.b (.cells (pre'.map slot ++ slot (p.1 ++ treeA 4 nilB 0 (slot q.top), .gr σ2.nextT) :: (slot q.top :: q.ext)) q.e)) (by kernel_rfl) rfl (by kernel_rfl) ?_ ?_ ?_)
      · refine ExD.val (x := .ms q.b 0 q.pre.length (capX + 1)) rfl rfl rfl rfl rfl ?_
        refine ExD.val (x := i (q.pre.length : Nat)) rfl rfl rfl rfl rfl (ExD.val (x := i (pre'.length : Nat)) rfl rfl (opt_int rfl hw) rfl rfl ?_)
        refine ExD.val (x := .ms q.b 0 q.pre.length (capX + 1)) rfl rfl rfl rfl rfl ?_
        refine ExD.val (x := i (q.pre.length : Nat)) rfl rfl rfl rfl rfl (ExD.val (x := i (pre'.length : Nat)) rfl rfl (opt_int rfl hw) rfl rfl ?_)
        refine ExD.val (x := .ptr q.b pre'.length) rfl rfl (opQ_atMs rfl rfl rfl Tryd.underlying33 rfl (by omega)) rfl rfl ?_
        refine ExD.val (x := slot p) rfl rfl (opQ_loadM rfl rfl hb3 (load_stk hml)) rfl rfl ?_
        refine ExD.val (x := .agg (treeA 4 nilB 0 (slot q.top))) rfl rfl (opQ_loadM rfl rfl u0 rfl) rfl rfl ?_
        refine ExD.val (x := .sl 4 (treeA 4 nilB 0 (slot q.top)) .ex) rfl rfl rfl rfl rfl ?_
        refine ExD.loud (x := slot (p.1 ++ treeA 4 nilB 0 (slot q.top), .gr σ2.nextT)) (σ' := σ3) rfl rfl (.inl ?_) (by kernel_rfl) rfl ?_
        · show wrapS (appendOp cfgM.P 23 (slot p) (.sl 4 (treeA 4 nilB 0 (slot q.top)) .ex) σ2) = _
          rw [a1]; rfl
        refine ExD.val (x := .ptr q.b pre'.length) rfl rfl (opQ_atMs rfl rfl rfl Tryd.underlying33 rfl (by omega)) (by kernel_rfl) rfl ?_
        refine ExD.loud (x := und) (σ' := σ3.put q.b (.cells (pre'.map slot ++ slot (p.1 ++ treeA 4 nilB 0 (slot q.top), .gr σ2.nextT) :: (slot q.top :: q.ext)) q.e)) rfl rfl (.inr ⟨?_, rfl⟩) (by kernel_rfl) rfl (ExD.nil ⟨rfl, rfl⟩)
        refine op_storeM (n := 1) rfl rfl rfl hb4 rfl rfl rfl (by simp) ?_
        rw [← hml]; exact splice_mid
      · refine ExD.val (x := .ms q.b 0 q.pre.length (capX + 1)) rfl rfl rfl rfl rfl ?_
        refine ExD.val (x := i (q.pre.length : Nat)) rfl rfl rfl rfl rfl (ExD.val (x := i (pre'.length : Nat)) rfl rfl (opt_int rfl hw) rfl rfl ?_)
        refine ExD.val (x := .ms q.b 0 q.pre.length (capX + 1)) rfl rfl rfl rfl rfl ?_
        refine ExD.val (x := i (q.pre.length : Nat)) rfl rfl rfl rfl rfl (ExD.val (x := i (pre'.length : Nat)) rfl rfl (opt_int rfl hw) rfl rfl ?_)
        refine ExD.val (x := .ptr q.b pre'.length) rfl rfl (opQ_atMs rfl rfl rfl Tryd.underlying33 rfl (by omega)) rfl rfl ?_
        refine ExD.val (x := slot p) rfl rfl (opQ_loadM rfl rfl hb3 (load_stk hml)) rfl rfl ?_
        refine ExD.val (x := .agg (treeA 4 nilB 0 (slot q.top))) rfl rfl (opQ_loadM rfl rfl u0 rfl) rfl rfl ?_
        refine ExD.val (x := i (p.1.length / 4 : Nat)) rfl rfl (opQ_lenM rfl rfl rfl rfl rfl Tryd.underlying23 rfl) rfl rfl ?_
        refine ExD.val (x := .sl 4 [i 0, .v (.string nilB), i 0, nilS] .ex) rfl rfl rfl rfl rfl (ExD.nil ?_)
        exact ⟨rfl, late_mk (σ := σ2) (σ2 := σ3) (e := p) (e' := (p.1 ++ treeA 4 nilB 0 (slot q.top), .gr σ2.nextT)) (l := pre'.map slot) (r := slot q.top :: q.ext) (x := slot p) (b := q.b) (eb := q.e) (zs := [i 0, .v (.string nilB), i 0, nilS]) (zap := .ex) (vc := treeA 4 nilB 0 (slot q.top)) (m := p.1.length / 4)
          rfl rfl rfl rfl rfl rfl rfl rfl rfl rfl rfl rfl rfl rfl rfl rfl rfl (a1 .no) (by rw [hml]; exact adr_idx rfl rfl (by omega)) hb4⟩
      · refine Ex.exit ?_
        refine Ex.region ?_
        refine ExO.val (x := i ((q.j + 1 : Nat) : Int)) rfl (val_int rfl (add_oneM (n := q.j) (by omega))) rfl (ExO.val rfl rfl rfl (ExO.nil ?_))
        have hs' : refF s.size (toks.drop (q.j + 1)) (stripL (p.1 ++ treeA 4 nilB 0 (slot q.top)) :: (pre'.map fun x => stripL x.1).reverse) q.n = refF s.size toks [[]] 0 := by
          rw [hpre] at hsp
          simp only [List.map_append, List.map_cons, List.map_nil, List.reverse_append, List.reverse_cons, List.reverse_nil, List.nil_append, List.cons_append] at hsp
          rw [stripL_app]
          exact hsp
        exact ⟨⟨q.j + 1, σ3.put q.b (.cells (pre'.map slot ++ slot (p.1 ++ treeA 4 nilB 0 (slot q.top), .gr σ2.nextT) :: (slot q.top :: q.ext)) q.e), pre', (p.1 ++ treeA 4 nilB 0 (slot q.top), .gr σ2.nextT), slot q.top :: q.ext, q.b, q.cap, q.e, q.n,
            hlt, put_getM _ _ _, by show q.b < σ3.next; omega, .inl hcap, q.hn, by have := q.hl; omega, b1, b2, b3, b4, hs'⟩,
          by show toks.length - (q.j + 1) < toks.length - q.j; omega,
          Fl_le rfl rfl (by show some (A.ms q.b 0 q.pre.length (capX + 1)) = some (A.ms q.b 0 (pre'.length + 1) q.cap); rw [hcap.1, hpl]) rfl rfl rfl rfl, rfl⟩
    rw [if_neg h5] at hsp
    refine ExO.val (x := .v (.bool false)) rfl (val_bool rfl (by simp [h5])) rfl (ExO.val rfl rfl rfl ?_)
    refine ExO.off rfl rfl (ExO.off rfl rfl (ExO.val (x := .v (.bool false)) rfl rfl rfl (ExO.nil ?_)))
    refine Ex.cond (t := false) rfl (Ex.skip ?_)
    refine Ex.seq (Ex.seq (Ex.region ?_))
    refine ExO.val (x := .ptr q.σ.next 1) rfl rfl rfl ?_
    refine ExO.val (x := i t.f_Kind) rfl (op_loadM rfl rfl t0 rfl) rfl ?_
    refine ExO.val (x := .v (.bool false)) rfl (val_bool rfl (by simp [h5])) rfl (ExO.nil ?_)
    refine Ex.cond (t := false) rfl (Ex.skip ?_)
    refine Ex.seq (Ex.region ?_)
    refine ExO.val rfl rfl rfl (ExO.val (x := i ((q.n + 1 : Nat) : Int)) rfl (val_int rfl (add_oneM (n := q.n) (by have := q.hn; omega))) rfl (ExO.val rfl rfl rfl (ExO.nil ?_)))
    refine Ex.seq (Ex.seq (Ex.region ?_))
    refine ExO.val rfl rfl rfl ?_
    have hsl : (stripL q.top.1 :: (q.pre.map fun x => stripL x.1).reverse).length = q.pre.length + 1 := by simp
    rw [hsl] at hsp
    by_cases hn : 65536 < q.n + 1
    · rw [if_pos (Or.inl hn)] at hsp
      refine ExO.val (x := .v (.bool true)) rfl (val_bool rfl (decide_eq_true (by omega))) rfl (ExO.val rfl rfl rfl ?_)
      refine ExO.off rfl rfl (ExO.off rfl rfl (ExO.off rfl rfl (ExO.off rfl rfl (ExO.off rfl rfl (ExO.off rfl rfl (ExO.off rfl rfl (ExO.off rfl rfl ?_)))))))
      refine ExO.val (x := .v (.bool true)) rfl rfl rfl (ExO.nil ?_)
      refine Ex.cond (t := true) rfl (Ex.seq (Ex.drawn (by kernel_rfl) ?_))
      refine ExD.val (x := .ptr q.σ.next 0) rfl rfl rfl rfl rfl ?_
      refine ExD.val (x := i t.f_At) rfl rfl (opQ_loadM rfl rfl t0 rfl) rfl rfl ?_
      refine ExD.val (x := nilS) rfl rfl rfl rfl rfl (ExD.val (x := i t.f_At) rfl rfl rfl rfl rfl (ExD.val (x := i 33) rfl rfl rfl rfl rfl (ExD.nil ?_)))
      refine Ex.ret ?_
      exact ⟨.inr rfl, rfl, [nilS, i t.f_At, i 33], rfl, by rw [← hsp]; exact ⟨rfl, rfl⟩⟩
    refine ExO.val (x := .v (.bool false)) rfl (val_bool rfl (decide_eq_false (by omega))) rfl (ExO.val rfl rfl rfl ?_)
    refine ExO.val (x := .ptr q.σ.next 1) rfl rfl rfl ?_
    refine ExO.val (x := i t.f_Kind) rfl (op_loadM rfl rfl t0 rfl) rfl ?_
    by_cases h4 : t.f_Kind = 4
    · refine ExO.val (x := .v (.bool true)) rfl (val_bool rfl (by simp [h4])) rfl (ExO.val rfl rfl rfl (ExO.val rfl rfl rfl ?_))
      refine ExO.val (x := i ((q.pre.length + 1 : Nat) : Int)) rfl rfl rfl ?_
      by_cases hd : 32 < q.pre.length + 1
      · rw [if_pos (Or.inr ⟨h4, hd⟩)] at hsp
        refine ExO.val (x := .v (.bool true)) rfl (val_bool rfl (decide_eq_true (by omega))) rfl ?_
        refine ExO.val (x := .v (.bool true)) rfl rfl rfl (ExO.val (x := .v (.bool true)) rfl rfl rfl (ExO.nil ?_))
        refine Ex.cond (t := true) rfl (Ex.seq (Ex.drawn (by kernel_rfl) ?_))
        refine ExD.val (x := .ptr q.σ.next 0) rfl rfl rfl rfl rfl ?_
        refine ExD.val (x := i t.f_At) rfl rfl (opQ_loadM rfl rfl t0 rfl) rfl rfl ?_
        refine ExD.val (x := nilS) rfl rfl rfl rfl rfl (ExD.val (x := i t.f_At) rfl rfl rfl rfl rfl (ExD.val (x := i 33) rfl rfl rfl rfl rfl (ExD.nil ?_)))
        refine Ex.ret ?_
        exact ⟨.inr rfl, rfl, [nilS, i t.f_At, i 33], rfl, by rw [← hsp]; exact ⟨rfl, rfl⟩⟩
      rw [if_neg (by omega), if_pos h4] at hsp
      refine ExO.val (x := .v (.bool false)) rfl (val_bool rfl (decide_eq_false (by omega))) rfl ?_
      refine ExO.val (x := .v (.bool false)) rfl rfl rfl (ExO.val (x := .v (.bool false)) rfl rfl rfl (ExO.nil ?_))
      refine Ex.cond (t := false) rfl (Ex.skip ?_)
      refine Ex.seq (Ex.region ?_)
      refine ExO.val (x := .ptr q.σ.next 1) rfl rfl rfl ?_
      refine ExO.val (x := i t.f_Kind) rfl (op_loadM rfl rfl t0 rfl) rfl ?_
      refine ExO.val (x := .v (.bool true)) rfl (val_bool rfl (by simp [h4])) rfl (ExO.nil ?_)
      refine Ex.cond (t := true) rfl (Ex.region ?_)
      obtain ⟨σ3, a1, a2, a3, a4, a5⟩ := app_stk (σ := σ1) hb1 (by have := q.hbn; omega) q.hl q.hcap
      refine ExO.val rfl rfl rfl (ExO.val (x := .sl 4 [] .ex) rfl rfl rfl ?_)
      refine ExO.val (x := .ms σ1.next 0 1 1) (σ' := σ1.push (.cells [.sl 4 [] .ex] 23)) rfl rfl rfl ?_
      refine ExO.val (x := .ms (σ1.next + 1) 0 (q.pre.length + 2) (capX + 1)) (σ' := σ3) rfl ?_ rfl (ExO.val rfl rfl rfl (ExO.nil ?_))
      · show wrapS (appendM cfgM.P 33 (.ms q.b 0 (q.pre.length + 1) q.cap) (.ms σ1.next 0 1 1) (σ1.push (.cells [.sl 4 [] .ex] 23))) = _
        rw [a1]; rfl
      refine Ex.region ?_
      refine ExO.val (x := i ((q.j + 1 : Nat) : Int)) rfl (val_int rfl (add_oneM (n := q.j) (by omega))) rfl (ExO.val rfl rfl rfl (ExO.nil ?_))
      have hs' : refF s.size (toks.drop (q.j + 1)) (stripL [] :: ((q.pre ++ [q.top]).map fun x => stripL x.1).reverse) (q.n + 1) = refF s.size toks [[]] 0 := by
        simp only [List.map_append, List.map_cons, List.map_nil, List.reverse_append, List.reverse_cons, List.reverse_nil, List.nil_append, List.cons_append]
        exact hsp
      have hmem : ∀ x ∈ (q.pre ++ [q.top]) ++ [(([] : List A), Ap.ex)], x ∈ q.pre ++ [q.top] ∨ x = ([], .ex) := fun x hx => by
        rcases List.mem_append.1 hx with h | h
        · exact .inl h
        · exact .inr (List.mem_singleton.1 h)
      exact ⟨⟨q.j + 1, σ3, q.pre ++ [q.top], ([], .ex), [], σ1.next + 1, capX + 1, offX + 23, q.n + 1, hlt, a2, by omega, .inl ⟨rfl, rfl⟩, by omega, by rw [List.length_append]; simp; omega,
          fun x hx => by
            rcases hmem x hx with h | rfl
            · have := q.hsz x h; omega
            · simp,
          fun x hx => by
            rcases hmem x hx with h | rfl
            · rcases q.hr x h with h | ⟨id, h1, h2, h3⟩
              · exact .inl h
              · exact .inr ⟨id, h1, by simp only [St.live, a4, t3]; exact h2, by rw [a5, t4]; exact h3⟩
            · exact .inl ⟨rfl, rfl⟩,
          List.pairwise_append.2 ⟨q.hd, List.pairwise_singleton _ _, fun x _ y hy id _ => by obtain rfl := List.mem_singleton.1 hy; intro e; cases e⟩,
          fun x hx => by
            rcases hmem x hx with h | rfl
            · exact q.hp x h
            · rfl, hs'⟩,
        by show toks.length - (q.j + 1) < toks.length - q.j; omega,
        Fl_le rfl rfl (by show some (A.ms (σ1.next + 1) 0 (q.pre.length + 2) (capX + 1)) = some (A.ms (σ1.next + 1) 0 ((q.pre ++ [q.top]).length + 1) (capX + 1)); simp) rfl rfl rfl rfl, rfl⟩
    rw [if_neg (by omega), if_neg h4] at hsp
    refine ExO.val (x := .v (.bool false)) rfl (val_bool rfl (by simp [h4])) rfl (ExO.val rfl rfl rfl ?_)
    refine ExO.off rfl rfl (ExO.off rfl rfl (ExO.off rfl rfl ?_))
    refine ExO.val (x := .v (.bool false)) rfl rfl rfl (ExO.val (x := .v (.bool false)) rfl rfl rfl (ExO.nil ?_))
    refine Ex.cond (t := false) rfl (Ex.skip ?_)
    refine Ex.seq (Ex.region ?_)
    refine ExO.val (x := .ptr q.σ.next 1) rfl rfl rfl ?_
    refine ExO.val (x := i t.f_Kind) rfl (op_loadM rfl rfl t0 rfl) rfl ?_
    refine ExO.val (x := .v (.bool false)) rfl (val_bool rfl (by simp [h4])) rfl (ExO.nil ?_)
    refine Ex.cond (t := false) rfl ?_
    have htop : q.top ∈ q.pre ++ [q.top] := by simp
    have hR1 : Right σ1 q.top := by
      rcases q.hr q.top htop with h | ⟨id, h1, h2, h3⟩
      · exact .inl h
      · exact .inr ⟨id, h1, by simp only [St.live, t3]; exact h2, by rw [t4]; exact h3⟩
    obtain ⟨σ3, a1, a2, a3, a4, a5, a6⟩ := app_en (σ := σ1) (e := q.top) (vc := treeA t.f_Kind t.f_Word t.f_Num nilS) rfl rfl (by have := q.hsz q.top htop; omega) hR1
    have hb4 : σ3.blks.get q.b = some (.cells (q.pre.map slot ++ slot q.top :: q.ext) q.e) := by rw [a2]; exact hb1
    have hml : (q.pre.map slot).length = q.pre.length := List.length_map _
    obtain ⟨b1, b2, b3, b4⟩ := step_ok (vc := treeA t.f_Kind t.f_Word t.f_Num nilS) (σ := q.σ) (σ2 := σ1) (σ3 := σ3) t3 t4 q.hsz q.hr q.hd q.hp a4 a5 a6 rfl rfl
    refine Ex.late rfl (by kernel_rfl) ?_
    refine ExD.val (x := .ms q.b 0 (q.pre.length + 1) q.cap) rfl rfl rfl rfl rfl (ExD.val (x := i (q.pre.length : Nat)) rfl rfl rfl rfl rfl ?_)
    refine ExD.val (x := .ptr q.b q.pre.length) rfl rfl (opQ_atMs rfl rfl rfl Tryd.underlying33 rfl (by omega)) rfl rfl ?_
    refine ExD.val (x := slot q.top) rfl rfl (opQ_loadM rfl rfl hb1 (load_stk hml)) rfl rfl ?_
    refine ExD.val (x := .ptr q.σ.next 1) rfl rfl rfl rfl rfl (ExD.val (x := i t.f_Kind) rfl rfl (opQ_loadM rfl rfl t0 rfl) rfl rfl ?_)
    refine ExD.val (x := .ptr q.σ.next 4) rfl rfl rfl rfl rfl (ExD.val (x := .v (.string t.f_Word)) rfl rfl (opQ_loadM rfl rfl t0 rfl) rfl rfl ?_)
    refine ExD.val (x := .ptr q.σ.next 2) rfl rfl rfl rfl rfl (ExD.val (x := i t.f_Num) rfl rfl (opQ_loadM rfl rfl t0 rfl) rfl rfl ?_)
    refine ExD.val (x := .agg (treeA t.f_Kind t.f_Word t.f_Num nilS)) rfl rfl rfl rfl rfl ?_
    refine ExD.val (x := i (q.top.1.length / 4 : Nat)) rfl rfl (opQ_lenM rfl rfl rfl rfl rfl Tryd.underlying23 rfl) rfl rfl ?_
    refine ExD.val (x := .sl 4 [i 0, .v (.string nilB), i 0, nilS] .ex) rfl rfl rfl rfl rfl (ExD.nil ?_)
    refine ⟨rfl, _, _, late_mk2 (σ := σ1) (σ2 := σ3) (e := q.top) (e' := (q.top.1 ++ treeA t.f_Kind t.f_Word t.f_Num nilS, .gr σ1.nextT)) (l := q.pre.map slot) (r := q.ext) (x := slot q.top) (b := q.b) (eb := q.e) (zs := [i 0, .v (.string nilB), i 0, nilS]) (zap := .ex) (vc := treeA t.f_Kind t.f_Word t.f_Num nilS) (m := q.top.1.length / 4)
      rfl rfl rfl rfl rfl rfl rfl rfl rfl rfl rfl rfl rfl rfl rfl rfl rfl (a1 .no) (by rw [hml]; exact adr_idx rfl rfl (by omega)) hb4, ?_⟩
    refine Ex.region ?_
    refine ExO.val (x := i ((q.j + 1 : Nat) : Int)) rfl (val_int rfl (add_oneM (n := q.j) (by omega))) rfl (ExO.val rfl rfl rfl (ExO.nil ?_))
    have hs' : refF s.size (toks.drop (q.j + 1)) (stripL (q.top.1 ++ treeA t.f_Kind t.f_Word t.f_Num nilS) :: (q.pre.map fun x => stripL x.1).reverse) (q.n + 1) = refF s.size toks [[]] 0 := by
      rw [stripL_app]
      exact hsp
    exact ⟨⟨q.j + 1, σ3.put q.b (.cells (q.pre.map slot ++ slot (q.top.1 ++ treeA t.f_Kind t.f_Word t.f_Num nilS, .gr σ1.nextT) :: q.ext) q.e), q.pre, (q.top.1 ++ treeA t.f_Kind t.f_Word t.f_Num nilS, .gr σ1.nextT), q.ext, q.b, q.cap, q.e, q.n + 1,
        hlt, put_getM _ _ _, by show q.b < σ3.next; have := q.hbn; omega, q.hcap, by omega, q.hl, b1, b2, b3, b4, hs'⟩,
      by show toks.length - (q.j + 1) < toks.length - q.j; omega,
      Fl_le rfl rfl rfl rfl rfl rfl rfl, rfl⟩
  · have hn' : q.j = toks.length := by have := of_decide_eq_false hlt; have := q.hj; omega
    have hs' := q.hs
    rw [hn', List.drop_length] at hs'
    refine Ex.exit ?_
    refine Ex.seq (Ex.seq (Ex.region ?_))
    refine ExO.val rfl rfl rfl (ExO.val (x := i ((q.pre.length + 1 : Nat) : Int)) rfl rfl rfl ?_)
    rcases List.eq_nil_or_concat q.pre with hpre | ⟨pre', p, hpre⟩
    · rw [hpre] at hs'
      refine ExO.val (x := .v (.bool false)) rfl (val_bool rfl (decide_eq_false (by rw [hpre]; simp))) rfl (ExO.nil ?_)
      refine Ex.cond (t := false) rfl (Ex.skip ?_)
      refine Ex.seq (Ex.region ?_)
      have hb1 : q.σ.blks.get q.b = some (.cells ([] ++ slot q.top :: q.ext) q.e) := by have := q.hb; rw [hpre] at this; exact this
      refine ExO.val rfl rfl rfl (ExO.val (x := .ptr q.b 0) rfl (op_atMs (j := 0) rfl rfl rfl Tryd.underlying33 rfl (by omega)) rfl ?_)
      refine ExO.val (x := slot q.top) rfl (op_loadM rfl rfl hb1 (load_stk rfl)) rfl ?_
      refine ExO.val rfl rfl rfl (ExO.val rfl rfl rfl (ExO.val rfl rfl rfl (ExO.nil ?_)))
      refine Ex.ret ?_
      refine ⟨.inr rfl, rfl, [slot q.top, i 0, i 0], rfl, ?_⟩
      refine ⟨(show strip _ = refR (refF s.size [] [stripL q.top.1] q.n) from rfl).trans (congrArg refR hs'), ?_⟩
      have := q.hp q.top (by simp)
      simp only [oneOrTup, slot, strip, stripL, pureA, pureL, this, noAp]; rfl
    · rw [List.concat_eq_append] at hpre
      rw [hpre] at hs'
      refine ExO.val (x := .v (.bool true)) rfl (val_bool rfl (decide_eq_true (by rw [hpre]; simp; omega))) rfl (ExO.nil ?_)
      refine Ex.cond (t := true) rfl (Ex.seq (Ex.region ?_))
      refine ExO.val rfl rfl rfl ?_
      refine ExO.val (x := i s.size) rfl (op_len rfl rfl rfl rfl rfl Tryd.underlying9) rfl ?_
      refine ExO.val rfl rfl rfl (ExO.val rfl rfl rfl (ExO.val rfl rfl rfl (ExO.nil ?_)))
      refine Ex.ret ?_
      exact ⟨.inr rfl, rfl, [nilS, i s.size, i 31], rfl, by
        simp only [List.map_append, List.map_cons, List.map_nil, List.reverse_append, List.reverse_cons, List.reverse_nil, List.nil_append, List.cons_append] at hs'
        show strip _ = refR _ ∧ _
        rw [← hs']; exact ⟨rfl, rfl⟩⟩
theorem parse_nil {N : Nat} {s : ByteArray} (H : TK.gdovetailref03_Tokens N s = some []) (hs : s.size ≤ 262144) : Ca cfgM 5 [.v (.string s)] σ0 (Post (refF s.size [] [[]] 0)) := by
  obtain ⟨xt, hxt, hcl⟩ := tok_cl H
  refine Ca.enter Tryd.func5 rfl rfl (Nat.le_of_ble_eq_true rfl) ?_
  refine Ex.seq (Ex.region ?_)
  refine ExO.val rfl rfl rfl (ExO.val rfl rfl rfl (ExO.val rfl rfl rfl (ExO.nil ?_)))
  refine Ex.seq (Ex.seq (Ex.region ?_))
  refine ExO.val rfl rfl rfl ?_
  refine ExO.val (x := i s.size) rfl (op_len rfl rfl rfl rfl rfl Tryd.underlying9) rfl ?_
  refine ExO.val (x := .v (.bool false)) rfl (val_bool rfl (decide_eq_false (by omega))) rfl (ExO.nil ?_)
  refine Ex.cond (t := false) rfl (Ex.skip ?_)
  refine Ex.seq (Ex.region ?_)
  refine ExO.val (x := .sl 4 [] .ex) rfl rfl rfl ?_
  refine ExO.val (x := .ms σ0.next 0 1 1) (σ' := σ0.push (.cells [.sl 4 [] .ex] 23)) rfl rfl rfl ?_
  refine ExO.val rfl rfl rfl (ExO.nil ?_)
  refine Ex.seq (Ex.region ?_)
  refine ExO.val rfl rfl rfl (ExO.nil ?_)
  refine Ex.seq (Ex.seq (Ex.region ?_))
  refine ExO.val rfl rfl rfl ?_
  refine ExO.call rfl rfl (hcl _) rfl ?_
  refine ExO.val (x := i (0 : Nat)) (σ' := σ0.push (.cells [.sl 4 [] .ex] 23)) rfl ?_ rfl (ExO.val rfl rfl rfl (ExO.nil ?_))
  · have hx : Sl TK.rTdovetailref03_Token xt [] := by
      rcases hxt with ⟨rfl, _⟩ | rfl
      · exact .inl ⟨rfl, rfl⟩
      · exact .inr ⟨[], .no, rfl, .nil⟩
    exact op_lenL hx rfl rfl rfl rfl rfl Tryd.underlying34
  refine Ex.block ?_
  refine Ex.loop1 ?_
  refine Ex.seq (Ex.region ?_)
  refine ExO.val (x := .v (.bool false)) rfl rfl rfl (ExO.nil ?_)
  refine Ex.seq (Ex.cond (t := false) rfl (Ex.exit ?_))
  refine Ex.seq (Ex.seq (Ex.region ?_))
  refine ExO.val rfl rfl rfl (ExO.val (x := i 1) rfl rfl rfl (ExO.val (x := .v (.bool false)) rfl rfl rfl (ExO.nil ?_)))
  refine Ex.cond (t := false) rfl (Ex.skip ?_)
  refine Ex.seq (Ex.region ?_)
  refine ExO.val rfl rfl rfl (ExO.val (x := .ptr 0 0) rfl rfl rfl ?_)
  refine ExO.val (x := .sl 4 [] .ex) rfl rfl rfl ?_
  refine ExO.val rfl rfl rfl (ExO.val rfl rfl rfl (ExO.val rfl rfl rfl (ExO.nil ?_)))
  refine Ex.ret ?_
  exact ⟨.inr rfl, rfl, [.sl 4 [] .ex, i 0, i 0], rfl, rfl, rfl⟩
end Go.DM.RP
