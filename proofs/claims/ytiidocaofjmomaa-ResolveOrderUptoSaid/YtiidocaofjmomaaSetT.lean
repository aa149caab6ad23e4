/- A function by hand that is a run of a machine of its own; the document's reader of trees: its setting, and its fold over tokens. No condition. -/
import Derived.Test.YtiidocaofjmomaaRuleT
import Derived.Test.YtiidocaofjmomaaDmE
import Derived.Test.YtiidocaofjmomaaWalkT
namespace Go.DM
open Go Go.Proofs Go.RowKit
mutual
theorem strip_strip : ∀ a : A, strip (strip a) = strip a
  | .sp cs o _ => by simp only [strip, stripL_stripL cs]
  | .sl sz cs _ => by simp only [strip, stripL_stripL cs]
  | .ifc t x => by simp only [strip, strip_strip x]
  | .agg cs => by simp only [strip, stripL_stripL cs]
  | .tup cs => by simp only [strip, stripL_stripL cs]
  | .fn f a c => by simp only [strip, stripL_stripL a, stripL_stripL c]
  | .v x => rfl
  | .ptr b o => rfl
  | .ms b o len cap => rfl
  | .mp b => rfl
  | .raw id len => rfl
  | .junk => rfl
theorem stripL_stripL : ∀ l : List A, stripL (stripL l) = stripL l
  | [] => rfl
  | a :: r => by simp only [stripL, strip_strip a, stripL_stripL r]
end
open Classical in
/-- what a machine's run of a function gives at data without addresses, without rights -/
noncomputable def runG (D : Cfg) (f : FuncId) (lit : List A) : Option A :=
  if h : ∃ x σ1 N, call D N f lit σ0 = some (.ret x, σ1) ∧ pureL lit = true ∧ pureA (strip x) = true then some (strip h.choose) else none
/-- one more function by hand: a machine's run -/
noncomputable def addR (C D : Cfg) (f : FuncId) : Cfg := { C with prim := fun h => bif Nat.beq h f then some (fun args σ => (runG D f (stripL args)).map fun x => (x, σ)) else C.prim h }
theorem addR_ok {C D : Cfg} {G : World → Prop} (hP : D.P = C.P) (hm : D.P.follows .mixedOrders = true) (hG : ∀ w w', G w → Below w.heap.size w w' → G w') (hp : PrimsOk C G) (hd : PrimsOk D G) (hgp : ∀ g, D.glob g = none) (f : FuncId) : PrimsOk (addR C D f) G := by
  intro w hw f' g' args σ σ' y k us hf hg hI hgl hr
  simp only [addR] at hf
  cases hb : Nat.beq f' f with
  | false =>
    rw [hb] at hf
    exact hp w hw f' g' args σ σ' y k us hf hg hI hgl hr
  | true =>
    rw [hb] at hf
    have e1 := Nat.eq_of_beq_eq_true hb
    subst e1
    cases hf
    have hg : (runG D f' (stripL args)).map (fun x => (x, σ)) = some (y, σ') := hg
    cases hq : runG D f' (stripL args) with
    | none => rw [hq] at hg; cases hg
    | some x =>
      rw [hq] at hg
      cases hg
      unfold runG at hq
      split at hq
      case isFalse => cases hq
      rename_i h
      cases hq
      obtain ⟨σ1, N, h1, h2, h3⟩ := h.choose_spec
      have hglD : GlobOk D k := fun g a h => by rw [hgp g] at h; cases h
      have hdk := hd k.w (hG w k.w hw hI.below)
      have := closed_pt (C := D) (σ := σ) (σ1 := σ1) hI hglD (fun g a h => by rw [hgp g] at h; cases h) (fun k us hI hg hr => call_good (drOk hm) hdk N _ _ _ _ _ k us h1 hI hg hr) h2 h3 hr
      rw [hP] at this
      exact this
theorem runG_eq {D : Cfg} {f : FuncId} {lit : List A} {x : A} {σ1 : St} (h : Cl D f lit σ0 (.ret x) σ1) (hl : pureL lit = true) (hx : pureA (strip x) = true) : runG D f lit = some (strip x) := by
  obtain ⟨M, hM⟩ := h
  have hex : ∃ x σ1 N, call D N f lit σ0 = some (.ret x, σ1) ∧ pureL lit = true ∧ pureA (strip x) = true := ⟨x, σ1, M, hM M (Nat.le_refl _), hl, hx⟩
  unfold runG
  rw [dif_pos hex]
  obtain ⟨σ2, N, h1, _, _⟩ := hex.choose_spec
  have e := call_mono (Nat.le_max_right M N) h1
  rw [hM (max M N) (Nat.le_max_left _ _)] at e
  injection e with e
  injection e with e1 e2
  injection e1 with e1
  rw [← e1]
theorem addR_cl {C D : Cfg} {f : FuncId} {args : List A} {x : A} {σ1 : St} (σ : St) (h : Cl D f (stripL args) σ0 (.ret x) σ1) (hl : pureL (stripL args) = true) (hx : pureA (strip x) = true) : Cl (addR C D f) f args σ (.ret (strip x)) σ := by
  refine Cl.of (k := 1) ?_
  have : (addR C D f).prim f = some (fun args σ => (runG D f (stripL args)).map fun x => (x, σ)) := by
    show (bif Nat.beq f f then _ else _) = _
    rw [Nat.beq_refl]; rfl
  simp only [call, this, runG_eq h hl hx, Option.map_some]
end Go.DM
namespace Go.DM
open Go Go.Proofs Go.RowKit
set_option maxRecDepth 100000
theorem stripL_cat : ∀ a b : List A, stripL (a ++ b) = stripL a ++ stripL b
  | [], _ => rfl
  | x :: r, b => by simp only [List.cons_append, stripL, stripL_cat r b]
theorem pureL_cat : ∀ a b : List A, pureL (a ++ b) = (pureL a && pureL b)
  | [], _ => by simp [pureL]
  | x :: r, b => by simp only [List.cons_append, pureL, pureL_cat r b, Bool.and_assoc]
/-- data without addresses -/
structure Plain {α : Type} (r : RepT α) : Prop where
  st : ∀ x c, r.rep x c → r.rep x (stripL c) ∧ pureL (stripL c) = true
theorem Plain.cells {α : Type} {r : RepT α} (h : Plain r) : ∀ {cs : List A} {l : List α}, Cells r cs l → Cells r (stripL cs) l ∧ pureL (stripL cs) = true
  | _, _, .nil => ⟨.nil, rfl⟩
  | _, _, .cons hx g => by
    obtain ⟨h1, h2⟩ := h.st _ _ hx
    obtain ⟨h3, h4⟩ := h.cells g
    rw [stripL_cat, pureL_cat, h2, h4]
    exact ⟨.cons h1 h3, rfl⟩
theorem Plain.sl {α : Type} {r : RepT α} (h : Plain r) {a : A} {l : List α} (g : Sl r a l) : Sl r (strip a) l ∧ pureA (strip a) = true := by
  rcases g with ⟨rfl, rfl⟩ | ⟨cs, ap, rfl, g⟩
  · exact ⟨.inl ⟨rfl, rfl⟩, rfl⟩
  · obtain ⟨h1, h2⟩ := h.cells g
    refine ⟨.inr ⟨stripL cs, .no, rfl, h1⟩, ?_⟩
    simp only [strip, pureA, noAp, h2]; rfl
theorem plain_rI (k : IntKind) : Plain (rI k) := ⟨by rintro x c rfl; exact ⟨rfl, rfl⟩⟩
theorem plain_sym : Plain rTSym := ⟨by rintro x c rfl; exact ⟨rfl, rfl⟩⟩
theorem plain_rel : Plain rTReloc := ⟨by rintro x c rfl; exact ⟨rfl, rfl⟩⟩
theorem plain_sec : Plain rTSec := ⟨by
  rintro x c ⟨a0, rfl, h⟩
  obtain ⟨h1, h2⟩ := (plain_rI .u8).sl h
  refine ⟨⟨strip a0, rfl, h1⟩, ?_⟩
  simp only [stripL, strip, pureL, pureA, h2]; rfl⟩
theorem plain_obj : Plain rTObj := ⟨by
  rintro x c ⟨a0, a1, a2, rfl, h0, h1, h2⟩
  obtain ⟨g0, p0⟩ := plain_sec.sl h0
  obtain ⟨g1, p1⟩ := plain_sym.sl h1
  obtain ⟨g2, p2⟩ := plain_rel.sl h2
  refine ⟨⟨strip a0, strip a1, strip a2, rfl, g0, g1, g2⟩, ?_⟩
  simp only [stripL, strip, pureL, pureA, p0, p1, p2]; rfl⟩
/-- the machine of the walk by hand -/
noncomputable def cfgW : Cfg := addR (addR (addR (addR (addR (addR (addR cfg cfg 9) cfg 5) cfg 8) cfg 6) cfg 10) cfg 16) cfg 4
theorem cl_prim {C : Cfg} {D : Cfg} {f : FuncId} {args : List A} {x : A} {σ1 : St} (hp : C.prim f = some (fun args σ => (runG D f (stripL args)).map fun x => (x, σ))) (h : Cl D f (stripL args) σ0 (.ret x) σ1) (hl : pureL (stripL args) = true) (hx : pureA (strip x) = true) (σ : St) : Cl C f args σ (.ret (strip x)) σ := by
  refine Cl.of (k := 1) ?_
  simp only [call, hp, runG_eq h hl hx, Option.map_some]
theorem cl_alive (σ : St) : Cl cfgW 4 [] σ (.ret (.v (.bool true))) σ := by
  have h0 : DM.isTrue (DM.call cfg 1000 4 [] DM.σ0) = true := by kernel_rfl
  unfold DM.isTrue at h0
  split at h0
  · rename_i s hs
    exact cl_prim (C := cfgW) (D := cfg) (f := 4) (args := []) rfl (Cl.of hs) rfl rfl σ
  · cases h0
theorem cl_small {N : Nat} {a : A} {l : List TObj} {r : Bool} (ha : Sl rTObj a l) (H : gdovetaillaw20_small N l = some r) (σ : St) : Cl cfgW 5 [a] σ (.ret (.v (.bool r))) σ := by
  obtain ⟨h1, h2⟩ := plain_obj.sl ha
  obtain ⟨x, s, hc, rfl, _⟩ := gdovetaillaw20_small_ok (R := []) h1 (Hp.nil σ0) H
  exact cl_prim (C := cfgW) (D := cfg) (f := 5) (args := [a]) rfl hc (by simp only [stripL, pureL, h2]; rfl) rfl σ
theorem cl_link {N : Nat} {o : TObj} {c : List A} {r : Bool} (ha : rTObj.rep o c) (H : gresolve_linkable N o = some r) (σ : St) : Cl cfgW 9 [.agg c] σ (.ret (.v (.bool r))) σ := by
  obtain ⟨⟨a0, a1, a2, h1, g0, g1, g2⟩, h2⟩ := plain_obj.st _ _ ha
  obtain ⟨x, s, hc, rfl, _⟩ := gresolve_linkable_ok (R := []) g0 g1 g2 (Hp.nil σ0) H
  exact cl_prim (C := cfgW) (D := cfg) (f := 9) (args := [.agg c]) rfl (by rw [show stripL [A.agg c] = [A.agg (stripL c)] from rfl, h1]; exact hc) (by simp only [stripL, strip, pureL, pureA, h2]; rfl) rfl σ
theorem cl_copy {N : Nat} {o o' : TObj} {c : List A} (ha : rTObj.rep o c) (H : gdovetailref17_Copy N o = some o') (σ : St) : ∃ c', rTObj.rep o' c' ∧ Cl cfgW 6 [.agg c] σ (.ret (.agg c')) σ := by
  obtain ⟨⟨a0, a1, a2, h1, g0, g1, g2⟩, h2⟩ := plain_obj.st _ _ ha
  obtain ⟨x, s, hc, b0, b1, b2, rfl, k0, k1, k2, _⟩ := gdovetailref17_Copy_ok (R := []) g0 g1 g2 (Hp.nil σ0) H
  obtain ⟨m1, m2⟩ := plain_obj.st o' [vI o'.f_Machine, b0, b1, b2] ⟨b0, b1, b2, rfl, k0, k1, k2⟩
  exact ⟨_, m1, cl_prim (C := cfgW) (D := cfg) (f := 6) (args := [.agg c]) (x := .agg [vI o'.f_Machine, b0, b1, b2]) rfl (by rw [show stripL [A.agg c] = [A.agg (stripL c)] from rfl, h1]; exact hc) (by simp only [stripL, strip, pureL, pureA, h2]; rfl) (by simp only [strip, pureA, m2]) σ⟩
theorem cl_copies {N : Nat} {a : A} {l l' : List TObj} (ha : Sl rTObj a l) (H : gdovetailref20_Copy N l = some l') (σ : St) : ∃ a', Sl rTObj a' l' ∧ Cl cfgW 8 [a] σ (.ret a') σ := by
  obtain ⟨h1, h2⟩ := plain_obj.sl ha
  obtain ⟨x, s, hc, b0, rfl, k0, _⟩ := gdovetailref20_Copy_ok (R := []) h1 (Hp.nil σ0) H
  obtain ⟨m1, m2⟩ := plain_obj.sl k0
  exact ⟨_, m1, cl_prim (C := cfgW) (D := cfg) (f := 8) (args := [a]) rfl hc (by simp only [stripL, pureL, h2]; rfl) m2 σ⟩
def symC (s : TSym) : List A := [vS s.f_Name, vI s.f_Bind, vI s.f_Type, vI s.f_Sec, vI s.f_Value, vI s.f_Size]
def defC (d : TDef) : List A := [vS d.f_Name, vI d.f_Obj, vI d.f_Sec, vI d.f_Value, vI d.f_Size, vI d.f_Type]
def defV (k : Int) (s : TSym) : TDef := ⟨s.f_Name, cond (decide (s.f_Sec < 0)) (-1) k, s.f_Sec, s.f_Value, s.f_Size, s.f_Type⟩
def isDef (s : TSym) : Bool := decide (s.f_Sec ≥ 0) || (s.f_Sec == -2)
theorem cl_def (k : Int) (s : TSym) (σ : St) : Cl cfgW 10 [vI k, .agg (symC s)] σ (.ret (.agg (defC (defV k s)))) σ := by
  have H : gresolve_def 0 k s = some (defV k s) := by
    unfold gresolve_def defV
    cases decide (s.f_Sec < 0) <;> rfl
  obtain ⟨x, s', hc, rfl, _⟩ := gresolve_def_ok (R := []) (Hp.nil σ0) H
  exact cl_prim (C := cfgW) (D := cfg) (f := 10) (args := [vI k, .agg (symC s)]) rfl hc rfl rfl σ
theorem cl_isDef (s : TSym) (σ : St) : Cl cfgW 16 [.agg (symC s)] σ (.ret (vB (isDef s))) σ := by
  have H : gresolve_defined 0 s = some (isDef s) := rfl
  obtain ⟨x, s', hc, rfl, _⟩ := gresolve_defined_ok (R := []) (Hp.nil σ0) H
  exact cl_prim (C := cfgW) (D := cfg) (f := 16) (args := [.agg (symC s)]) rfl hc rfl rfl σ
end Go.DM
