/- Rules for walks over the D-machine: strings compared by order, maps from strings to integers. No condition. -/
import Derived.Test.YtljjgaakmaifkaaGreatDoorRuleT
import Derived.Test.YtljjgaakmaifkaaGreatDoorSortT
import Derived.Lib.Case
namespace Go.DM
open Go

/-! strings by order -/
def strLt (s t : ByteArray) : Bool := Op.bytesLess s.toList t.toList
def strLe (s t : ByteArray) : Bool := Op.bytesLess s.toList t.toList || s.toList == t.toList

/-! a map, as the list of its entries -/
def mapEs : Nat → List (ByteArray × Int) → List (Value × A × Nat)
  | _, [] => []
  | i, (k, v) :: r => (.string k, .v (.int .i64 v), i) :: mapEs (i + 1) r
def mapB (l : List (ByteArray × Int)) : Blk := .map (mapEs 0 l) l.length
def lookT : List (ByteArray × Int) → ByteArray → Int
  | [], _ => 0
  | (k, v) :: r, s => if s = k then v else lookT r s
def updT : List (ByteArray × Int) → ByteArray → Int → List (ByteArray × Int)
  | [], s, x => [(s, x)]
  | (k, v) :: r, s, x => if s = k then (k, x) :: r else (k, v) :: updT r s x
theorem bytes_beq (a b : ByteArray) : (a == b) = decide (a = b) := by
  obtain ⟨x⟩ := a
  obtain ⟨y⟩ := b
  show (x == y) = _
  by_cases h : x = y
  · subst h; simp
  · rw [decide_eq_false (fun e => h (by injection e))]
    exact beq_eq_false_iff_ne.2 h
theorem same_str (a b : ByteArray) : sameKey .string (.string a) (.string b) = some (decide (a = b)) := by
  show some (a == b) = _
  rw [bytes_beq]
theorem find_es (s : ByteArray) : ∀ (l : List (ByteArray × Int)) (i j : Nat),
    (findA .string (.string s) (mapEs j l) i = some none ∧ lookT l s = 0 ∧ ∀ x, updT l s x = l ++ [(s, x)]) ∨
    (∃ p v, p < l.length ∧ findA .string (.string s) (mapEs j l) i = some (some (i + p, .v (.int .i64 v), j + p)) ∧ lookT l s = v ∧ (mapEs j l)[p]? = some (.string s, .v (.int .i64 v), j + p) ∧ ∀ x, mapEs j (updT l s x) = (mapEs j l).set p (.string s, .v (.int .i64 x), j + p) ∧ (updT l s x).length = l.length)
  | [], i, j => .inl ⟨rfl, rfl, fun _ => rfl⟩
  | (k, v) :: r, i, j => by
    simp only [mapEs, findA, same_str]
    by_cases h : s = k
    · right
      subst h
      refine ⟨0, v, by simp, by simp, by simp [lookT], by simp, fun x => ?_⟩
      simp [updT, mapEs]
    · rw [decide_eq_false h]
      rcases find_es s r (i + 1) (j + 1) with ⟨h1, h2, h3⟩ | ⟨p, w, h0, h1, h2, h3, h4⟩
      · left
        refine ⟨h1, ?_, fun x => ?_⟩
        · rw [lookT, if_neg h]; exact h2
        · rw [updT, if_neg h, h3 x]; rfl
      · right
        refine ⟨p + 1, w, by rw [List.length_cons]; exact Nat.succ_lt_succ h0, ?_, ?_, ?_, fun x => ?_⟩
        · simp only [h1]
          rw [show i + 1 + p = i + (p + 1) by omega, show j + 1 + p = j + (p + 1) by omega]
        · rw [lookT, if_neg h]; exact h2
        · rw [List.getElem?_cons_succ, h3, show j + 1 + p = j + (p + 1) by omega]
        · obtain ⟨g1, g2⟩ := h4 x
          rw [updT, if_neg h]
          refine ⟨?_, by simp [g2]⟩
          rw [mapEs, g1, List.set_cons_succ, show j + 1 + p = j + (p + 1) by omega]
theorem mapEs_app : ∀ (l m : List (ByteArray × Int)) (j : Nat), mapEs j (l ++ m) = mapEs j l ++ mapEs (j + l.length) m
  | [], m, j => rfl
  | (k, v) :: r, m, j => by
    rw [List.cons_append, mapEs, mapEs, mapEs_app r m (j + 1), List.length_cons]
    rw [show j + 1 + r.length = j + (r.length + 1) by omega]; rfl
theorem mapEs_len : ∀ (l : List (ByteArray × Int)) (j : Nat), (mapEs j l).length = l.length
  | [], _ => rfl
  | (k, v) :: r, j => by rw [mapEs, List.length_cons, List.length_cons, mapEs_len r]
section
variable {C : Cfg} {n : Nat} {ops : Array Oper} {l : List Oper} {F : List (Nat × A)} {σ : St} {Q : X → Fr → St → Prop} {o : Oper} {L : List Res} {d : Nat}
theorem op_lookM {ρ : Operand → Option A} {t e : TypeId} {m k : Operand} {b : Nat} {l : List (ByteArray × Int)} {s : ByteArray} (hp : Hp σ L) (i : Nat) (hi : L[i]? = some (.blk b (mapB l))) (hop : o.op = .lookup t m k false) (hm : ρ m = some (.mp b)) (hk : ρ k = some (.v (.string s))) (hd : keyDesc C.P t = some (.string, e)) (hz : zeroA C.P e = some (.v (.int .i64 0))) :
    op C ρ o σ = some (.val (.v (.int .i64 (lookT l s))) σ) := by
  have hg := hp.get hi
  have hf : keyFits .string (.string s) = true := by
    unfold keyFits
    rw [same_str, decide_eq_true rfl]; rfl
  simp only [op, hop, hm, hk, lookupOp, hd]
  rw [if_pos hf, hg]
  simp only [mapB]
  rcases find_es s l 0 0 with ⟨h1, h2, _⟩ | ⟨p, v, _, h1, h2, _, _⟩
  · rw [h1, h2]; simp only [hz]; rfl
  · rw [h1, h2]; rfl
theorem Eo.mkMap {t : TypeId} (hp : Hp σ L) (hop : o.op = .makeMap t none) (hw : wantedL ops F o = some true) (hd : o.dst = some d) (ht : Nat.ble (d + 1) n = true)
    (h : ∀ b σ', Hp σ' (.blk b (mapB []) :: L) → Eo C n ops l ((d, .mp b) :: F) σ' Q) : Eo C n ops (o :: l) F σ Q :=
  Eo.val (x := .mp σ.next) (σ' := σ.push (.map [] 0)) (by simp only [op, hop]) hw hd ht (h _ _ (hp.push _))
theorem Eo.mapU {t e : TypeId} {m k x : Operand} {b : Nat} {q : List (ByteArray × Int)} {s : ByteArray} {v : Int} (hp : Hp σ L) (i : Nat) (hi : L[i]? = some (.blk b (mapB q))) (hop : o.op = .mapUpdate t m k x) (hm : evL C F m = some (.mp b)) (hk : evL C F k = some (.v (.string s))) (hx : evL C F x = some (.v (.int .i64 v))) (hd : keyDesc C.P t = some (.string, e))
    (hw : wantedL ops F o = some true) (hn : o.dst = none) (h : ∀ σ', Hp σ' (L.set i (.blk b (mapB (updT q s v)))) → Eo C n ops l F σ' Q) : Eo C n ops (o :: l) F σ Q := by
  refine Eo.skip (σ' := σ.put b (mapB (updT q s v))) ?_ hw hn (h _ (hp.put hi))
  have hg := hp.get hi
  have hf : keyFits .string (.string s) = true := by
    unfold keyFits
    rw [same_str, decide_eq_true rfl]; rfl
  simp only [op, hop, hm, hk, hx, updateOp, hd]
  rw [if_pos hf, hg]
  simp only [mapB]
  rcases find_es s q 0 0 with ⟨h1, h2, h3⟩ | ⟨p, w, h0, h1, h2, h3, h4⟩
  · rw [h1, h3 v]
    simp only [mapEs_app, List.length_append, List.length_singleton, Nat.zero_add]
    rfl
  · rw [h1]
    obtain ⟨g1, g2⟩ := h4 v
    simp only [setVal, Nat.zero_add] at h3 ⊢
    rw [h3]
    simp only [wrapU]
    rw [g1, g2]
    simp only [Nat.zero_add]
/-! slices.Sorted(maps.Keys(m)) -/
def keysT (l : List (ByteArray × Int)) : Option (List ByteArray) :=
  if (nodupL (l.map (·.1.data.toList)) && l.all fun p => decide (p.1.size ≤ 4000000)) && Nat.ble l.length 4000000 then some ((sortL (l.map (·.1.data.toList))).map fun x => ⟨x.toArray⟩) else none
theorem keysA_es : ∀ (l : List (ByteArray × Int)) (j : Nat), (l.all fun p => decide (p.1.size ≤ 4000000)) = true → keysA (mapEs j l) = some (l.map (·.1.data.toList))
  | [], _, _ => rfl
  | (k, v) :: r, j, h => by
    rw [List.all_cons, Bool.and_eq_true, decide_eq_true_eq] at h
    simp only [mapEs, keysA, keysA_es r (j + 1) h.2]
    rw [if_pos h.1]; rfl
theorem bornsB_es : ∀ (l : List (ByteArray × Int)) (j c : Nat), j + l.length ≤ c → bornsB c j (mapEs j l) = true
  | [], _, _, _ => rfl
  | (k, v) :: r, j, c, h => by
    rw [List.length_cons] at h
    have h1 : Nat.ble j j = true := Nat.ble_eq_true_of_le (Nat.le_refl _)
    have h2 : Nat.blt j c = true := Nat.blt_eq.mpr (by omega)
    simp only [mapEs, bornsB, h1, h2, bornsB_es r (j + 1) c (by omega), Bool.and_self]
theorem cells_strA : ∀ (l : List (List UInt8)), Cells rS (l.map strA) (l.map fun x => (⟨x.toArray⟩ : ByteArray))
  | [] => .nil
  | x :: r => .cons (c := [strA x]) rfl (cells_strA r)
theorem sortedM_ok {f g : FuncId} {b b' : Nat} {T : TypeId} {l : List (ByteArray × Int)} {r : List ByteArray} (hf : C.prim f = some (sortedG g)) (hp : Hp σ L) (i : Nat) (hi : L[i]? = some (.blk b' (.cells [.mp b] T))) (j : Nat) (hj : L[j]? = some (.blk b (mapB l))) (H : keysT l = some r) :
    Ca C f [.fn (.func g) [] [.ptr b' 0]] σ (fun x σ' => ∃ a, x = a ∧ Sl rS a r ∧ Hp σ' L) := by
  unfold keysT at H
  split at H
  · rename_i hc
    cases H
    simp only [Bool.and_eq_true] at hc
    obtain ⟨⟨h1, h2⟩, h3⟩ := hc
    have hg1 := hp.get hi
    have hg2 := hp.get hj
    have hsz : (l.map (·.1.data.toList)).length = l.length := List.length_map _
    have hG : sortedG g [.fn (.func g) [] [.ptr b' 0]] σ = some (rowA (sortL (l.map (·.1.data.toList))), σ) := by
      have hb := bornsB_es l 0 l.length (by omega)
      simp only [sortedG, if_true, St.cells, hg1, hg2, mapB, keysA_es l 0 h2, h1, hsz, h3, hb, Bool.and_self]
    refine Ca.prim hf hG ⟨_, rfl, ?_, hp⟩
    cases hq : sortL (l.map (·.1.data.toList)) with
    | nil => exact Sl.nil
    | cons x q => exact .inr ⟨_, _, rfl, cells_strA (x :: q)⟩
  · cases H
end
/-! a closed check behind blocks that are there already -/
section
variable {C : Cfg} {n : Nat} {ops : Array Oper} {l : List Oper} {j : Nat} {F : List (Nat × A)} {σ : St} {past : List (Nat × St)} {pend : List (Nat × Fr × Oper × A)} {Q : X → Fr → St → Prop} {o : Oper} {L : List Res} {d : Nat}
theorem Eo.boxC {b : Nat} {e : TypeId} {x : Operand} {v : A} {vc : List A} (hb : σ.next = b) (hv : v.cells = vc) (h1 : allOne vc = true) (hx : evL C F x = some v) (hop : o.op = .box e x) (hw : wantedL ops F o = some true) (hd : o.dst = some d) (ht : Nat.ble (d + 1) n = true)
    (h : Eo C n ops l ((d, .ptr b 0) :: F) (σ.push (.cells vc e)) Q) : Eo C n ops (o :: l) F σ Q := by
  subst hb
  exact Eo.val (x := .ptr σ.next 0) (σ' := σ.push (.cells vc e)) (by simp only [op, hop, hx, hv]; rw [if_pos h1]) hw hd ht h
/-- what a closed check leaves of the first k blocks -/
def aliveR (r : Option (Out × St)) (k : Nat) : Option (List (Option Blk) × Bool) := match r with
  | some (.ret (.v (.bool true)), s) => some ((List.range k).map s.blks.get, Nat.ble k s.next)
  | _ => none
theorem aliveR_inv {r : Option (Out × St)} {k : Nat} {y : List (Option Blk) × Bool} (h : aliveR r k = some y) : ∃ s, r = some (.ret (.v (.bool true)), s) ∧ (List.range k).map s.blks.get = y.1 ∧ Nat.ble k s.next = y.2 := by
  unfold aliveR at h
  split at h
  · rename_i s; cases h; exact ⟨s, rfl, rfl, rfl⟩
  · cases h
theorem Ca.alive1 {k f : Nat} {x0 : Blk} (h : aliveR (call C k f [] (σ0.push x0)) 1 = some ([some x0], true)) : Ca C f [] (σ0.push x0) (fun v s => v = .v (.bool true) ∧ Hp s [.blk 0 x0]) := by
  obtain ⟨s, h1, h2, h3⟩ := aliveR_inv h
  refine ⟨_, s, Cl.of h1, rfl, ⟨fun r hr => ?_, by simp [Res.bid], by simp [Res.tid]⟩⟩
  simp only [show List.range 1 = [0] from rfl, List.map_cons, List.map_nil, List.cons.injEq, and_true] at h2
  have := Nat.le_of_ble_eq_true h3
  simp only [List.mem_singleton] at hr
  subst hr
  exact ⟨h2, by omega⟩
theorem Ca.alive2 {k f : Nat} {x0 x1 : Blk} (h : aliveR (call C k f [] ((σ0.push x0).push x1)) 2 = some ([some x0, some x1], true)) : Ca C f [] ((σ0.push x0).push x1) (fun v s => v = .v (.bool true) ∧ Hp s [.blk 1 x1, .blk 0 x0]) := by
  obtain ⟨s, h1, h2, h3⟩ := aliveR_inv h
  refine ⟨_, s, Cl.of h1, rfl, ⟨fun r hr => ?_, by simp [Res.bid], by simp [Res.tid]⟩⟩
  simp only [show List.range 2 = [0, 1] from rfl, List.map_cons, List.map_nil, List.cons.injEq, and_true] at h2
  have := Nat.le_of_ble_eq_true h3
  simp only [List.mem_cons, List.not_mem_nil, or_false] at hr
  rcases hr with rfl | rfl
  · exact ⟨h2.2, by omega⟩
  · exact ⟨h2.1, by omega⟩
theorem Ed.alloc {e : TypeId} {z : List A} (hp : Hp σ L) (hz : zeroOf C.P e = some z) (hop : o.op = .alloc e) (hw : wantedL ops F o = some true) (hd : o.dst = some d) (ht : Nat.ble (d + 1) n = true)
    (hst : ∀ b σ', Hp σ' (.blk b (.cells z e) :: L) → stableF C (Region.before ops) j σ' pend = true)
    (h : ∀ b σ', Hp σ' (.blk b (.cells z e) :: L) → Ed C n ops l (j + 1) ((d, .ptr b 0) :: F) σ' ((j, σ) :: past) pend Q) : Ed C n ops (o :: l) j F σ past pend Q :=
  ExD.loud (σ' := σ.push (.cells z e)) (x := .ptr σ.next 0) (by rw [wanted_toFr]; exact hw) (by simp only [isQuiet, hop]) (.inl (by rw [ev_toFr]; simp only [op, hop, hz])) (hst _ _ (hp.push _)) (by rw [hd]; exact put_toFr (Nat.le_of_ble_eq_true ht)) (h _ _ (hp.push _))
theorem Ed.loudV {x : A} {σ' : St} (ho : op C (evL C F) o σ = some (.val x σ')) (hq : isQuiet o = false) (hw : wantedL ops F o = some true) (hd : o.dst = some d) (ht : Nat.ble (d + 1) n = true)
    (hst : stableF C (Region.before ops) j σ' pend = true)
    (h : Ed C n ops l (j + 1) ((d, x) :: F) σ' ((j, σ) :: past) pend Q) : Ed C n ops (o :: l) j F σ past pend Q :=
  ExD.loud (σ' := σ') (x := x) (by rw [wanted_toFr]; exact hw) hq (.inl (by rw [ev_toFr]; exact ho)) hst (by rw [hd]; exact put_toFr (Nat.le_of_ble_eq_true ht)) h
end
end Go.DM
namespace Go.DM
open Go Go.RowKit
/-- strings.ToLower at bytes below 128 -/
def toLowerT (s : ByteArray) : Option ByteArray := if s.size ≤ 140737488355328 ∧ s.data.toList.all (fun b => Nat.blt b.toNat 128) = true then some ⟨(Lib.toLowerA s.data.toList).toArray⟩ else none
def toLowerG : List A → St → Option (A × St)
  | [.v (.string s)], σ => (toLowerT s).map fun b => (.v (.string b), σ)
  | _, _ => none
/-- the text of the number 2 to the 63rd in hexadecimal digits -/
def numU : ByteArray := ⟨#[56, 48, 48, 48, 48, 48, 48, 48, 48, 48, 48, 48, 48, 48, 48, 48]⟩
/-- strconv.ParseUint at that text -/
def parseUintT (s : ByteArray) (b n : Int) : Option (Int × Bool) := if s = numU ∧ b = 16 ∧ n = 64 then some (9223372036854775808, false) else none
def parseUintG (t : TypeId) : List A → St → Option (A × St)
  | [.v (.string s), .v (.int .i64 b), .v (.int .i64 n)], σ => (parseUintT s b n).map fun r => (.tup [.v (.int .u64 r.1), errA t r.2], σ)
  | _, _ => none
section
variable {C : Cfg} {f : FuncId} {σ : St} {R : List Res}
theorem toLowerT_ok {s : ByteArray} (hf : C.prim f = some toLowerG) (hp : Hp σ R) {r : ByteArray} (H : toLowerT s = some r) : Ca C f [.v (.string s)] σ (fun x σ' => x = .v (.string r) ∧ Hp σ' R) :=
  Ca.prim hf (σ' := σ) (x := .v (.string r)) (by simp [toLowerG, H]) ⟨rfl, hp⟩
theorem parseUintT_ok {t : TypeId} {s : ByteArray} {b n : Int} (hf : C.prim f = some (parseUintG t)) (hp : Hp σ R) {r : Int × Bool} (H : parseUintT s b n = some r) : Ca C f [.v (.string s), .v (.int .i64 b), .v (.int .i64 n)] σ (fun x σ' => x = .tup [.v (.int .u64 r.1), errA t r.2] ∧ Hp σ' R) :=
  Ca.prim hf (σ' := σ) (x := .tup [.v (.int .u64 r.1), errA t r.2]) (by simp [parseUintG, H]) ⟨rfl, hp⟩
end
end Go.DM
