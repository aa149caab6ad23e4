/- Rules for walks over the D-machine: strings compared by order, maps from strings to integers. No condition. -/
import Derived.Test.YtiidocaofjmomaaRuleT
import Derived.Test.YtiidocaofjmomaaSortT
import Derived.Lib.Case
import Derived.Lib.IndexMore
import Derived.Lib.Fields
namespace Go.DM
open Go

/-! strings by order -/
def strLt (s t : ByteArray) : Bool := Op.bytesLess s.toList t.toList
def strLe (s t : ByteArray) : Bool := Op.bytesLess s.toList t.toList || s.toList == t.toList

/-! a map, as the list of its entries -/
def mapEs : Nat → List (ByteArray × Int) → List (Value × A × Nat)
  | _, [] => []
  | i, (k, v) :: r => (.string k, .v (.int .i64 v), i) :: mapEs (i + 1) r
def mapB (l : List (ByteArray × Int)) : Blk := .map (mapEs 0 l) l.length
def lookT : List (ByteArray × Int) → ByteArray → Int
  | [], _ => 0
  | (k, v) :: r, s => if s = k then v else lookT r s
def updT : List (ByteArray × Int) → ByteArray → Int → List (ByteArray × Int)
  | [], s, x => [(s, x)]
  | (k, v) :: r, s, x => if s = k then (k, x) :: r else (k, v) :: updT r s x
theorem bytes_beq (a b : ByteArray) : (a == b) = decide (a = b) := by
  obtain ⟨x⟩ := a
  obtain ⟨y⟩ := b
  show (x == y) = _
  by_cases h : x = y
  · subst h; simp
  · rw [decide_eq_false (fun e => h (by injection e))]
    exact beq_eq_false_iff_ne.2 h
theorem same_str (a b : ByteArray) : sameKey .string (.string a) (.string b) = some (decide (a = b)) := by
  show some (a == b) = _
  rw [bytes_beq]
theorem find_es (s : ByteArray) : ∀ (l : List (ByteArray × Int)) (i j : Nat),
    (findA .string (.string s) (mapEs j l) i = some none ∧ lookT l s = 0 ∧ ∀ x, updT l s x = l ++ [(s, x)]) ∨
    (∃ p v, p < l.length ∧ findA .string (.string s) (mapEs j l) i = some (some (i + p, .v (.int .i64 v), j + p)) ∧ lookT l s = v ∧ (mapEs j l)[p]? = some (.string s, .v (.int .i64 v), j + p) ∧ ∀ x, mapEs j (updT l s x) = (mapEs j l).set p (.string s, .v (.int .i64 x), j + p) ∧ (updT l s x).length = l.length)
  | [], i, j => .inl ⟨rfl, rfl, fun _ => rfl⟩
  | (k, v) :: r, i, j => by
    simp only [mapEs, findA, same_str]
    by_cases h : s = k
    · right
      subst h
      refine ⟨0, v, by simp, by simp, by simp [lookT], by simp, fun x => ?_⟩
      simp [updT, mapEs]
    · rw [decide_eq_false h]
      rcases find_es s r (i + 1) (j + 1) with ⟨h1, h2, h3⟩ | ⟨p, w, h0, h1, h2, h3, h4⟩
      · left
        refine ⟨h1, ?_, fun x => ?_⟩
        · rw [lookT, if_neg h]; exact h2
        · rw [updT, if_neg h, h3 x]; rfl
      · right
        refine ⟨p + 1, w, by rw [List.length_cons]; exact Nat.succ_lt_succ h0, ?_, ?_, ?_, fun x => ?_⟩
        · simp only [h1]
          rw [show i + 1 + p = i + (p + 1) by omega, show j + 1 + p = j + (p + 1) by omega]
        · rw [lookT, if_neg h]; exact h2
        · rw [List.getElem?_cons_succ, h3, show j + 1 + p = j + (p + 1) by omega]
        · obtain ⟨g1, g2⟩ := h4 x
          rw [updT, if_neg h]
          refine ⟨?_, by simp [g2]⟩
          rw [mapEs, g1, List.set_cons_succ, show j + 1 + p = j + (p + 1) by omega]
theorem mapEs_app : ∀ (l m : List (ByteArray × Int)) (j : Nat), mapEs j (l ++ m) = mapEs j l ++ mapEs (j + l.length) m
  | [], m, j => rfl
  | (k, v) :: r, m, j => by
    rw [List.cons_append, mapEs, mapEs, mapEs_app r m (j + 1), List.length_cons]
    rw [show j + 1 + r.length = j + (r.length + 1) by omega]; rfl
theorem mapEs_len : ∀ (l : List (ByteArray × Int)) (j : Nat), (mapEs j l).length = l.length
  | [], _ => rfl
  | (k, v) :: r, j => by rw [mapEs, List.length_cons, List.length_cons, mapEs_len r]
section
variable {C : Cfg} {n : Nat} {ops : Array Oper} {l : List Oper} {F : List (Nat × A)} {σ : St} {Q : X → Fr → St → Prop} {o : Oper} {L : List Res} {d : Nat}
theorem op_lookM {ρ : Operand → Option A} {t e : TypeId} {m k : Operand} {b : Nat} {l : List (ByteArray × Int)} {s : ByteArray} (hp : Hp σ L) (i : Nat) (hi : L[i]? = some (.blk b (mapB l))) (hop : o.op = .lookup t m k false) (hm : ρ m = some (.mp b)) (hk : ρ k = some (.v (.string s))) (hd : keyDesc C.P t = some (.string, e)) (hz : zeroA C.P e = some (.v (.int .i64 0))) :
    op C ρ o σ = some (.val (.v (.int .i64 (lookT l s))) σ) := by
  have hg := hp.get hi
  have hf : keyFits .string (.string s) = true := by
    unfold keyFits
    rw [same_str, decide_eq_true rfl]; rfl
  simp only [op, hop, hm, hk, lookupOp, hd]
  rw [if_pos hf, hg]
  simp only [mapB]
  rcases find_es s l 0 0 with ⟨h1, h2, _⟩ | ⟨p, v, _, h1, h2, _, _⟩
  · rw [h1, h2]; simp only [hz]; rfl
  · rw [h1, h2]; rfl
theorem Eo.mkMap {t : TypeId} (hp : Hp σ L) (hop : o.op = .makeMap t none) (hw : wantedL ops F o = some true) (hd : o.dst = some d) (ht : Nat.ble (d + 1) n = true)
    (h : ∀ b σ', Hp σ' (.blk b (mapB []) :: L) → Eo C n ops l ((d, .mp b) :: F) σ' Q) : Eo C n ops (o :: l) F σ Q :=
  Eo.val (x := .mp σ.next) (σ' := σ.push (.map [] 0)) (by simp only [op, hop]) hw hd ht (h _ _ (hp.push _))
theorem Eo.mapU {t e : TypeId} {m k x : Operand} {b : Nat} {q : List (ByteArray × Int)} {s : ByteArray} {v : Int} (hp : Hp σ L) (i : Nat) (hi : L[i]? = some (.blk b (mapB q))) (hop : o.op = .mapUpdate t m k x) (hm : evL C F m = some (.mp b)) (hk : evL C F k = some (.v (.string s))) (hx : evL C F x = some (.v (.int .i64 v))) (hd : keyDesc C.P t = some (.string, e))
    (hw : wantedL ops F o = some true) (hn : o.dst = none) (h : ∀ σ', Hp σ' (L.set i (.blk b (mapB (updT q s v)))) → Eo C n ops l F σ' Q) : Eo C n ops (o :: l) F σ Q := by
  refine Eo.skip (σ' := σ.put b (mapB (updT q s v))) ?_ hw hn (h _ (hp.put hi))
  have hg := hp.get hi
  have hf : keyFits .string (.string s) = true := by
    unfold keyFits
    rw [same_str, decide_eq_true rfl]; rfl
  simp only [op, hop, hm, hk, hx, updateOp, hd]
  rw [if_pos hf, hg]
  simp only [mapB]
  rcases find_es s q 0 0 with ⟨h1, h2, h3⟩ | ⟨p, w, h0, h1, h2, h3, h4⟩
  · rw [h1, h3 v]
    simp only [mapEs_app, List.length_append, List.length_singleton, Nat.zero_add]
    rfl
  · rw [h1]
    obtain ⟨g1, g2⟩ := h4 v
    simp only [setVal, Nat.zero_add] at h3 ⊢
    rw [h3]
    simp only [wrapU]
    rw [g1, g2]
    simp only [Nat.zero_add]
/-! slices.Sorted(maps.Keys(m)) -/
def keysT (l : List (ByteArray × Int)) : Option (List ByteArray) :=
  if (nodupL (l.map (·.1.data.toList)) && l.all fun p => decide (p.1.size ≤ 4000000)) && Nat.ble l.length 4000000 then some ((sortL (l.map (·.1.data.toList))).map fun x => ⟨x.toArray⟩) else none
theorem keysA_es : ∀ (l : List (ByteArray × Int)) (j : Nat), (l.all fun p => decide (p.1.size ≤ 4000000)) = true → keysA (mapEs j l) = some (l.map (·.1.data.toList))
  | [], _, _ => rfl
  | (k, v) :: r, j, h => by
    rw [List.all_cons, Bool.and_eq_true, decide_eq_true_eq] at h
    simp only [mapEs, keysA, keysA_es r (j + 1) h.2]
    rw [if_pos h.1]; rfl
theorem bornsB_es : ∀ (l : List (ByteArray × Int)) (j c : Nat), j + l.length ≤ c → bornsB c j (mapEs j l) = true
  | [], _, _, _ => rfl
  | (k, v) :: r, j, c, h => by
    rw [List.length_cons] at h
    have h1 : Nat.ble j j = true := Nat.ble_eq_true_of_le (Nat.le_refl _)
    have h2 : Nat.blt j c = true := Nat.blt_eq.mpr (by omega)
    simp only [mapEs, bornsB, h1, h2, bornsB_es r (j + 1) c (by omega), Bool.and_self]
theorem cells_strA : ∀ (l : List (List UInt8)), Cells rS (l.map strA) (l.map fun x => (⟨x.toArray⟩ : ByteArray))
  | [] => .nil
  | x :: r => .cons (c := [strA x]) rfl (cells_strA r)
theorem sortedM_ok {f g : FuncId} {b b' : Nat} {T : TypeId} {l : List (ByteArray × Int)} {r : List ByteArray} (hf : C.prim f = some (sortedG g)) (hp : Hp σ L) (i : Nat) (hi : L[i]? = some (.blk b' (.cells [.mp b] T))) (j : Nat) (hj : L[j]? = some (.blk b (mapB l))) (H : keysT l = some r) :
    Ca C f [.fn (.func g) [] [.ptr b' 0]] σ (fun x σ' => ∃ a, x = a ∧ Sl rS a r ∧ Hp σ' L) := by
  unfold keysT at H
  split at H
  · rename_i hc
    cases H
    simp only [Bool.and_eq_true] at hc
    obtain ⟨⟨h1, h2⟩, h3⟩ := hc
    have hg1 := hp.get hi
    have hg2 := hp.get hj
    have hsz : (l.map (·.1.data.toList)).length = l.length := List.length_map _
    have hG : sortedG g [.fn (.func g) [] [.ptr b' 0]] σ = some (rowA (sortL (l.map (·.1.data.toList))), σ) := by
      have hb := bornsB_es l 0 l.length (by omega)
      simp only [sortedG, if_true, St.cells, hg1, hg2, mapB, keysA_es l 0 h2, h1, hsz, h3, hb, Bool.and_self]
    refine Ca.prim hf hG ⟨_, rfl, ?_, hp⟩
    cases hq : sortL (l.map (·.1.data.toList)) with
    | nil => exact Sl.nil
    | cons x q => exact .inr ⟨_, _, rfl, cells_strA (x :: q)⟩
  · cases H
end
/-! a closed check behind blocks that are there already -/
section
variable {C : Cfg} {n : Nat} {ops : Array Oper} {l : List Oper} {j : Nat} {F : List (Nat × A)} {σ : St} {past : List (Nat × St)} {pend : List (Nat × Fr × Oper × A)} {Q : X → Fr → St → Prop} {o : Oper} {L : List Res} {d : Nat}
theorem Eo.boxC {b : Nat} {e : TypeId} {x : Operand} {v : A} {vc : List A} (hb : σ.next = b) (hv : v.cells = vc) (h1 : allOne vc = true) (hx : evL C F x = some v) (hop : o.op = .box e x) (hw : wantedL ops F o = some true) (hd : o.dst = some d) (ht : Nat.ble (d + 1) n = true)
    (h : Eo C n ops l ((d, .ptr b 0) :: F) (σ.push (.cells vc e)) Q) : Eo C n ops (o :: l) F σ Q := by
  subst hb
  exact Eo.val (x := .ptr σ.next 0) (σ' := σ.push (.cells vc e)) (by simp only [op, hop, hx, hv]; rw [if_pos h1]) hw hd ht h
/-- what a closed check leaves of the first k blocks -/
def aliveR (r : Option (Out × St)) (k : Nat) : Option (List (Option Blk) × Bool) := match r with
  | some (.ret (.v (.bool true)), s) => some ((List.range k).map s.blks.get, Nat.ble k s.next)
  | _ => none
theorem aliveR_inv {r : Option (Out × St)} {k : Nat} {y : List (Option Blk) × Bool} (h : aliveR r k = some y) : ∃ s, r = some (.ret (.v (.bool true)), s) ∧ (List.range k).map s.blks.get = y.1 ∧ Nat.ble k s.next = y.2 := by
  unfold aliveR at h
  split at h
  · rename_i s; cases h; exact ⟨s, rfl, rfl, rfl⟩
  · cases h
theorem Ca.alive1 {k f : Nat} {x0 : Blk} (h : aliveR (call C k f [] (σ0.push x0)) 1 = some ([some x0], true)) : Ca C f [] (σ0.push x0) (fun v s => v = .v (.bool true) ∧ Hp s [.blk 0 x0]) := by
  obtain ⟨s, h1, h2, h3⟩ := aliveR_inv h
  refine ⟨_, s, Cl.of h1, rfl, ⟨fun r hr => ?_, by simp [Res.bid], by simp [Res.tid]⟩⟩
  simp only [show List.range 1 = [0] from rfl, List.map_cons, List.map_nil, List.cons.injEq, and_true] at h2
  have := Nat.le_of_ble_eq_true h3
  simp only [List.mem_singleton] at hr
  subst hr
  exact ⟨h2, by omega⟩
theorem Ca.alive2 {k f : Nat} {x0 x1 : Blk} (h : aliveR (call C k f [] ((σ0.push x0).push x1)) 2 = some ([some x0, some x1], true)) : Ca C f [] ((σ0.push x0).push x1) (fun v s => v = .v (.bool true) ∧ Hp s [.blk 1 x1, .blk 0 x0]) := by
  obtain ⟨s, h1, h2, h3⟩ := aliveR_inv h
  refine ⟨_, s, Cl.of h1, rfl, ⟨fun r hr => ?_, by simp [Res.bid], by simp [Res.tid]⟩⟩
  simp only [show List.range 2 = [0, 1] from rfl, List.map_cons, List.map_nil, List.cons.injEq, and_true] at h2
  have := Nat.le_of_ble_eq_true h3
  simp only [List.mem_cons, List.not_mem_nil, or_false] at hr
  rcases hr with rfl | rfl
  · exact ⟨h2.2, by omega⟩
  · exact ⟨h2.1, by omega⟩
theorem Ed.alloc {e : TypeId} {z : List A} (hp : Hp σ L) (hz : zeroOf C.P e = some z) (hop : o.op = .alloc e) (hw : wantedL ops F o = some true) (hd : o.dst = some d) (ht : Nat.ble (d + 1) n = true)
    (hst : ∀ b σ', Hp σ' (.blk b (.cells z e) :: L) → stableF C (Region.before ops) j σ' pend = true)
    (h : ∀ b σ', Hp σ' (.blk b (.cells z e) :: L) → Ed C n ops l (j + 1) ((d, .ptr b 0) :: F) σ' ((j, σ) :: past) pend Q) : Ed C n ops (o :: l) j F σ past pend Q :=
  ExD.loud (σ' := σ.push (.cells z e)) (x := .ptr σ.next 0) (by rw [wanted_toFr]; exact hw) (by simp only [isQuiet, hop]) (.inl (by rw [ev_toFr]; simp only [op, hop, hz])) (hst _ _ (hp.push _)) (by rw [hd]; exact put_toFr (Nat.le_of_ble_eq_true ht)) (h _ _ (hp.push _))
theorem Ed.loudV {x : A} {σ' : St} (ho : op C (evL C F) o σ = some (.val x σ')) (hq : isQuiet C o = false) (hw : wantedL ops F o = some true) (hd : o.dst = some d) (ht : Nat.ble (d + 1) n = true)
    (hst : stableF C (Region.before ops) j σ' pend = true)
    (h : Ed C n ops l (j + 1) ((d, x) :: F) σ' ((j, σ) :: past) pend Q) : Ed C n ops (o :: l) j F σ past pend Q :=
  ExD.loud (σ' := σ') (x := x) (by rw [wanted_toFr]; exact hw) hq (.inl (by rw [ev_toFr]; exact ho)) hst (by rw [hd]; exact put_toFr (Nat.le_of_ble_eq_true ht)) h
end
end Go.DM
namespace Go.DM
open Go Go.RowKit
/-- strings.ToLower at bytes below 128 -/
def toLowerT (s : ByteArray) : Option ByteArray := if s.size ≤ 140737488355328 ∧ s.data.toList.all (fun b => Nat.blt b.toNat 128) = true then some ⟨(Lib.toLowerA s.data.toList).toArray⟩ else none
def toLowerG : List A → St → Option (A × St)
  | [.v (.string s)], σ => (toLowerT s).map fun b => (.v (.string b), σ)
  | _, _ => none
/-- the text of the number 2 to the 63rd in hexadecimal digits -/
def numU : ByteArray := ⟨#[56, 48, 48, 48, 48, 48, 48, 48, 48, 48, 48, 48, 48, 48, 48, 48]⟩
/-- strconv.ParseUint at that text -/
def parseUintT (s : ByteArray) (b n : Int) : Option (Int × Bool) := if s = numU ∧ b = 16 ∧ n = 64 then some (9223372036854775808, false) else none
def parseUintG (t : TypeId) : List A → St → Option (A × St)
  | [.v (.string s), .v (.int .i64 b), .v (.int .i64 n)], σ => (parseUintT s b n).map fun r => (.tup [.v (.int .u64 r.1), errA t r.2], σ)
  | _, _ => none
section
variable {C : Cfg} {f : FuncId} {σ : St} {R : List Res}
theorem toLowerT_ok {s : ByteArray} (hf : C.prim f = some toLowerG) (hp : Hp σ R) {r : ByteArray} (H : toLowerT s = some r) : Ca C f [.v (.string s)] σ (fun x σ' => x = .v (.string r) ∧ Hp σ' R) :=
  Ca.prim hf (σ' := σ) (x := .v (.string r)) (by simp [toLowerG, H]) ⟨rfl, hp⟩
theorem parseUintT_ok {t : TypeId} {s : ByteArray} {b n : Int} (hf : C.prim f = some (parseUintG t)) (hp : Hp σ R) {r : Int × Bool} (H : parseUintT s b n = some r) : Ca C f [.v (.string s), .v (.int .i64 b), .v (.int .i64 n)] σ (fun x σ' => x = .tup [.v (.int .u64 r.1), errA t r.2] ∧ Hp σ' R) :=
  Ca.prim hf (σ' := σ) (x := .tup [.v (.int .u64 r.1), errA t r.2]) (by simp [parseUintG, H]) ⟨rfl, hp⟩
end
end Go.DM
namespace Go.DM
open Go Go.RowKit

/-- what a function that may have recovered gives: its results with its blocks - its results alone -/
inductive RL (α β : Type) where
  | val (a : α)
  | lost (b : β)

section
variable {C : Cfg} {n : Nat} {ops : Array Oper} {l : List Oper} {F : List (Nat × A)} {σ : St} {Q : X → Fr → St → Prop} {o : Oper} {L : List Res} {d : Nat} {j : Nat} {past : List (Nat × St)} {pend : List (Nat × Fr × Oper × A)}
theorem op_appendG [hM : NoMut C] {α : Type} {r : RepT α} {ρ : Operand → Option A} {c : Call} {s x : Operand} {t t' e : TypeId} {a b : A} {p m q : List α} {i : TypeInfo} {dt : TypeDesc} (hp : Hp σ L) (j : Nat) (hj : L[j]? = some (.app a e)) (ha : Sl r a p) (hb : New σ r b m) (hq : appL i.bytes p m = some q)
    (hop : o.op = .call c) (hc : c.callee = .builtin .append) (hargs : c.args.toList = [s, x]) (hs : ρ s = some a) (hx : ρ x = some b) (h0 : c.argTypes[0]? = some t) (h1 : c.argTypes[1]? = some t') (ht' : C.P.underlying t' = some dt) (hnot : (match dt with | .int _ => true | _ => false) = false)
    (ht : C.P.underlying t = some (.slice e)) (hi : C.P.info? e = some i) (hz : i.size = r.sz) (hz1 : i.zero.isSome = true) (hz2 : (i.zero.map (·.cells.size)) = some i.size) (hb0 : Nat.ble 1 i.bytes = true) :
    ∃ a' σ', op C ρ o σ = some (.val a' σ') ∧ Sl r a' q ∧ Hp σ' (L.set j (.app a' e)) := by
  obtain ⟨new, hnew, hcn⟩ := hb.ex
  unfold appL at hq
  split at hq
  case isFalse => cases hq
  rename_i hbnd
  cases hq
  have hop' : ∀ (res : Option (A × St)), appendOp C.P t a b σ = res → op C ρ o σ = wrapS res := by
    intro res hr
    simp only [op, hop, hc, builtinOp, hargs, hs, hx, h0, h1, ht', hM.no, Bool.false_eq_true, if_false, hr]
    cases dt <;> first | rfl | simp at hnot
  have hn' : appended σ i.size b = some new := by rw [hz]; exact hnew
  have hpos : 0 < i.size := by rw [hz]; exact r.pos
  have hbytes : 0 < i.bytes := Nat.le_of_ble_eq_true hb0
  have hnl : new.length / i.size = m.length := by rw [hcn.length, hz, Nat.mul_div_cancel _ r.pos]
  by_cases hnn : new = []
  · have hm : m = [] := hcn.nil_iff.1 hnn
    subst hm
    have hsl : isSl a = true := by rcases ha with ⟨rfl, _⟩ | ⟨cs, ap, rfl, _⟩ <;> rfl
    have hr : appendOp C.P t a b σ = some (a, σ) := by
      simp only [appendOp, ht, hi, hn', if_pos hpos, if_pos hnn, hsl]; rfl
    refine ⟨a, σ, hop' _ hr, by rw [List.append_nil]; exact ha, ?_⟩
    have : L.set j (.app a e) = L := by
      apply List.ext_getElem?
      intro k
      rw [List.getElem?_set]
      split
      · rename_i hk; subst hk
        have hlt := (List.getElem?_eq_some_iff.1 hj).1
        rw [if_pos hlt, hj]
      · rfl
    rw [this]; exact hp
  · have h1n : allOne new = true := hcn.one
    rcases ha with ⟨rfl, rfl⟩ | ⟨cs, ap, rfl, hcs⟩
    · have hr := append_nil (σ := σ) (x := b) ht hi hn' hpos hnn h1n hz1 hz2 hbytes (by rw [hnl]; simpa using hbnd)
      exact ⟨_, _, hop' _ hr, .inr ⟨_, _, by rw [hz], by simpa using hcn⟩, hp.tok hj _ _ _⟩
    · have hlen : (cs.length + new.length) / i.size = p.length + m.length := by
        rw [hcs.length, hcn.length, hz, ← Nat.add_mul, Nat.mul_div_cancel _ r.pos]
      have hbnd' : (2 * ((cs.length + new.length) / i.size) + 1024) * i.bytes ≤ 281474976710656 := by rw [hlen]; exact hbnd
      rcases hp.getApp hj with hh | ⟨sz, cs2, ap2, hh, hap⟩
      · simp [nilS] at hh
      · cases hh
        rcases hap with rfl | ⟨id, rfl, hl, _⟩
        · have hr := append_new_ (σ := σ) (cs := cs) (x := b) ht hi hn' hpos hnn h1n hz1 hz2 hbytes hbnd'
          rw [hz] at hr
          exact ⟨_, _, hop' _ hr, .inr ⟨_, _, rfl, hcs.append hcn⟩, hp.tok hj _ _ _⟩
        · have hr := append_own (σ := σ) (cs := cs) (x := b) ht hi hn' hpos hnn h1n hz1 hz2 hbytes hbnd' hl
          rw [hz] at hr
          exact ⟨_, _, hop' _ hr, .inr ⟨_, _, rfl, hcs.append hcn⟩, hp.retok hj _ _⟩
theorem appendOp_typed {α : Type} {r : RepT α} {t e : TypeId} {a b : A} {p m q : List α} {i : TypeInfo} (hp : Hp σ L) (j : Nat) (hj : L[j]? = some (.app a e)) (ha : Sl r a p) (hb : New σ r b m) (hq : appL i.bytes p m = some q) (hm : m ≠ [])
    (ht : C.P.underlying t = some (.slice e)) (hi : C.P.info? e = some i) (hz : i.size = r.sz) (hz1 : i.zero.isSome = true) (hz2 : (i.zero.map (·.cells.size)) = some i.size) (hb0 : Nat.ble 1 i.bytes = true) :
    ∃ a' σ', appendOp C.P t a b σ = some (a', σ') ∧ Sl r a' q ∧ Hp σ' (L.set j (.app a' e)) := by
  obtain ⟨new, hnew, hcn⟩ := hb.ex
  unfold appL at hq
  split at hq
  case isFalse => cases hq
  rename_i hbnd
  cases hq
  have hn' : appended σ i.size b = some new := by rw [hz]; exact hnew
  have hpos : 0 < i.size := by rw [hz]; exact r.pos
  have hbytes : 0 < i.bytes := Nat.le_of_ble_eq_true hb0
  have hnl : new.length / i.size = m.length := by rw [hcn.length, hz, Nat.mul_div_cancel _ r.pos]
  have hnn : ¬ new = [] := fun h => hm (hcn.nil_iff.1 h)
  have h1n : allOne new = true := hcn.one
  rcases ha with ⟨rfl, rfl⟩ | ⟨cs, ap, rfl, hcs⟩
  · have hr := append_nil (σ := σ) (x := b) ht hi hn' hpos hnn h1n hz1 hz2 hbytes (by rw [hnl]; simpa using hbnd)
    exact ⟨_, _, hr, .inr ⟨_, _, by rw [hz], by simpa using hcn⟩, hp.tok hj _ _ _⟩
  · have hlen : (cs.length + new.length) / i.size = p.length + m.length := by
      rw [hcs.length, hcn.length, hz, ← Nat.add_mul, Nat.mul_div_cancel _ r.pos]
    have hbnd' : (2 * ((cs.length + new.length) / i.size) + 1024) * i.bytes ≤ 281474976710656 := by rw [hlen]; exact hbnd
    rcases hp.getApp hj with hh | ⟨sz, cs2, ap2, hh, hap⟩
    · simp [nilS] at hh
    · cases hh
      rcases hap with rfl | ⟨id, rfl, hl, _⟩
      · have hr := append_new_ (σ := σ) (cs := cs) (x := b) ht hi hn' hpos hnn h1n hz1 hz2 hbytes hbnd'
        rw [hz] at hr
        exact ⟨_, _, hr, .inr ⟨_, _, rfl, hcs.append hcn⟩, hp.tok hj _ _ _⟩
      · have hr := append_own (σ := σ) (cs := cs) (x := b) ht hi hn' hpos hnn h1n hz1 hz2 hbytes hbnd' hl
        rw [hz] at hr
        exact ⟨_, _, hr, .inr ⟨_, _, rfl, hcs.append hcn⟩, hp.retok hj _ _⟩
theorem op_pickB {ρ : Operand → Option A} {c a b : Operand} {t x y : Bool} (hop : o.op = .pick c a b) (hc : ρ c = some (.v (.bool t))) (ha : ρ a = some (.v (.bool x))) (hb : ρ b = some (.v (.bool y))) : op C ρ o σ = some (.val (.v (.bool (cond t x y))) σ) := by
  cases t <;> simp [op, hop, hc, ha, hb, wrapV]
theorem append_loud {c : Call} (hop : o.op = .call c) (hc : c.callee = .builtin .append) : isQuiet C o = false := by
  simp only [isQuiet, hop, hc]
theorem Ed.append [hM : NoMut C] {α : Type} {r : RepT α} {c : Call} {s x : Operand} {t t' e : TypeId} {a b : A} {p m q : List α} {i : TypeInfo} {dt : TypeDesc} (hp : Hp σ L) (k : Nat) (hj : L[k]? = some (.app a e)) (ha : Sl r a p) (hb : New σ r b m) (hq : appL i.bytes p m = some q)
    (hop : o.op = .call c) (hc : c.callee = .builtin .append) (hargs : c.args.toList = [s, x]) (hs : evL C F s = some a) (hx : evL C F x = some b) (h0 : c.argTypes[0]? = some t) (h1 : c.argTypes[1]? = some t') (ht' : C.P.underlying t' = some dt) (hnot : (match dt with | .int _ => true | _ => false) = false)
    (ht : C.P.underlying t = some (.slice e)) (hi : C.P.info? e = some i) (hz : i.size = r.sz) (hz1 : i.zero.isSome = true) (hz2 : (i.zero.map (·.cells.size)) = some i.size) (hb0 : Nat.ble 1 i.bytes = true)
    (hw : wantedL ops F o = some true) (hd : o.dst = some d) (hdn : Nat.ble (d + 1) n = true)
    (hst : ∀ a' σ', Sl r a' q → Hp σ' (L.set k (.app a' e)) → stableF C (Region.before ops) j σ' pend = true)
    (h : ∀ a' σ', Sl r a' q → Hp σ' (L.set k (.app a' e)) → Ed C n ops l (j + 1) ((d, a') :: F) σ' ((j, σ) :: past) pend Q) : Ed C n ops (o :: l) j F σ past pend Q := by
  obtain ⟨a', σ', h2, h3, h4⟩ := op_appendG (C := C) (ρ := evL C F) (o := o) hp k hj ha hb hq hop hc hargs hs hx h0 h1 ht' hnot ht hi hz hz1 hz2 hb0
  exact Ed.loudV h2 (append_loud hop hc) hw hd hdn (hst _ _ h3 h4) (h _ _ h3 h4)
theorem stP_pureAll {bef : Array Nat} {x : A} (h : pureQ C (evL C F) o = true) : ∀ (r : List (Nat × St)), stableP C bef (toFr F) o j x r = true
  | [] => rfl
  | (_, _) :: r => stP_pure h (stP_pureAll h r)
theorem Ed.idx [hM : NoMut C] {α : Type} {r : RepT α} {t e : TypeId} {x ix : Operand} {a : A} {p : List α} {k : IntKind} {i : Int} {v : α} (hs : Sl r a p) (hv : atL p i = some v) (hop : o.op = .indexAddr t x ix) (hx : evL C F x = some a) (hi : evL C F ix = some (.v (.int k i))) (ht : C.P.underlying t = some (.slice e)) (hsz : sizeOfT C.P e = some r.sz)
    (hw : wantedL ops F o = some true) (hd : o.dst = some d) (hn : Nat.ble (d + 1) n = true) (h : ∀ cs p c, IsAt cs p c → r.rep v c → Ed C n ops l (j + 1) ((d, .sp cs p .no) :: F) σ past ((j, toFr F, o, (.sp cs p .no)) :: pend) Q) : Ed C n ops (o :: l) j F σ past pend Q := by
  obtain ⟨cs, p, c, h1, h2, h3⟩ := op_idx (σ := σ) hs hv hop hx hi ht hsz
  exact Ed.valP h1 hw hd hn (by simp only [simpleQ, hop]) (stP_pureAll (by simp only [pureQ, hop]) past) (h _ _ _ h2 h3)
end

/-! an appended element whose value is stored later -/
section
variable {C : Cfg} {n : Nat} {ops : Array Oper} {F : List (Nat × A)} {σ : St} {Q : X → Fr → St → Prop} {L : List Res}
theorem Ec.late {id : Nat} {p : LateP} (hp : lateP (ops.toList.drop (ops.size - 5)) = some p)
    (hd : (!drawOk C ops (Region.before ops) && (lateSt ops (Region.before ops) (ops.size - 5) && drawOk C (ops.toList.take (ops.size - 5)).toArray (Region.before (ops.toList.take (ops.size - 5)).toArray))) = true)
    (h : Ed C n (ops.toList.take (ops.size - 5)).toArray (ops.toList.take (ops.size - 5)).toArray.toList 0 F σ [] [] (fun x φ s => x = .normal ∧ ∃ φ' σ', lateTail C n p φ s = some (.normal, φ', σ') ∧ Q .normal φ' σ')) : Ec C n (.region id ops true) F σ Q := by
  rw [Bool.and_eq_true, Bool.not_eq_true'] at hd
  obtain ⟨hd1, hd2⟩ := hd
  obtain ⟨N, x, φ0, φ1, σ1, ⟨rfl, φ', σ', h1, h2⟩, h3, h4⟩ := h
  obtain ⟨ψ', g1, g2⟩ := lateTail_mono h3 h1
  refine Ex.openR (N := N) h2 g2 ?_
  unfold runOpen
  rw [if_neg (by rw [hd1]; simp)]
  unfold runLate
  rw [hp]
  simp only [if_pos hd2, runDq_dr h4]
  exact g1
theorem late_step {α : Type} {r : RepT α} {p : LateP} {t t' e e2 eb el1 : TypeId} {a v : A} {zs vc cs : List A} {l q : List α} {x : α} {i : TypeInfo} {b off : Nat} {kd : IntKind} {zap : Ap} (hp : Hp σ L) (j : Nat) (hj : L[j]? = some (.app a e)) (ib : Nat) (hB : L[ib]? = some (.blk b (.cells cs eb)))
    (ha : Sl r a l) (hx : r.rep x vc) (hvc : v.cells = vc) (hq : appL i.bytes l [x] = some q)
    (g1 : lk F p.s = some a) (g2 : lk F p.z = some (.sl i.size zs zap)) (g3 : lk F p.ti = some (.v (.int kd (l.length : Nat)))) (g4 : lk F p.tv = some v) (g5 : p.ad.val C (toFr F) = some (.ptr b off))
    (h0 : p.c.argTypes[0]? = some t) (h1 : p.c.argTypes[1]? = some t') (u0 : C.P.underlying t = some (.slice e)) (u1 : C.P.underlying t' = some (.slice e2)) (u2 : C.P.underlying p.t1 = some (.slice el1)) (hi : C.P.info? e = some i) (hz : i.size = r.sz) (hz1 : i.zero.isSome = true) (hz2 : (i.zero.map (·.cells.size)) = some i.size) (hb0 : Nat.ble 1 i.bytes = true)
    (s1 : sizeOfT C.P el1 = some i.size) (s2 : sizeOfT C.P p.e = some i.size) (hzl : zs.length = i.size) (hzo : allOne zs = true) (_hf : p.ad = p.ad) (hs : sizeOfT C.P p.t2 = some 1) (ho : Nat.ble (off + 1) cs.length = true)
    (n1 : Nat.ble (p.ta + 1) n = true) (n2 : Nat.ble (p.tp + 1) n = true) (n3 : Nat.ble (p.tb + 1) n = true) :
    ∃ a' σ3, lateTail C n p (toFr F) σ = some (.normal, toFr ((p.tb, .ptr b off) :: (p.tp, .junk) :: (p.ta, a') :: F), σ3) ∧ Sl r a' q ∧ Hp σ3 ((L.set j (.app a' e)).set ib (.blk b (.cells (splice cs off [a']) eb))) := by
  have hone := r.one x vc hx
  have hvl : vc.length = i.size := by rw [r.len x vc hx, hz]
  have hnew : Sl r (.sl i.size vc .no) [x] := .inr ⟨vc, .no, by rw [hz], .single hx⟩
  obtain ⟨a', σ2, e1, e2', e3⟩ := appendOp_typed (C := C) hp j hj ha (New.of hnew) hq (by simp) u0 hi hz hz1 hz2 hb0
  have hjb : j ≠ ib := by rintro rfl; rw [hj] at hB; cases hB
  have hB2 : (L.set j (.app a' e))[ib]? = some (.blk b (.cells cs eb)) := by rw [List.getElem?_set, if_neg hjb]; exact hB
  have hgb := e3.get hB2
  have ha1 : a'.cells = [a'] := e2'.cells
  refine ⟨a', σ2.put b (.cells (splice cs off [a']) eb), ?_, e2', e3.put hB2⟩
  have hst : storeOp C.P p.t2 (.ptr b off) a' σ2 = some (σ2.put b (.cells (splice cs off [a']) eb)) := by
    simp only [storeOp, St.cells, hgb, hs, ha1]
    rw [if_pos ⟨rfl, by simp [allOne, e2'.isOne], Nat.le_of_ble_eq_true ho⟩]
  have hln : lenS a i.size = some l.length := by
    rcases ha with ⟨rfl, rfl⟩ | ⟨cs, ap, rfl, hc⟩
    · rfl
    · simp only [lenS, hz, if_true, hc.length, Nat.mul_div_cancel _ r.pos]
  unfold lateTail
  simp only [toFr_get, g1, g2, g3, g4, g5]
  have hv : lateVal C n p a (.sl i.size zs zap) (.v (.int kd (l.length : Nat))) v (some (.ptr b off)) σ = some (a', .ptr b off, σ2.put b (.cells (splice cs off [a']) eb)) := by
    unfold lateVal
    simp only [h0, h1, u0, u1, u2, hvc]
    rw [if_pos ⟨by simp [sizeOfT, hi], s1, s2, hzl, hzo, hvl, hone, by omega, by rw [hln]; simp, Nat.le_of_ble_eq_true n1, Nat.le_of_ble_eq_true n2, Nat.le_of_ble_eq_true n3⟩]
    simp only [e1, hst]
  rw [hv]
  rfl
theorem late_fin {Q : Fr → St → Prop} {α : Type} {r : RepT α} {p : LateP} {t t' e e2 eb el1 : TypeId} {a v : A} {zs vc cs : List A} {l q : List α} {x : α} {i : TypeInfo} {b off : Nat} {kd : IntKind} {zap : Ap} (hp : Hp σ L) (j : Nat) (hj : L[j]? = some (.app a e)) (ib : Nat) (hB : L[ib]? = some (.blk b (.cells cs eb)))
    (ha : Sl r a l) (hx : r.rep x vc) (hvc : v.cells = vc) (hq : appL i.bytes l [x] = some q)
    (g1 : lk F p.s = some a) (g2 : lk F p.z = some (.sl i.size zs zap)) (g3 : lk F p.ti = some (.v (.int kd (l.length : Nat)))) (g4 : lk F p.tv = some v) (g5 : p.ad.val C (toFr F) = some (.ptr b off))
    (h0 : p.c.argTypes[0]? = some t) (h1 : p.c.argTypes[1]? = some t') (u0 : C.P.underlying t = some (.slice e)) (u1 : C.P.underlying t' = some (.slice e2)) (u2 : C.P.underlying p.t1 = some (.slice el1)) (hi : C.P.info? e = some i) (hz : i.size = r.sz) (hz1 : i.zero.isSome = true) (hz2 : (i.zero.map (·.cells.size)) = some i.size) (hb0 : Nat.ble 1 i.bytes = true)
    (s1 : sizeOfT C.P el1 = some i.size) (s2 : sizeOfT C.P p.e = some i.size) (hzl : zs.length = i.size) (hzo : allOne zs = true) (hf : p.ad = p.ad) (hs : sizeOfT C.P p.t2 = some 1) (ho : Nat.ble (off + 1) cs.length = true)
    (n1 : Nat.ble (p.ta + 1) n = true) (n2 : Nat.ble (p.tp + 1) n = true) (n3 : Nat.ble (p.tb + 1) n = true)
    (h : ∀ a' σ3, Sl r a' q → Hp σ3 ((L.set j (.app a' e)).set ib (.blk b (.cells (splice cs off [a']) eb))) → Q (toFr ((p.tb, .ptr b off) :: (p.tp, .junk) :: (p.ta, a') :: F)) σ3) :
    X.normal = X.normal ∧ ∃ φ' σ', lateTail C n p (toFr F) σ = some (.normal, φ', σ') ∧ Q φ' σ' := by
  obtain ⟨a', σ3, e1, e2', e3⟩ := late_step hp j hj ib hB ha hx hvc hq g1 g2 g3 g4 g5 h0 h1 u0 u1 u2 hi hz hz1 hz2 hb0 s1 s2 hzl hzo hf hs ho n1 n2 n3
  exact ⟨rfl, _, _, e1, h _ _ e2' e3⟩
end

/-! maps from strings to values of one kind -/
def mapEsG {α : Type} (f : α → A) : Nat → List (ByteArray × α) → List (Value × A × Nat)
  | _, [] => []
  | i, (k, v) :: r => (.string k, f v, i) :: mapEsG f (i + 1) r
def mapG {α : Type} (f : α → A) (l : List (ByteArray × α)) : Blk := .map (mapEsG f 0 l) l.length
def lookG {α : Type} (d : α) : List (ByteArray × α) → ByteArray → α
  | [], _ => d
  | (k, v) :: r, s => if s = k then v else lookG d r s
def updG {α : Type} : List (ByteArray × α) → ByteArray → α → List (ByteArray × α)
  | [], s, x => [(s, x)]
  | (k, v) :: r, s, x => if s = k then (k, x) :: r else (k, v) :: updG r s x
def vB (b : Bool) : A := .v (.bool b)
section
variable {α : Type} {f : α → A}
theorem find_esG (d : α) (s : ByteArray) : ∀ (l : List (ByteArray × α)) (i j : Nat),
    (findA .string (.string s) (mapEsG f j l) i = some none ∧ lookG d l s = d ∧ ∀ x, updG l s x = l ++ [(s, x)]) ∨
    (∃ p v, p < l.length ∧ findA .string (.string s) (mapEsG f j l) i = some (some (i + p, f v, j + p)) ∧ lookG d l s = v ∧ (mapEsG f j l)[p]? = some (.string s, f v, j + p) ∧ ∀ x, mapEsG f j (updG l s x) = (mapEsG f j l).set p (.string s, f x, j + p) ∧ (updG l s x).length = l.length)
  | [], i, j => .inl ⟨rfl, rfl, fun _ => rfl⟩
  | (k, v) :: r, i, j => by
    simp only [mapEsG, findA, same_str]
    by_cases h : s = k
    · right
      subst h
      refine ⟨0, v, by simp, by simp, by simp [lookG], by simp, fun x => ?_⟩
      simp [updG, mapEsG]
    · rw [decide_eq_false h]
      rcases find_esG d s r (i + 1) (j + 1) with ⟨h1, h2, h3⟩ | ⟨p, w, h0, h1, h2, h3, h4⟩
      · left
        refine ⟨h1, ?_, fun x => ?_⟩
        · rw [lookG, if_neg h]; exact h2
        · rw [updG, if_neg h, h3 x]; rfl
      · right
        refine ⟨p + 1, w, by rw [List.length_cons]; exact Nat.succ_lt_succ h0, ?_, ?_, ?_, fun x => ?_⟩
        · simp only [h1]
          rw [show i + 1 + p = i + (p + 1) by omega, show j + 1 + p = j + (p + 1) by omega]
        · rw [lookG, if_neg h]; exact h2
        · rw [List.getElem?_cons_succ, h3, show j + 1 + p = j + (p + 1) by omega]
        · obtain ⟨g1, g2⟩ := h4 x
          rw [updG, if_neg h]
          refine ⟨?_, by simp [g2]⟩
          rw [mapEsG, g1, List.set_cons_succ, show j + 1 + p = j + (p + 1) by omega]
theorem mapEsG_app : ∀ (l m : List (ByteArray × α)) (j : Nat), mapEsG f j (l ++ m) = mapEsG f j l ++ mapEsG f (j + l.length) m
  | [], m, j => rfl
  | (k, v) :: r, m, j => by
    rw [List.cons_append, mapEsG, mapEsG, mapEsG_app r m (j + 1), List.length_cons]
    rw [show j + 1 + r.length = j + (r.length + 1) by omega]; rfl
theorem mapEsG_len : ∀ (l : List (ByteArray × α)) (j : Nat), (mapEsG f j l).length = l.length
  | [], _ => rfl
  | (k, v) :: r, j => by rw [mapEsG, List.length_cons, List.length_cons, mapEsG_len r]
variable {C : Cfg} {n : Nat} {ops : Array Oper} {l : List Oper} {F : List (Nat × A)} {σ : St} {Q : X → Fr → St → Prop} {o : Oper} {L : List Res} {d' : Nat}
theorem op_lookG {ρ : Operand → Option A} {t e : TypeId} {m k : Operand} {b : Nat} {l : List (ByteArray × α)} {s : ByteArray} {d : α} (hp : Hp σ L) (i : Nat) (hi : L[i]? = some (.blk b (mapG f l))) (hop : o.op = .lookup t m k false) (hm : ρ m = some (.mp b)) (hk : ρ k = some (.v (.string s))) (hd : keyDesc C.P t = some (.string, e)) (hz : zeroA C.P e = some (f d)) :
    op C ρ o σ = some (.val (f (lookG d l s)) σ) := by
  have hg := hp.get hi
  have hf : keyFits .string (.string s) = true := by
    unfold keyFits
    rw [same_str, decide_eq_true rfl]; rfl
  simp only [op, hop, hm, hk, lookupOp, hd]
  rw [if_pos hf, hg]
  simp only [mapG]
  rcases find_esG (f := f) d s l 0 0 with ⟨h1, h2, _⟩ | ⟨p, v, _, h1, h2, _, _⟩
  · rw [h1, h2]; simp only [hz]; rfl
  · rw [h1, h2]; rfl
theorem Eo.mkMapG {t : TypeId} (hp : Hp σ L) (hop : o.op = .makeMap t none) (hw : wantedL ops F o = some true) (hd : o.dst = some d') (ht : Nat.ble (d' + 1) n = true)
    (h : ∀ b σ', Hp σ' (.blk b (mapG f []) :: L) → Eo C n ops l ((d', .mp b) :: F) σ' Q) : Eo C n ops (o :: l) F σ Q :=
  Eo.val (x := .mp σ.next) (σ' := σ.push (.map [] 0)) (by simp only [op, hop]) hw hd ht (h _ _ (hp.push _))
theorem Eo.mapUG {t e : TypeId} {m k x : Operand} {b : Nat} {q : List (ByteArray × α)} {s : ByteArray} {v : α} (hp : Hp σ L) (i : Nat) (hi : L[i]? = some (.blk b (mapG f q))) (hop : o.op = .mapUpdate t m k x) (hm : evL C F m = some (.mp b)) (hk : evL C F k = some (.v (.string s))) (hx : evL C F x = some (f v)) (hd : keyDesc C.P t = some (.string, e))
    (hw : wantedL ops F o = some true) (hn : o.dst = none) (h : ∀ σ', Hp σ' (L.set i (.blk b (mapG f (updG q s v)))) → Eo C n ops l F σ' Q) : Eo C n ops (o :: l) F σ Q := by
  refine Eo.skip (σ' := σ.put b (mapG f (updG q s v))) ?_ hw hn (h _ (hp.put hi))
  have hg := hp.get hi
  have hf : keyFits .string (.string s) = true := by
    unfold keyFits
    rw [same_str, decide_eq_true rfl]; rfl
  simp only [op, hop, hm, hk, hx, updateOp, hd]
  rw [if_pos hf, hg]
  simp only [mapG]
  rcases find_esG (f := f) v s q 0 0 with ⟨h1, h2, h3⟩ | ⟨p, w, h0, h1, h2, h3, h4⟩
  · rw [h1, h3 v]
    simp only [mapEsG_app, List.length_append, List.length_singleton, Nat.zero_add]
    rfl
  · rw [h1]
    obtain ⟨g1, g2⟩ := h4 v
    simp only [setVal, Nat.zero_add] at h3 ⊢
    rw [h3]
    simp only [wrapU]
    rw [g1, g2]
    simp only [Nat.zero_add]
end

/-! strings.Fields, Cut, Trim by the kit's contracts -/
section
variable {C : Cfg} {f : FuncId} {σ : St} {R : List Res}
theorem fieldsT_ok {s : ByteArray} (hf : C.prim f = some fieldsG) (hp : Hp σ R) {r : List ByteArray} (H : fieldsT s = some r) : Ca C f [.v (.string s)] σ (fun x σ' => ∃ a, x = a ∧ Sl rS a r ∧ Hp σ' R) :=
  Ca.prim hf (σ' := σ) (x := .sl 1 (strsA r) .no) (by simp [fieldsG, H]) ⟨_, rfl, .inr ⟨_, _, rfl, cells_strs r⟩, hp⟩
theorem cutT_ok {s t : ByteArray} (hf : C.prim f = some cutG) (hp : Hp σ R) {r : ByteArray × ByteArray × Bool} (H : cutT s t = some r) : Ca C f [.v (.string s), .v (.string t)] σ (fun x σ' => x = .tup [.v (.string r.1), .v (.string r.2.1), .v (.bool r.2.2)] ∧ Hp σ' R) :=
  Ca.prim hf (σ' := σ) (x := .tup [.v (.string r.1), .v (.string r.2.1), .v (.bool r.2.2)]) (by simp [cutG, H]) ⟨rfl, hp⟩
theorem trimT_ok {s t : ByteArray} (hf : C.prim f = some trimG) (hp : Hp σ R) {r : ByteArray} (H : trimT s t = some r) : Ca C f [.v (.string s), .v (.string t)] σ (fun x σ' => x = .v (.string r) ∧ Hp σ' R) :=
  Ca.prim hf (σ' := σ) (x := .v (.string r)) (by simp [trimG, H]) ⟨rfl, hp⟩
end
end Go.DM
namespace Go.DM
open Go Go.RowKit

/-! short names -/
theorem so {α : Type} {a b : α} (h : some a = some b) : a = b := Option.some.inj h

def vI (i : Int) : A := .v (.int .i64 i)
def vS (s : ByteArray) : A := .v (.string s)
theorem on0 : allOne [] = true := rfl
theorem on {a : A} {l : List A} (h : isOne a = true) (k : allOne l = true) : allOne (a :: l) = true := by
  unfold allOne at k ⊢
  rw [List.all_cons, h, k]; rfl
/-- the right to append to the list in a block's cell i -/
def ap (c : List A) (i e : Nat) : Res := .app (c.getD i nilS) e
def frontsR : List Nat → List Res → List Res
  | [], L => L
  | i :: r, L => frontsR r (frontR i L)
def dropsR : List Nat → List Res → List Res
  | [], L => L
  | i :: r, L => dropsR r (L.eraseIdx i)
theorem Hp.fr {σ : St} : ∀ {L : List Res}, Hp σ L → ∀ l : List Nat, Hp σ (frontsR l L)
  | _, h, [] => h
  | _, h, i :: r => Hp.fr (h.front i) r
theorem Hp.dr {σ : St} : ∀ {L : List Res}, Hp σ L → ∀ l : List Nat, Hp σ (dropsR l L)
  | _, h, [] => h
  | _, h, i :: r => Hp.dr (h.drop i) r
/-- resources picked by their places among the first k, the others behind them -/
def nthR : List Res → Nat → Res
  | [], _ => .app nilS 0
  | a :: _, 0 => a
  | _ :: r, i + 1 => nthR r i
def dropR : Nat → List Res → List Res
  | 0, L => L
  | _ + 1, [] => []
  | i + 1, _ :: r => dropR i r
theorem nthR_eq : ∀ (L : List Res) (i : Nat), nthR L i = L.getD i (.app nilS 0)
  | [], _ => rfl
  | _ :: _, 0 => rfl
  | _ :: r, i + 1 => by rw [nthR, nthR_eq r i]; rfl
theorem dropR_eq : ∀ (i : Nat) (L : List Res), dropR i L = L.drop i
  | 0, _ => rfl
  | _ + 1, [] => rfl
  | i + 1, _ :: r => dropR_eq i r
def pickR (L T : List Res) : List Nat → List Res
  | [] => T
  | i :: r => nthR L i :: pickR L T r
def pickOk (k : Nat) : List Nat → Bool
  | [] => true
  | i :: r => Nat.blt i k && !r.contains i && pickOk k r
theorem pos_disj {f : Res → List Nat} : ∀ {L : List Res}, (L.flatMap f).Nodup → ∀ {i j : Nat} {r s : Res}, L[i]? = some r → L[j]? = some s → i ≠ j → ∀ x ∈ f r, x ∉ f s
  | [], _, i, j, r, s, h, _, _ => by simp at h
  | a :: L, hn, i, j, r, s, hi, hj, hne => by
    rw [List.flatMap_cons, List.nodup_append] at hn
    intro x hx hs
    cases i with
    | zero =>
      cases j with
      | zero => exact hne rfl
      | succ j =>
        simp only [List.getElem?_cons_zero, Option.some.injEq] at hi
        simp only [List.getElem?_cons_succ] at hj
        subst hi
        exact hn.2.2 x hx x (List.mem_flatMap.2 ⟨s, List.mem_of_getElem? hj, hs⟩) rfl
    | succ i =>
      simp only [List.getElem?_cons_succ] at hi
      cases j with
      | zero =>
        simp only [List.getElem?_cons_zero, Option.some.injEq] at hj
        subst hj
        exact hn.2.2 x hs x (List.mem_flatMap.2 ⟨r, List.mem_of_getElem? hi, hx⟩) rfl
      | succ j =>
        simp only [List.getElem?_cons_succ] at hj
        exact pos_disj hn.2.1 hi hj (fun h => hne (by rw [h])) x hx hs
theorem pick_mem {L : List Res} {k : Nat} : ∀ {l : List Nat}, pickOk k l = true → ∀ {s : Res}, s ∈ pickR L (L.drop k) l → s = .app nilS 0 ∨ ∃ j, L[j]? = some s ∧ (j ∈ l ∨ k ≤ j)
  | [], _, s, h => by
    obtain ⟨j, hj⟩ := List.getElem?_of_mem (show s ∈ L.drop k from h)
    rw [List.getElem?_drop] at hj
    exact .inr ⟨k + j, hj, .inr (Nat.le_add_right _ _)⟩
  | i :: r, ho, s, h => by
    unfold pickOk at ho
    rw [Bool.and_eq_true] at ho
    rw [pickR, nthR_eq] at h
    rcases List.mem_cons.1 h with h | h
    · rw [List.getD_eq_getElem?_getD] at h
      cases hi : L[i]? with
      | none => rw [hi] at h; exact .inl h
      | some t => rw [hi] at h; exact .inr ⟨i, by rw [hi, h]; rfl, .inl (List.mem_cons_self ..)⟩
    · rcases pick_mem ho.2 h with h | ⟨j, h1, h2⟩
      · exact .inl h
      · exact .inr ⟨j, h1, h2.imp (List.mem_cons_of_mem _) id⟩
theorem pick_nodup {f : Res → List Nat} (h0 : f (.app nilS 0) = []) {L : List Res} (hn : (L.flatMap f).Nodup) {k : Nat} : ∀ {l : List Nat}, pickOk k l = true → ((pickR L (L.drop k) l).flatMap f).Nodup
  | [], _ => hn.sublist (sublist_flatMap (List.drop_sublist _ _))
  | i :: r, ho => by
    have ho' := ho
    unfold pickOk at ho
    rw [Bool.and_eq_true, Bool.and_eq_true] at ho
    rw [pickR, nthR_eq, List.flatMap_cons, List.nodup_append]
    refine ⟨?_, pick_nodup h0 hn ho.2, fun x hx y hy hxy => ?_⟩
    · rw [List.getD_eq_getElem?_getD]
      cases hi : L[i]? with
      | none => simp [h0]
      | some t => exact hn.sublist (sublist_flatMap (M := [t]) (List.singleton_sublist.2 (List.mem_of_getElem? hi)) |> fun z => by simpa using z)
    · subst hxy
      rw [List.getD_eq_getElem?_getD] at hx
      cases hi : L[i]? with
      | none => rw [hi] at hx; simp [h0] at hx
      | some t =>
        rw [hi] at hx
        obtain ⟨s, hs, hy⟩ := List.mem_flatMap.1 hy
        rcases pick_mem ho.2 hs with rfl | ⟨j, h1, h2⟩
        · rw [h0] at hy; simp at hy
        · refine pos_disj hn hi h1 ?_ x hx hy
          rintro rfl
          rcases h2 with h2 | h2
          · have : r.contains i = true := by simpa using h2
            rw [this] at ho; simp at ho
          · have h3 := ho.1.1
            rw [Nat.blt_eq] at h3
            omega
theorem Hp.pick {σ : St} {L : List Res} (h : Hp σ L) (k : Nat) (l : List Nat) (hl : pickOk k l = true) : Hp σ (pickR L (dropR k L) l) := by
  rw [dropR_eq]
  exact ⟨fun r hr => by
    rcases pick_mem hl hr with rfl | ⟨j, h1, _⟩
    · exact .inl rfl
    · exact h.ok r (List.mem_of_getElem? h1), pick_nodup rfl h.bn hl, pick_nodup rfl h.tn hl⟩
section
variable {C : Cfg} {n : Nat} {ops : Array Oper} {l : List Oper} {F : List (Nat × A)} {σ σ' : St} {Q : X → Fr → St → Prop} {o : Oper} {d : Nat} {x : A}
/-- an operation that gives a value, in one step: the value, the state behind it, the slot -/
def vstep (C : Cfg) (n : Nat) (ops : Array Oper) (F : List (Nat × A)) (o : Oper) (σ : St) : Option (A × St × Nat) :=
  match wantedL ops F o, op C (evL C F) o σ, o.dst with
  | some true, some (.val x σ'), some d => cond (Nat.ble (d + 1) n) (some (x, σ', d)) none
  | _, _, _ => none
theorem V (h : vstep C n ops F o σ = some (x, σ', d)) (k : Eo C n ops l ((d, x) :: F) σ' Q) : Eo C n ops (o :: l) F σ Q := by
  unfold vstep at h
  split at h
  · rename_i h1 h2 h3
    cases h4 : Nat.ble (_ + 1) n with
    | false => rw [h4] at h; cases h
    | true => rw [h4] at h; cases h; exact Eo.val h2 h1 h3 h4 k
  · cases h
end
/-! rules that print shorter -/
section
variable {C : Cfg} {n : Nat} {ops : Array Oper} {l : List Oper} {F : List (Nat × A)} {σ σ' : St} {Q : X → Fr → St → Prop} {o : Oper} {d : Nat} {x : A}
def wdn (n : Nat) (ops : Array Oper) (F : List (Nat × A)) (o : Oper) : Option Nat := match wantedL ops F o, o.dst with
  | some true, some d => cond (Nat.ble (d + 1) n) (some d) none
  | _, _ => none
theorem W (ho : op C (evL C F) o σ = some (.val x σ')) (h : wdn n ops F o = some d) (k : Eo C n ops l ((d, x) :: F) σ' Q) : Eo C n ops (o :: l) F σ Q := by
  unfold wdn at h
  split at h
  · rename_i h1 h3
    cases h4 : Nat.ble (_ + 1) n with
    | false => rw [h4] at h; cases h
    | true => rw [h4] at h; cases h; exact Eo.val ho h1 h3 h4 k
  · cases h
end
def lkA (G : List (Nat × A)) : List (Nat × A) → List (Option A)
  | [] => []
  | p :: F => lk G p.1 :: lkA G F
def lkB : List (Nat × A) → List (Option A)
  | [] => []
  | p :: F => some p.2 :: lkB F
theorem fl {G : List (Nat × A)} : ∀ {F : List (Nat × A)}, lkA G F = lkB F → Fl F (toFr G)
  | [], _ => Fl.nil'
  | (_, _) :: _, h => Fl.cons (List.cons.inj h).1 (fl (List.cons.inj h).2)
theorem nn {α β : Type} {a : α} {b : β} {p : Prop} (h : p) : a = a ∧ b = b ∧ p := ⟨rfl, rfl, h⟩
/-! panics in regions whose order is open -/
section
variable {C : Cfg} {n : Nat} {ops : Array Oper} {l : List Oper} {F : List (Nat × A)} {σ σ' : St} {Q : X → Fr → St → Prop} {o : Oper} {d j : Nat} {past : List (Nat × St)} {pend : List (Nat × Fr × Oper × A)} {f : FuncId} {args : List A} {L : List Res}
theorem Ec.drawnP {id : Nat} (hd : drawOk C ops (Region.before ops) = true) (h : Ed C n ops ops.toList 0 F σ [] [] Q) : Ec C n (.region id ops true) F σ Q := Ex.drawn hd h
/-- the length of a list, in a region of open order -/
theorem Ed.lenL {α : Type} {r : RepT α} {c : Call} {y : Operand} {a : A} {p : List α} {t e : TypeId} (hs : Sl r a p) (hop : o.op = .call c) (hc : c.callee = .builtin .len) (ha : c.args.toList = [y]) (h0 : c.argTypes[0]? = some t) (hx : evL C F y = some a) (ht : C.P.underlying t = some (.slice e))
    (hw : wantedL ops F o = some true) (hd : o.dst = some d) (hn : Nat.ble (d + 1) n = true) (hst : stableP C (Region.before ops) (toFr F) o j (vI (p.length : Nat)) past = true)
    (h : Ed C n ops l (j + 1) ((d, vI (p.length : Nat)) :: F) σ past ((j, toFr F, o, vI (p.length : Nat)) :: pend) Q) : Ed C n ops (o :: l) j F σ past pend Q := by
  have ho := op_lenL (C := C) (ρ := evL C F) (σ := σ) hs hop hc ha h0 hx ht
  refine ExD.val (by rw [wanted_toFr]; exact hw) (by simp only [isQuiet, hop, hc]) ?_ hst (by rw [hd]; exact put_toFr (Nat.le_of_ble_eq_true hn)) h
  rw [ev_toFr]
  unfold opQ
  simp only [hop, hc, ho]
  rfl
theorem Fin.panJ {fn : Func} {K : Out → St → Prop} {a : A} {l : List Oper} (hk : K (.pan a) σ) : Fin C fn K (.pan a) (junkF l (toFr F)) σ := ⟨by rw [junkF_ds]; rfl, hk⟩
theorem Ed.callX {p : A} (hc : CaO C f args σ' (OutP p L)) (ho : op C (evL C F) o σ = some (.call f args σ')) (hw : wantedL ops F o = some true) (hd : o.dst = some d) (ht : Nat.ble (d + 1) n = true) (hq : isQuiet C o = false)
    (hv : runDv C n ops (Region.before ops) j l (j + 1) (toFr ((d, .junk) :: F)) σ ((j, σ) :: past) = true)
    (h : ∀ σ'', Hp σ'' L → Q (.pan p) (junkF ops.toList (toFr F)) σ'') : Ed C n ops (o :: l) j F σ past pend Q := by
  obtain ⟨out, σ'', h1, h2⟩ := hc
  cases out with
  | ret x => exact h2.elim
  | pan b =>
    obtain ⟨rfl, h3⟩ := h2
    exact ExD.pan (by rw [wanted_toFr]; exact hw) hq (by rw [ev_toFr]; exact ho) h1 (by rw [hd]; exact put_toFr (Nat.le_of_ble_eq_true ht)) hv (h _ h3)
end
end Go.DM
