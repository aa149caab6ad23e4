/- The D-machine: rules for ranges over strings, and one more library function by hand. No condition. -/
import Derived.Test.YtamnkpmfnphjlaaDoorDmF
import Derived.Shelf.Strings.Repeat
namespace Go.DM
open Go Go.RowKit

section
variable {C : Cfg} {n : Nat} {ops : Array Oper} {o : Oper} {l : List Oper} {F : List (Nat × A)} {σ : St} {L : List Res} {d : Nat} {Q : X → Fr → St → Prop}
theorem Eo.range {t : TypeId} {x : Operand} {s : ByteArray} (hp : Hp σ L) (hx : evL C F x = some (.v (.string s))) (ht' : C.P.underlying t = some .string) (hop : o.op = .range t x) (hw : wantedL ops F o = some true) (hd : o.dst = some d) (ht : Nat.ble (d + 1) n = true)
    (h : ∀ b σ', Hp σ' (.blk b (.siter s 0) :: L) → Eo C n ops l ((d, .ptr b 0) :: F) σ' Q) : Eo C n ops (o :: l) F σ Q :=
  Eo.val (x := .ptr σ.next 0) (σ' := σ.push (.siter s 0)) (by simp only [op, hop, hx, rangeOp, ht', wrapS]) hw hd ht (h _ _ (hp.push _))
theorem Eo.next {x : Operand} {b pos : Nat} {s : ByteArray} (hp : Hp σ L) (i : Nat) (hi : L[i]? = some (.blk b (.siter s pos))) (hx : evL C F x = some (.ptr b 0)) (hop : o.op = .next x true) (hw : wantedL ops F o = some true) (hd : o.dst = some d) (ht : Nat.ble (d + 1) n = true)
    (h1 : decide (pos < s.size) = true → ∀ σ', Hp σ' (L.set i (.blk b (.siter s (pos + (Utf8.decode s pos).2)))) → Eo C n ops l ((d, .tup [.v (.bool true), .v (.int .i64 (pos : Nat)), .v (.int .i32 (Utf8.decode s pos).1)]) :: F) σ' Q)
    (h2 : decide (pos < s.size) = false → Eo C n ops l ((d, .tup [.v (.bool false)]) :: F) σ Q) : Eo C n ops (o :: l) F σ Q := by
  have hg := hp.get hi
  by_cases hc : pos < s.size
  · exact Eo.val (x := .tup [.v (.bool true), .v (.int .i64 (pos : Nat)), .v (.int .i32 (Utf8.decode s pos).1)]) (σ' := σ.put b (.siter s (pos + (Utf8.decode s pos).2))) (by simp only [op, hop, hx, nextOp, hg, wrapS]; rw [if_pos hc]) hw hd ht (h1 (by simpa using hc) _ (hp.put hi))
  · exact Eo.val (x := .tup [.v (.bool false)]) (σ' := σ) (by simp only [op, hop, hx, nextOp, hg, wrapS]; rw [if_neg hc]) hw hd ht (h2 (by simpa using hc))
end

def repeatT (s : ByteArray) (c : Int) : Option ByteArray := if 0 ≤ c ∧ c ≤ 9223372036854775807 ∧ s.size * c.toNat ≤ 140737488355328 then some ⟨(Lib.repeatL s.data.toList c.toNat).toArray⟩ else none
def repeatG : List A → St → Option (A × St)
  | [.v (.string s), .v (.int .i64 c)], σ => (repeatT s c).map fun b => (.v (.string b), σ)
  | _, _ => none
theorem repeatT_ok {C : Cfg} {f : FuncId} {σ : St} {R : List Res} {s : ByteArray} {c : Int} (hf : C.prim f = some repeatG) (hp : Hp σ R) {r : ByteArray} (H : repeatT s c = some r) : Ca C f [.v (.string s), .v (.int .i64 c)] σ (fun x σ' => x = .v (.string r) ∧ Hp σ' R) :=
  Ca.prim hf (σ' := σ) (x := .v (.string r)) (by simp [repeatG, H]) ⟨rfl, hp⟩
end Go.DM
