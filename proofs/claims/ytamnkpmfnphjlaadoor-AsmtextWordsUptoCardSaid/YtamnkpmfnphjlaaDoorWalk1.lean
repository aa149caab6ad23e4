/- Typed functions of the program's functions, and the walks that show that the calls come to them. No condition. -/
import Derived.Test.YtamnkpmfnphjlaaDoorDmF
import Derived.Test.YtamnkpmfnphjlaaDoorProg
namespace Go.DM
open Go Go.Proofs
set_option maxRecDepth 100000
set_option maxHeartbeats 1000000
noncomputable def cfg : Cfg := { P := Tryd.prog, glob := fun _ => none, prim := fun f => if f = 28 then some containsG else if f = 29 then some trimLeftG else if f = 32 then some joinG else if f = 47 then some splitG else if f = 57 then some indexByteG else none }
theorem prim28_ok {p0 : ByteArray} {p1 : ByteArray} {R : List Res} {σ : St} (hp : Hp σ R) {r : Bool} (H : containsT p0 p1 = some r) : Ca cfg 28 [(.v (.string p0)), (.v (.string p1))] σ (fun x σ' => x = (.v (.bool r)) ∧ Hp σ' (R)) := containsT_ok (C := cfg) (f := 28) rfl hp H
theorem prim29_ok {p0 : ByteArray} {p1 : ByteArray} {R : List Res} {σ : St} (hp : Hp σ R) {r : ByteArray} (H : trimLeftT p0 p1 = some r) : Ca cfg 29 [(.v (.string p0)), (.v (.string p1))] σ (fun x σ' => x = (.v (.string r)) ∧ Hp σ' (R)) := trimLeftT_ok (C := cfg) (f := 29) rfl hp H
theorem prim32_ok {p0 : (List ByteArray)} {p1 : ByteArray} {a1 : A} {R : List Res} {σ : St} (h2 : Sl rS a1 p0) (hp : Hp σ R) {r : ByteArray} (H : joinT p0 p1 = some r) : Ca cfg 32 [a1, (.v (.string p1))] σ (fun x σ' => x = (.v (.string r)) ∧ Hp σ' (R)) := joinT_ok (C := cfg) (f := 32) rfl h2 hp H
theorem prim47_ok {p0 : ByteArray} {p1 : ByteArray} {R : List Res} {σ : St} (hp : Hp σ R) {r : (List ByteArray)} (H : splitT p0 p1 = some r) : Ca cfg 47 [(.v (.string p0)), (.v (.string p1))] σ (fun x σ' => ∃ (a3 : A), x = a3 ∧ Sl rS a3 r ∧ Hp σ' (R)) := splitT_ok (C := cfg) (f := 47) rfl hp H
theorem prim57_ok {p0 : ByteArray} {p1 : Int} {R : List Res} {σ : St} (hp : Hp σ R) {r : Int} (H : indexByteT p0 p1 = some r) : Ca cfg 57 [(.v (.string p0)), (.v (.int .u8 p1))] σ (fun x σ' => x = (.v (.int .i64 r)) ∧ Hp σ' (R)) := indexByteT_ok (C := cfg) (f := 57) rfl hp H
/-! strings.Builder -/
theorem bld_copyCheck {b : Nat} {a0 a : A} {R : List Res} {σ : St} (h0 : AddrOk a0 b) (hp : Hp σ (.blk b (.cells [a0, a] 67) :: R)) :
    Ca cfg 65 [.ptr b 0] σ (fun x σ' => x = .tup [] ∧ Hp σ' (.blk b (.cells [.ptr b 0, a] 67) :: R)) := by
  refine Ca.enterL (G := [(0, .ptr b 0)]) Tryd.func65 rfl rfl rfl rfl ?_
  refine Ec.seq (Ec.region ?_)
  refine Eo.val (x := .ptr b 0) rfl rfl rfl rfl ?_
  refine Eo.val (x := .ptr b 0) rfl rfl rfl rfl ?_
  refine Eo.val (x := .ptr b 0) rfl rfl rfl rfl ?_
  refine Eo.val (x := a0) (op_loadB hp 0 rfl rfl rfl rfl) rfl rfl rfl ?_
  rcases h0 with rfl | rfl
  · refine Eo.val (x := .v (.bool true)) rfl rfl rfl rfl ?_
    refine Eo.nil ?_
    refine Ec.cond (t := true) rfl (fun _ => ?_) (fun h => nomatch h)
    refine Ec.region ?_
    refine Eo.val (x := .ptr b 0) rfl rfl rfl rfl ?_
    refine Eo.val (x := .ptr b 0) rfl rfl rfl rfl ?_
    refine Eo.val (x := .ptr b 0) (op_toUnsafe hp 0 rfl rfl rfl rfl rfl rfl (by decide) (Nat.zero_lt_succ _)) rfl rfl rfl ?_
    refine Eo.val (x := .ptr b 0) rfl rfl rfl rfl ?_
    refine Eo.val (x := .ptr b 0) (op_fromUnsafe hp 0 rfl rfl rfl rfl rfl rfl (by decide) (by kernel_rfl)) rfl rfl rfl ?_
    refine Eo.val (x := .ptr b 0) rfl rfl rfl rfl ?_
    refine Eo.val (x := .ptr b 0) rfl rfl rfl rfl ?_
    refine Eo.store hp 0 rfl (storeCells_mk rfl rfl rfl rfl rfl rfl) rfl rfl rfl rfl rfl ?_
    intro σ1 hp1
    refine Eo.nil ?_
    exact Ret.mkN rfl ⟨rfl, hp1⟩
  · refine Eo.val (x := .v (.bool false)) rfl rfl rfl rfl ?_
    refine Eo.nil ?_
    refine Ec.cond (t := false) rfl (fun h => nomatch h) (fun _ => ?_)
    refine Ec.seq (Ec.region ?_)
    refine Eo.val (x := .ptr b 0) rfl rfl rfl rfl ?_
    refine Eo.val (x := .ptr b 0) rfl rfl rfl rfl ?_
    refine Eo.val (x := .ptr b 0) rfl rfl rfl rfl ?_
    refine Eo.val (x := .ptr b 0) (op_loadB hp 0 rfl rfl rfl rfl) rfl rfl rfl ?_
    refine Eo.val (x := .ptr b 0) rfl rfl rfl rfl ?_
    refine Eo.val (x := .v (.bool false)) (op_ptrNe rfl rfl rfl rfl rfl) rfl rfl rfl ?_
    refine Eo.nil ?_
    refine Ec.cond (t := false) rfl (fun h => nomatch h) (fun _ => ?_)
    refine Ec.skip ?_
    exact Ret.mkN rfl ⟨rfl, hp⟩
theorem bld_WriteByte {b : Nat} {a0 a : A} {l l' : List Int} {c : Int} {R : List Res} {σ : St} (h0 : AddrOk a0 b) (hb : BufIs a l) (hp : Hp σ (.blk b (.cells [a0, a] 67) :: .app a 5 :: R)) (H : appL 1 l [c] = some l') :
    Ca cfg 43 [.ptr b 0, .v (.int .u8 c)] σ (fun x σ' => ∃ a0' a', x = .v .nilIface ∧ AddrOk a0' b ∧ BufIs a' l' ∧ Hp σ' (.blk b (.cells [a0', a'] 67) :: .app a' 5 :: R)) := by
  refine Ca.enterL (G := [(0, .ptr b 0), (1, .v (.int .u8 c))]) Tryd.func43 rfl rfl rfl rfl ?_
  refine Ec.seq (Ec.region ?_)
  refine Eo.val (x := .v .nilIface) rfl rfl rfl rfl ?_
  refine Eo.nil ?_
  refine Ec.seq (Ec.region ?_)
  refine Eo.val (x := .ptr b 0) rfl rfl rfl rfl ?_
  refine Eo.call rfl rfl rfl rfl (bld_copyCheck h0 hp) ?_
  rintro _ σ1 ⟨rfl, hp1⟩
  refine Eo.nil ?_
  refine Ec.seq (Ec.region ?_)
  refine Eo.val (x := .ptr b 0) rfl rfl rfl rfl ?_
  refine Eo.val (x := .ptr b 0) rfl rfl rfl rfl ?_
  refine Eo.val (x := .ptr b 0) rfl rfl rfl rfl ?_
  refine Eo.val (x := .ptr b (0 + 1)) rfl rfl rfl rfl ?_
  refine Eo.val (x := a) (op_loadB hp1 0 rfl rfl rfl rfl) rfl rfl rfl ?_
  refine Eo.val (x := .v (.int .u8 c)) rfl rfl rfl rfl ?_
  refine Eo.val (x := .sl 1 [.v (.int .u8 c)] .ex) rfl rfl rfl rfl ?_
  have hs : Sl (rI .u8) (.sl 1 [.v (.int .u8 c)] .ex) [c] := .inr ⟨_, _, rfl, .cons (c := [.v (.int .u8 c)]) rfl .nil⟩
  refine Eo.append' hp1 1 rfl hb.1 hb.2 (New.of hs) H rfl rfl rfl rfl rfl rfl rfl Tryd.underlying61 rfl Tryd.underlying61 rfl rfl rfl rfl rfl rfl rfl rfl ?_
  intro a' σ2 h2 h2n hp2
  change Hp σ2 (.blk b (.cells [.ptr b 0, a] 67) :: .app a' 5 :: R) at hp2
  refine Eo.val (x := .ptr b 0) rfl rfl rfl rfl ?_
  refine Eo.val (x := .ptr b (0 + 1)) rfl rfl rfl rfl ?_
  refine Eo.store hp2 0 rfl (storeCells_mk h2.cells rfl rfl (by simp [allOne, h2.isOne]) rfl rfl) rfl rfl rfl rfl rfl ?_
  intro σ3 hp3
  change Hp σ3 (.blk b (.cells [.ptr b 0, a'] 67) :: .app a' 5 :: R) at hp3
  refine Eo.nil ?_
  refine Ec.seq (Ec.region ?_)
  refine Eo.val (x := .v .nilIface) rfl rfl rfl rfl ?_
  refine Eo.nil ?_
  exact Ec.ret (Ret.mk rfl ⟨_, _, rfl, .inr rfl, ⟨h2, h2n⟩, hp3⟩)
theorem bld_WriteString {b : Nat} {a0 a : A} {l l' : List Int} {s : ByteArray} {R : List Res} {σ : St} (h0 : AddrOk a0 b) (hb : BufIs a l) (hp : Hp σ (.blk b (.cells [a0, a] 67) :: .app a 5 :: R)) (H : appL 1 l (bs s) = some l') :
    Ca cfg 41 [.ptr b 0, .v (.string s)] σ (fun x σ' => ∃ a0' a', x = .tup [.v (.int .i64 ((s.size : Nat) : Int)), .v .nilIface] ∧ AddrOk a0' b ∧ BufIs a' l' ∧ Hp σ' (.blk b (.cells [a0', a'] 67) :: .app a' 5 :: R)) := by
  refine Ca.enterL (G := [(0, .ptr b 0), (1, .v (.string s))]) Tryd.func41 rfl rfl rfl rfl ?_
  refine Ec.seq (Ec.region ?_)
  refine Eo.val (x := .v (.int .i64 0)) rfl rfl rfl rfl ?_
  refine Eo.val (x := .v .nilIface) rfl rfl rfl rfl ?_
  refine Eo.nil ?_
  refine Ec.seq (Ec.region ?_)
  refine Eo.val (x := .ptr b 0) rfl rfl rfl rfl ?_
  refine Eo.call rfl rfl rfl rfl (bld_copyCheck h0 hp) ?_
  rintro _ σ1 ⟨rfl, hp1⟩
  refine Eo.nil ?_
  refine Ec.seq (Ec.region ?_)
  refine Eo.val (x := .ptr b 0) rfl rfl rfl rfl ?_
  refine Eo.val (x := .ptr b 0) rfl rfl rfl rfl ?_
  refine Eo.val (x := .ptr b 0) rfl rfl rfl rfl ?_
  refine Eo.val (x := .ptr b (0 + 1)) rfl rfl rfl rfl ?_
  refine Eo.val (x := a) (op_loadB hp1 0 rfl rfl rfl rfl) rfl rfl rfl ?_
  refine Eo.val (x := .v (.string s)) rfl rfl rfl rfl ?_
  refine Eo.append' hp1 1 rfl hb.1 hb.2 New.str H rfl rfl rfl rfl rfl rfl rfl Tryd.underlying9 rfl Tryd.underlying61 rfl rfl rfl rfl rfl rfl rfl rfl ?_
  intro a' σ2 h2 h2n hp2
  change Hp σ2 (.blk b (.cells [.ptr b 0, a] 67) :: .app a' 5 :: R) at hp2
  refine Eo.val (x := .ptr b 0) rfl rfl rfl rfl ?_
  refine Eo.val (x := .ptr b (0 + 1)) rfl rfl rfl rfl ?_
  refine Eo.store hp2 0 rfl (storeCells_mk h2.cells rfl rfl (by simp [allOne, h2.isOne]) rfl rfl) rfl rfl rfl rfl rfl ?_
  intro σ3 hp3
  change Hp σ3 (.blk b (.cells [.ptr b 0, a'] 67) :: .app a' 5 :: R) at hp3
  refine Eo.nil ?_
  refine Ec.seq (Ec.region ?_)
  refine Eo.val (x := .v (.string s)) rfl rfl rfl rfl ?_
  refine Eo.val (x := .v (.int .i64 ((s.size : Nat) : Int))) (op_len rfl rfl rfl rfl rfl Tryd.underlying9) rfl rfl rfl ?_
  refine Eo.val (x := .v (.int .i64 ((s.size : Nat) : Int))) rfl rfl rfl rfl ?_
  refine Eo.val (x := .v .nilIface) rfl rfl rfl rfl ?_
  refine Eo.nil ?_
  exact Ec.ret (Ret.mk rfl ⟨_, _, rfl, .inr rfl, ⟨h2, h2n⟩, hp3⟩)
theorem bld_String {b : Nat} {a0 a : A} {l : List Int} {r : ByteArray} {R : List Res} {σ : St} (_ : AddrOk a0 b) (hb : BufIs a l) (hp : Hp σ (.blk b (.cells [a0, a] 67) :: .app a 5 :: R)) (H : strT l = some r) :
    Ca cfg 45 [.ptr b 0] σ (fun x σ' => x = .v (.string r) ∧ Hp σ' (.blk b (.cells [a0, a] 67) :: .app a 5 :: R)) := by
  refine Ca.enterL (G := [(0, .ptr b 0)]) Tryd.func45 rfl rfl rfl rfl ?_
  obtain ⟨hl, rfl⟩ := strT_some H
  refine Ec.seq (Ec.region ?_)
  refine Eo.val (x := .v (.string (ByteArray.mk #[]))) rfl rfl rfl rfl ?_
  refine Eo.nil ?_
  refine Ec.seq ?_
  refine Ec.cut (J := fun x φ s => x = .normal ∧ (Hp s (.blk b (.cells [a0, a] 67) :: .app a 5 :: R) ∧ Fl [(2, .v (.string (ofB l)))] φ)) ?_ ?_
  · refine Ec.drawn (by kernel_rfl) ?_
    refine Eo.val (x := .ptr b 0) rfl rfl rfl rfl ?_
    refine Eo.val (x := .ptr b 0) rfl rfl rfl rfl ?_
    refine Eo.val (x := .ptr b (0 + 1)) rfl rfl rfl rfl ?_
    refine Eo.val (x := a) (op_loadB hp 0 rfl rfl rfl rfl) rfl rfl rfl ?_
    rcases hb.str hp with ⟨rfl, rfl⟩ | ⟨cs, id, rfl, hcs, hne, hlv⟩
    · refine Eo.val (x := .v (.pointer none)) (op_sliceDataNil rfl rfl rfl rfl) rfl rfl rfl ?_
      refine Eo.val (x := .ptr b 0) rfl rfl rfl rfl ?_
      refine Eo.val (x := .ptr b 0) rfl rfl rfl rfl ?_
      refine Eo.val (x := .ptr b (0 + 1)) rfl rfl rfl rfl ?_
      refine Eo.val (x := nilS) (op_loadB hp 0 rfl rfl rfl rfl) rfl rfl rfl ?_
      refine Eo.val (x := .v (.int .i64 0)) (op_lenNil rfl rfl rfl rfl rfl Tryd.underlying61) rfl rfl rfl ?_
      refine Eo.val (x := .v (.string (ofB []))) (op_unsafeStringNil rfl rfl rfl rfl rfl rfl) rfl rfl rfl ?_
      refine Eo.val (x := .v (.string (ofB []))) rfl rfl rfl rfl ?_
      exact Eo.nil (And.intro rfl (And.intro rfl ⟨hp, .cons rfl .nil'⟩))
    · refine Eo.val (x := .sp cs 0 (.gr id)) (op_sliceData rfl rfl rfl rfl hne) rfl rfl rfl ?_
      refine Eo.val (x := .ptr b 0) rfl rfl rfl rfl ?_
      refine Eo.val (x := .ptr b 0) rfl rfl rfl rfl ?_
      refine Eo.val (x := .ptr b (0 + 1)) rfl rfl rfl rfl ?_
      refine Eo.val (x := .sl 1 cs (.gr id)) (op_loadB hp 0 rfl rfl rfl rfl) rfl rfl rfl ?_
      refine Eo.val (x := .v (.int .i64 ((l.length : Nat) : Int))) (op_lenL hb.1 rfl rfl rfl rfl rfl Tryd.underlying61) rfl rfl rfl ?_
      refine Eo.val (x := .v (.string (ofB l))) (op_unsafeString hcs hne hl hlv rfl rfl rfl rfl rfl rfl Tryd.underlying96 Tryd.underlying5 rfl rfl) rfl rfl rfl ?_
      refine Eo.val (x := .v (.string (ofB l))) rfl rfl rfl rfl ?_
      exact Eo.nil (And.intro rfl (And.intro rfl ⟨hp, .cons rfl .nil'⟩))
  · intro x φ s hJ
    obtain ⟨rfl, hp1, hf⟩ := hJ
    refine Ec.of hf ?_
    exact Ec.ret (Ret.mk rfl ⟨rfl, hp1⟩)

structure TTok where
  f_Kind : Int
  f_Text : ByteArray
  deriving DecidableEq

def rTTok : RepT TTok := ⟨2, fun x c => c = [.v (.int .i64 x.f_Kind), .v (.string x.f_Text)], by rintro x c rfl; rfl, by decide, by rintro x c rfl; simp [allOne]⟩

structure TLine where
  f_No : Int
  f_Labels : (List ByteArray)
  f_Toks : (List TTok)
  deriving DecidableEq

def rTLine : RepT TLine := ⟨3, fun x c => ∃ (a0 a1 : A), c = [.v (.int .i64 x.f_No), a0, a1] ∧ Sl rS a0 x.f_Labels ∧ Sl rTTok a1 x.f_Toks, by rintro x c ⟨a0, a1, rfl, _, _⟩; rfl, by decide, by rintro x c ⟨a0, a1, rfl, h0, h1⟩; simp [allOne, h0.isOne, h1.isOne]⟩


def gdovetailref12_Digit (n : Nat) (p0 : Int) : Option (Bool) := some ((decide (p0 ≥ 48)) && (decide (p0 ≤ 57)))

def gdovetailref12_Digit_post (R : List Res) (r : Bool) (x : A) (s : St) : Prop := x = (.v (.bool r)) ∧ Hp s (R)

theorem gdovetailref12_Digit_ok {n : Nat} {p0 : Int} {R : List Res} {σ : St} (hp : Hp σ R) {r : Bool} (H : gdovetailref12_Digit n p0 = some r) : Ca cfg 50 [(.v (.int .u8 p0))] σ (gdovetailref12_Digit_post R r) := by
  unfold gdovetailref12_Digit at H
  refine Ca.enterL (G := [(0, (.v (.int .u8 p0)))]) Tryd.func50 rfl rfl rfl rfl ?_
  refine Ec.seq ?_
  refine Ec.region ?_
  refine Eo.val (x := (.v (.bool false))) rfl rfl rfl rfl ?_
  refine Eo.nil ?_
  refine Ec.seq ?_
  refine Ec.region ?_
  refine Eo.val (x := (.v (.int .u8 p0))) rfl rfl rfl rfl ?_
  refine Eo.val (x := (.v (.bool (decide (p0 ≥ 48))))) rfl rfl rfl rfl ?_
  refine Eo.val (x := (.v (.bool (decide (p0 ≥ 48))))) rfl rfl rfl rfl ?_
  refine Eo.cutF 3 [(2, (.v (.bool false))), (8, (.v (.bool ((decide (p0 ≥ 48)) && (decide (p0 ≤ 57))))))] ?_ ?_
  · skip
    cases hc3 : (decide (p0 ≥ 48))
    · skip
      refine Eo.off rfl rfl rfl ?_
      refine Eo.off rfl rfl rfl ?_
      refine Eo.val (x := (.v (.bool false))) rfl rfl rfl rfl ?_
      exact Eo.nil (And.intro rfl (And.intro rfl (.cons rfl (.cons rfl (.nil')))))
    · skip
      refine Eo.val (x := (.v (.int .u8 p0))) rfl rfl rfl rfl ?_
      refine Eo.val (x := (.v (.bool (decide (p0 ≤ 57))))) rfl rfl rfl rfl ?_
      refine Eo.val (x := (.v (.bool (decide (p0 ≤ 57))))) rfl rfl rfl rfl ?_
      exact Eo.nil (And.intro rfl (And.intro rfl (.cons rfl (.cons rfl (.nil')))))
  · skip
    refine Eo.val (x := (.v (.bool ((decide (p0 ≥ 48)) && (decide (p0 ≤ 57)))))) rfl rfl rfl rfl ?_
    refine Eo.nil ?_
    obtain rfl := Option.some.inj H
    refine Ec.ret ?_
    refine Ret.mk rfl ?_
    exact ⟨rfl, hp⟩

def gdovetailref12_Letter (n : Nat) (p0 : Int) : Option (Bool) := some ((((((decide (p0 ≥ 65)) && (decide (p0 ≤ 90))) || ((decide (p0 ≥ 97)) && (decide (p0 ≤ 122)))) || (p0 == 95)) || (p0 == 46)) || (p0 == 36))

def gdovetailref12_Letter_post (R : List Res) (r : Bool) (x : A) (s : St) : Prop := x = (.v (.bool r)) ∧ Hp s (R)

theorem gdovetailref12_Letter_ok {n : Nat} {p0 : Int} {R : List Res} {σ : St} (hp : Hp σ R) {r : Bool} (H : gdovetailref12_Letter n p0 = some r) : Ca cfg 49 [(.v (.int .u8 p0))] σ (gdovetailref12_Letter_post R r) := by
  unfold gdovetailref12_Letter at H
  refine Ca.enterL (G := [(0, (.v (.int .u8 p0)))]) Tryd.func49 rfl rfl rfl rfl ?_
  refine Ec.seq ?_
  refine Ec.region ?_
  refine Eo.val (x := (.v (.bool false))) rfl rfl rfl rfl ?_
  refine Eo.nil ?_
  refine Ec.seq ?_
  refine Ec.region ?_
  refine Eo.val (x := (.v (.int .u8 p0))) rfl rfl rfl rfl ?_
  refine Eo.val (x := (.v (.bool (decide (p0 ≥ 65))))) rfl rfl rfl rfl ?_
  refine Eo.val (x := (.v (.bool (decide (p0 ≥ 65))))) rfl rfl rfl rfl ?_
  refine Eo.cutF 3 [(0, (.v (.int .u8 p0))), (2, (.v (.bool false))), (8, (.v (.bool ((decide (p0 ≥ 65)) && (decide (p0 ≤ 90))))))] ?_ ?_
  · skip
    cases hc3 : (decide (p0 ≥ 65))
    · skip
      refine Eo.off rfl rfl rfl ?_
      refine Eo.off rfl rfl rfl ?_
      refine Eo.val (x := (.v (.bool false))) rfl rfl rfl rfl ?_
      exact Eo.nil (And.intro rfl (And.intro rfl (.cons rfl (.cons rfl (.cons rfl (.nil'))))))
    · skip
      refine Eo.val (x := (.v (.int .u8 p0))) rfl rfl rfl rfl ?_
      refine Eo.val (x := (.v (.bool (decide (p0 ≤ 90))))) rfl rfl rfl rfl ?_
      refine Eo.val (x := (.v (.bool (decide (p0 ≤ 90))))) rfl rfl rfl rfl ?_
      exact Eo.nil (And.intro rfl (And.intro rfl (.cons rfl (.cons rfl (.cons rfl (.nil'))))))
  · skip
    refine Eo.val (x := (.v (.bool ((decide (p0 ≥ 65)) && (decide (p0 ≤ 90)))))) rfl rfl rfl rfl ?_
    refine Eo.cutF 7 [(0, (.v (.int .u8 p0))), (2, (.v (.bool false))), (16, (.v (.bool (((decide (p0 ≥ 65)) && (decide (p0 ≤ 90))) || ((decide (p0 ≥ 97)) && (decide (p0 ≤ 122)))))))] ?_ ?_
    · skip
      cases hc10 : ((decide (p0 ≥ 65)) && (decide (p0 ≤ 90)))
      · skip
        refine Eo.val (x := (.v (.int .u8 p0))) rfl rfl rfl rfl ?_
        refine Eo.val (x := (.v (.bool (decide (p0 ≥ 97))))) rfl rfl rfl rfl ?_
        refine Eo.val (x := (.v (.bool (decide (p0 ≥ 97))))) rfl rfl rfl rfl ?_
        cases hc11 : (decide (p0 ≥ 97))
        · skip
          refine Eo.off rfl rfl rfl ?_
          refine Eo.off rfl rfl rfl ?_
          refine Eo.val (x := (.v (.bool false))) rfl rfl rfl rfl ?_
          refine Eo.val (x := (.v (.bool false))) rfl rfl rfl rfl ?_
          exact Eo.nil (And.intro rfl (And.intro rfl (.cons rfl (.cons rfl (.cons rfl (.nil'))))))
        · skip
          refine Eo.val (x := (.v (.int .u8 p0))) rfl rfl rfl rfl ?_
          refine Eo.val (x := (.v (.bool (decide (p0 ≤ 122))))) rfl rfl rfl rfl ?_
          refine Eo.val (x := (.v (.bool (decide (p0 ≤ 122))))) rfl rfl rfl rfl ?_
          refine Eo.val (x := (.v (.bool (decide (p0 ≤ 122))))) rfl rfl rfl rfl ?_
          exact Eo.nil (And.intro rfl (And.intro rfl (.cons rfl (.cons rfl (.cons rfl (.nil'))))))
      · skip
        refine Eo.off rfl rfl rfl ?_
        refine Eo.off rfl rfl rfl ?_
        refine Eo.off rfl rfl rfl ?_
        refine Eo.off rfl rfl rfl ?_
        refine Eo.off rfl rfl rfl ?_
        refine Eo.off rfl rfl rfl ?_
        refine Eo.val (x := (.v (.bool true))) rfl rfl rfl rfl ?_
        exact Eo.nil (And.intro rfl (And.intro rfl (.cons rfl (.cons rfl (.cons rfl (.nil'))))))
    · skip
      refine Eo.val (x := (.v (.bool (((decide (p0 ≥ 65)) && (decide (p0 ≤ 90))) || ((decide (p0 ≥ 97)) && (decide (p0 ≤ 122))))))) rfl rfl rfl rfl ?_
      refine Eo.cutF 3 [(0, (.v (.int .u8 p0))), (2, (.v (.bool false))), (20, (.v (.bool ((((decide (p0 ≥ 65)) && (decide (p0 ≤ 90))) || ((decide (p0 ≥ 97)) && (decide (p0 ≤ 122)))) || (p0 == 95)))))] ?_ ?_
      · skip
        cases hc16 : (((decide (p0 ≥ 65)) && (decide (p0 ≤ 90))) || ((decide (p0 ≥ 97)) && (decide (p0 ≤ 122))))
        · skip
          refine Eo.val (x := (.v (.int .u8 p0))) rfl rfl rfl rfl ?_
          refine Eo.val (x := (.v (.bool (p0 == 95)))) rfl rfl rfl rfl ?_
          refine Eo.val (x := (.v (.bool (p0 == 95)))) rfl rfl rfl rfl ?_
          exact Eo.nil (And.intro rfl (And.intro rfl (.cons rfl (.cons rfl (.cons rfl (.nil'))))))
        · skip
          refine Eo.off rfl rfl rfl ?_
          refine Eo.off rfl rfl rfl ?_
          refine Eo.val (x := (.v (.bool true))) rfl rfl rfl rfl ?_
          exact Eo.nil (And.intro rfl (And.intro rfl (.cons rfl (.cons rfl (.cons rfl (.nil'))))))
      · skip
        refine Eo.val (x := (.v (.bool ((((decide (p0 ≥ 65)) && (decide (p0 ≤ 90))) || ((decide (p0 ≥ 97)) && (decide (p0 ≤ 122)))) || (p0 == 95))))) rfl rfl rfl rfl ?_
        refine Eo.cutF 3 [(0, (.v (.int .u8 p0))), (2, (.v (.bool false))), (24, (.v (.bool (((((decide (p0 ≥ 65)) && (decide (p0 ≤ 90))) || ((decide (p0 ≥ 97)) && (decide (p0 ≤ 122)))) || (p0 == 95)) || (p0 == 46)))))] ?_ ?_
        · skip
          cases hc21 : ((((decide (p0 ≥ 65)) && (decide (p0 ≤ 90))) || ((decide (p0 ≥ 97)) && (decide (p0 ≤ 122)))) || (p0 == 95))
          · skip
            refine Eo.val (x := (.v (.int .u8 p0))) rfl rfl rfl rfl ?_
            refine Eo.val (x := (.v (.bool (p0 == 46)))) rfl rfl rfl rfl ?_
            refine Eo.val (x := (.v (.bool (p0 == 46)))) rfl rfl rfl rfl ?_
            exact Eo.nil (And.intro rfl (And.intro rfl (.cons rfl (.cons rfl (.cons rfl (.nil'))))))
          · skip
            refine Eo.off rfl rfl rfl ?_
            refine Eo.off rfl rfl rfl ?_
            refine Eo.val (x := (.v (.bool true))) rfl rfl rfl rfl ?_
            exact Eo.nil (And.intro rfl (And.intro rfl (.cons rfl (.cons rfl (.cons rfl (.nil'))))))
        · skip
          refine Eo.val (x := (.v (.bool (((((decide (p0 ≥ 65)) && (decide (p0 ≤ 90))) || ((decide (p0 ≥ 97)) && (decide (p0 ≤ 122)))) || (p0 == 95)) || (p0 == 46))))) rfl rfl rfl rfl ?_
          refine Eo.cutF 3 [(2, (.v (.bool false))), (28, (.v (.bool ((((((decide (p0 ≥ 65)) && (decide (p0 ≤ 90))) || ((decide (p0 ≥ 97)) && (decide (p0 ≤ 122)))) || (p0 == 95)) || (p0 == 46)) || (p0 == 36)))))] ?_ ?_
          · skip
            cases hc26 : (((((decide (p0 ≥ 65)) && (decide (p0 ≤ 90))) || ((decide (p0 ≥ 97)) && (decide (p0 ≤ 122)))) || (p0 == 95)) || (p0 == 46))
            · skip
              refine Eo.val (x := (.v (.int .u8 p0))) rfl rfl rfl rfl ?_
              refine Eo.val (x := (.v (.bool (p0 == 36)))) rfl rfl rfl rfl ?_
              refine Eo.val (x := (.v (.bool (p0 == 36)))) rfl rfl rfl rfl ?_
              exact Eo.nil (And.intro rfl (And.intro rfl (.cons rfl (.cons rfl (.nil')))))
            · skip
              refine Eo.off rfl rfl rfl ?_
              refine Eo.off rfl rfl rfl ?_
              refine Eo.val (x := (.v (.bool true))) rfl rfl rfl rfl ?_
              exact Eo.nil (And.intro rfl (And.intro rfl (.cons rfl (.cons rfl (.nil')))))
          · skip
            refine Eo.val (x := (.v (.bool ((((((decide (p0 ≥ 65)) && (decide (p0 ≤ 90))) || ((decide (p0 ≥ 97)) && (decide (p0 ≤ 122)))) || (p0 == 95)) || (p0 == 46)) || (p0 == 36))))) rfl rfl rfl rfl ?_
            refine Eo.nil ?_
            obtain rfl := Option.some.inj H
            refine Ec.ret ?_
            refine Ret.mk rfl ?_
            exact ⟨rfl, hp⟩

def gasmtext_word (n : Nat) (p0 : Int) : Option (Bool) := some (((((((decide (p0 ≥ 65)) && (decide (p0 ≤ 90))) || ((decide (p0 ≥ 97)) && (decide (p0 ≤ 122)))) || ((decide (p0 ≥ 48)) && (decide (p0 ≤ 57)))) || (p0 == 95)) || (p0 == 46)) || (p0 == 36))

def gasmtext_word_post (R : List Res) (r : Bool) (x : A) (s : St) : Prop := x = (.v (.bool r)) ∧ Hp s (R)

theorem gasmtext_word_ok {n : Nat} {p0 : Int} {R : List Res} {σ : St} (hp : Hp σ R) {r : Bool} (H : gasmtext_word n p0 = some r) : Ca cfg 58 [(.v (.int .u8 p0))] σ (gasmtext_word_post R r) := by
  unfold gasmtext_word at H
  refine Ca.enterL (G := [(0, (.v (.int .u8 p0)))]) Tryd.func58 rfl rfl rfl rfl ?_
  refine Ec.seq ?_
  refine Ec.region ?_
  refine Eo.val (x := (.v (.bool false))) rfl rfl rfl rfl ?_
  refine Eo.nil ?_
  refine Ec.seq ?_
  refine Ec.region ?_
  refine Eo.val (x := (.v (.int .u8 p0))) rfl rfl rfl rfl ?_
  refine Eo.val (x := (.v (.bool (decide (p0 ≥ 65))))) rfl rfl rfl rfl ?_
  refine Eo.val (x := (.v (.bool (decide (p0 ≥ 65))))) rfl rfl rfl rfl ?_
  refine Eo.cutF 3 [(0, (.v (.int .u8 p0))), (2, (.v (.bool false))), (8, (.v (.bool ((decide (p0 ≥ 65)) && (decide (p0 ≤ 90))))))] ?_ ?_
  · skip
    cases hc3 : (decide (p0 ≥ 65))
    · skip
      refine Eo.off rfl rfl rfl ?_
      refine Eo.off rfl rfl rfl ?_
      refine Eo.val (x := (.v (.bool false))) rfl rfl rfl rfl ?_
      exact Eo.nil (And.intro rfl (And.intro rfl (.cons rfl (.cons rfl (.cons rfl (.nil'))))))
    · skip
      refine Eo.val (x := (.v (.int .u8 p0))) rfl rfl rfl rfl ?_
      refine Eo.val (x := (.v (.bool (decide (p0 ≤ 90))))) rfl rfl rfl rfl ?_
      refine Eo.val (x := (.v (.bool (decide (p0 ≤ 90))))) rfl rfl rfl rfl ?_
      exact Eo.nil (And.intro rfl (And.intro rfl (.cons rfl (.cons rfl (.cons rfl (.nil'))))))
  · skip
    refine Eo.val (x := (.v (.bool ((decide (p0 ≥ 65)) && (decide (p0 ≤ 90)))))) rfl rfl rfl rfl ?_
    refine Eo.cutF 7 [(0, (.v (.int .u8 p0))), (2, (.v (.bool false))), (16, (.v (.bool (((decide (p0 ≥ 65)) && (decide (p0 ≤ 90))) || ((decide (p0 ≥ 97)) && (decide (p0 ≤ 122)))))))] ?_ ?_
    · skip
      cases hc10 : ((decide (p0 ≥ 65)) && (decide (p0 ≤ 90)))
      · skip
        refine Eo.val (x := (.v (.int .u8 p0))) rfl rfl rfl rfl ?_
        refine Eo.val (x := (.v (.bool (decide (p0 ≥ 97))))) rfl rfl rfl rfl ?_
        refine Eo.val (x := (.v (.bool (decide (p0 ≥ 97))))) rfl rfl rfl rfl ?_
        cases hc11 : (decide (p0 ≥ 97))
        · skip
          refine Eo.off rfl rfl rfl ?_
          refine Eo.off rfl rfl rfl ?_
          refine Eo.val (x := (.v (.bool false))) rfl rfl rfl rfl ?_
          refine Eo.val (x := (.v (.bool false))) rfl rfl rfl rfl ?_
          exact Eo.nil (And.intro rfl (And.intro rfl (.cons rfl (.cons rfl (.cons rfl (.nil'))))))
        · skip
          refine Eo.val (x := (.v (.int .u8 p0))) rfl rfl rfl rfl ?_
          refine Eo.val (x := (.v (.bool (decide (p0 ≤ 122))))) rfl rfl rfl rfl ?_
          refine Eo.val (x := (.v (.bool (decide (p0 ≤ 122))))) rfl rfl rfl rfl ?_
          refine Eo.val (x := (.v (.bool (decide (p0 ≤ 122))))) rfl rfl rfl rfl ?_
          exact Eo.nil (And.intro rfl (And.intro rfl (.cons rfl (.cons rfl (.cons rfl (.nil'))))))
      · skip
        refine Eo.off rfl rfl rfl ?_
        refine Eo.off rfl rfl rfl ?_
        refine Eo.off rfl rfl rfl ?_
        refine Eo.off rfl rfl rfl ?_
        refine Eo.off rfl rfl rfl ?_
        refine Eo.off rfl rfl rfl ?_
        refine Eo.val (x := (.v (.bool true))) rfl rfl rfl rfl ?_
        exact Eo.nil (And.intro rfl (And.intro rfl (.cons rfl (.cons rfl (.cons rfl (.nil'))))))
    · skip
      refine Eo.val (x := (.v (.bool (((decide (p0 ≥ 65)) && (decide (p0 ≤ 90))) || ((decide (p0 ≥ 97)) && (decide (p0 ≤ 122))))))) rfl rfl rfl rfl ?_
      refine Eo.cutF 7 [(0, (.v (.int .u8 p0))), (2, (.v (.bool false))), (24, (.v (.bool ((((decide (p0 ≥ 65)) && (decide (p0 ≤ 90))) || ((decide (p0 ≥ 97)) && (decide (p0 ≤ 122)))) || ((decide (p0 ≥ 48)) && (decide (p0 ≤ 57)))))))] ?_ ?_
      · skip
        cases hc18 : (((decide (p0 ≥ 65)) && (decide (p0 ≤ 90))) || ((decide (p0 ≥ 97)) && (decide (p0 ≤ 122))))
        · skip
          refine Eo.val (x := (.v (.int .u8 p0))) rfl rfl rfl rfl ?_
          refine Eo.val (x := (.v (.bool (decide (p0 ≥ 48))))) rfl rfl rfl rfl ?_
          refine Eo.val (x := (.v (.bool (decide (p0 ≥ 48))))) rfl rfl rfl rfl ?_
          cases hc19 : (decide (p0 ≥ 48))
          · skip
            refine Eo.off rfl rfl rfl ?_
            refine Eo.off rfl rfl rfl ?_
            refine Eo.val (x := (.v (.bool false))) rfl rfl rfl rfl ?_
            refine Eo.val (x := (.v (.bool false))) rfl rfl rfl rfl ?_
            exact Eo.nil (And.intro rfl (And.intro rfl (.cons rfl (.cons rfl (.cons rfl (.nil'))))))
          · skip
            refine Eo.val (x := (.v (.int .u8 p0))) rfl rfl rfl rfl ?_
            refine Eo.val (x := (.v (.bool (decide (p0 ≤ 57))))) rfl rfl rfl rfl ?_
            refine Eo.val (x := (.v (.bool (decide (p0 ≤ 57))))) rfl rfl rfl rfl ?_
            refine Eo.val (x := (.v (.bool (decide (p0 ≤ 57))))) rfl rfl rfl rfl ?_
            exact Eo.nil (And.intro rfl (And.intro rfl (.cons rfl (.cons rfl (.cons rfl (.nil'))))))
        · skip
          refine Eo.off rfl rfl rfl ?_
          refine Eo.off rfl rfl rfl ?_
          refine Eo.off rfl rfl rfl ?_
          refine Eo.off rfl rfl rfl ?_
          refine Eo.off rfl rfl rfl ?_
          refine Eo.off rfl rfl rfl ?_
          refine Eo.val (x := (.v (.bool true))) rfl rfl rfl rfl ?_
          exact Eo.nil (And.intro rfl (And.intro rfl (.cons rfl (.cons rfl (.cons rfl (.nil'))))))
      · skip
        refine Eo.val (x := (.v (.bool ((((decide (p0 ≥ 65)) && (decide (p0 ≤ 90))) || ((decide (p0 ≥ 97)) && (decide (p0 ≤ 122)))) || ((decide (p0 ≥ 48)) && (decide (p0 ≤ 57))))))) rfl rfl rfl rfl ?_
        refine Eo.cutF 3 [(0, (.v (.int .u8 p0))), (2, (.v (.bool false))), (28, (.v (.bool (((((decide (p0 ≥ 65)) && (decide (p0 ≤ 90))) || ((decide (p0 ≥ 97)) && (decide (p0 ≤ 122)))) || ((decide (p0 ≥ 48)) && (decide (p0 ≤ 57)))) || (p0 == 95)))))] ?_ ?_
        · skip
          cases hc24 : ((((decide (p0 ≥ 65)) && (decide (p0 ≤ 90))) || ((decide (p0 ≥ 97)) && (decide (p0 ≤ 122)))) || ((decide (p0 ≥ 48)) && (decide (p0 ≤ 57))))
          · skip
            refine Eo.val (x := (.v (.int .u8 p0))) rfl rfl rfl rfl ?_
            refine Eo.val (x := (.v (.bool (p0 == 95)))) rfl rfl rfl rfl ?_
            refine Eo.val (x := (.v (.bool (p0 == 95)))) rfl rfl rfl rfl ?_
            exact Eo.nil (And.intro rfl (And.intro rfl (.cons rfl (.cons rfl (.cons rfl (.nil'))))))
          · skip
            refine Eo.off rfl rfl rfl ?_
            refine Eo.off rfl rfl rfl ?_
            refine Eo.val (x := (.v (.bool true))) rfl rfl rfl rfl ?_
            exact Eo.nil (And.intro rfl (And.intro rfl (.cons rfl (.cons rfl (.cons rfl (.nil'))))))
        · skip
          refine Eo.val (x := (.v (.bool (((((decide (p0 ≥ 65)) && (decide (p0 ≤ 90))) || ((decide (p0 ≥ 97)) && (decide (p0 ≤ 122)))) || ((decide (p0 ≥ 48)) && (decide (p0 ≤ 57)))) || (p0 == 95))))) rfl rfl rfl rfl ?_
          refine Eo.cutF 3 [(0, (.v (.int .u8 p0))), (2, (.v (.bool false))), (32, (.v (.bool ((((((decide (p0 ≥ 65)) && (decide (p0 ≤ 90))) || ((decide (p0 ≥ 97)) && (decide (p0 ≤ 122)))) || ((decide (p0 ≥ 48)) && (decide (p0 ≤ 57)))) || (p0 == 95)) || (p0 == 46)))))] ?_ ?_
          · skip
            cases hc29 : (((((decide (p0 ≥ 65)) && (decide (p0 ≤ 90))) || ((decide (p0 ≥ 97)) && (decide (p0 ≤ 122)))) || ((decide (p0 ≥ 48)) && (decide (p0 ≤ 57)))) || (p0 == 95))
            · skip
              refine Eo.val (x := (.v (.int .u8 p0))) rfl rfl rfl rfl ?_
              refine Eo.val (x := (.v (.bool (p0 == 46)))) rfl rfl rfl rfl ?_
              refine Eo.val (x := (.v (.bool (p0 == 46)))) rfl rfl rfl rfl ?_
              exact Eo.nil (And.intro rfl (And.intro rfl (.cons rfl (.cons rfl (.cons rfl (.nil'))))))
            · skip
              refine Eo.off rfl rfl rfl ?_
              refine Eo.off rfl rfl rfl ?_
              refine Eo.val (x := (.v (.bool true))) rfl rfl rfl rfl ?_
              exact Eo.nil (And.intro rfl (And.intro rfl (.cons rfl (.cons rfl (.cons rfl (.nil'))))))
          · skip
            refine Eo.val (x := (.v (.bool ((((((decide (p0 ≥ 65)) && (decide (p0 ≤ 90))) || ((decide (p0 ≥ 97)) && (decide (p0 ≤ 122)))) || ((decide (p0 ≥ 48)) && (decide (p0 ≤ 57)))) || (p0 == 95)) || (p0 == 46))))) rfl rfl rfl rfl ?_
            refine Eo.cutF 3 [(2, (.v (.bool false))), (36, (.v (.bool (((((((decide (p0 ≥ 65)) && (decide (p0 ≤ 90))) || ((decide (p0 ≥ 97)) && (decide (p0 ≤ 122)))) || ((decide (p0 ≥ 48)) && (decide (p0 ≤ 57)))) || (p0 == 95)) || (p0 == 46)) || (p0 == 36)))))] ?_ ?_
            · skip
              cases hc34 : ((((((decide (p0 ≥ 65)) && (decide (p0 ≤ 90))) || ((decide (p0 ≥ 97)) && (decide (p0 ≤ 122)))) || ((decide (p0 ≥ 48)) && (decide (p0 ≤ 57)))) || (p0 == 95)) || (p0 == 46))
              · skip
                refine Eo.val (x := (.v (.int .u8 p0))) rfl rfl rfl rfl ?_
                refine Eo.val (x := (.v (.bool (p0 == 36)))) rfl rfl rfl rfl ?_
                refine Eo.val (x := (.v (.bool (p0 == 36)))) rfl rfl rfl rfl ?_
                exact Eo.nil (And.intro rfl (And.intro rfl (.cons rfl (.cons rfl (.nil')))))
              · skip
                refine Eo.off rfl rfl rfl ?_
                refine Eo.off rfl rfl rfl ?_
                refine Eo.val (x := (.v (.bool true))) rfl rfl rfl rfl ?_
                exact Eo.nil (And.intro rfl (And.intro rfl (.cons rfl (.cons rfl (.nil')))))
            · skip
              refine Eo.val (x := (.v (.bool (((((((decide (p0 ≥ 65)) && (decide (p0 ≤ 90))) || ((decide (p0 ≥ 97)) && (decide (p0 ≤ 122)))) || ((decide (p0 ≥ 48)) && (decide (p0 ≤ 57)))) || (p0 == 95)) || (p0 == 46)) || (p0 == 36))))) rfl rfl rfl rfl ?_
              refine Eo.nil ?_
              obtain rfl := Option.some.inj H
              refine Ec.ret ?_
              refine Ret.mk rfl ?_
              exact ⟨rfl, hp⟩

def gdovetailref13_InWord (n : Nat) (p0 : Int) : Option (Bool) := ((gdovetailref12_Letter n p0).bind fun r1 => (((cond r1 (some true) (((gdovetailref12_Digit n p0).bind fun r10 => some r10))) : Option (Bool)).bind fun x8 => some x8))

def gdovetailref13_InWord_post (R : List Res) (r : Bool) (x : A) (s : St) : Prop := x = (.v (.bool r)) ∧ Hp s (R)

theorem gdovetailref13_InWord_ok {n : Nat} {p0 : Int} {R : List Res} {σ : St} (hp : Hp σ R) {r : Bool} (H : gdovetailref13_InWord n p0 = some r) : Ca cfg 27 [(.v (.int .u8 p0))] σ (gdovetailref13_InWord_post R r) := by
  unfold gdovetailref13_InWord at H
  refine Ca.enterL (G := [(0, (.v (.int .u8 p0)))]) Tryd.func27 rfl rfl rfl rfl ?_
  refine Ec.seq ?_
  refine Ec.region ?_
  refine Eo.val (x := (.v (.bool false))) rfl rfl rfl rfl ?_
  refine Eo.nil ?_
  refine Ec.seq ?_
  refine Ec.region ?_
  refine Eo.val (x := (.v (.int .u8 p0))) rfl rfl rfl rfl ?_
  obtain ⟨r1, hvr1, H⟩ := bind_some H
  refine Eo.call rfl rfl rfl rfl (gdovetailref12_Letter_ok hp hvr1) ?_
  rintro _ σ3 ⟨rfl, hp2⟩
  refine Eo.val (x := (.v (.bool r1))) rfl rfl rfl rfl ?_
  obtain ⟨x8, hv18, H⟩ := bind_some H
  refine Eo.cutN 3 (J := (fun (x8 : Bool) (x : X) (φ : Fr) (s : St) => x = .normal ∧ (Hp s (R) ∧ Fl [(2, (.v (.bool false))), (8, (.v (.bool x8)))] φ)) x8) ?_ ?_
  · have H := hv18
    cases hc9 : r1
    · have H := cond_f hc9 H
      refine Eo.val (x := (.v (.int .u8 p0))) rfl rfl rfl rfl ?_
      obtain ⟨r10, hvr10, H⟩ := bind_some H
      refine Eo.call rfl rfl rfl rfl (gdovetailref12_Digit_ok hp2 hvr10) ?_
      rintro _ σ12 ⟨rfl, hp11⟩
      refine Eo.val (x := (.v (.bool r10))) rfl rfl rfl rfl ?_
      refine Eo.nil ?_
      obtain rfl := Option.some.inj H
      exact And.intro rfl ⟨hp11, (.cons rfl (.cons rfl (.nil')))⟩
    · have H := cond_t hc9 H
      refine Eo.off rfl rfl rfl ?_
      refine Eo.off rfl rfl rfl ?_
      refine Eo.val (x := (.v (.bool true))) rfl rfl rfl rfl ?_
      refine Eo.nil ?_
      obtain rfl := Option.some.inj H
      exact And.intro rfl ⟨hp2, (.cons rfl (.cons rfl (.nil')))⟩
  · skip
    intro x φ15 σ14 hJ
    obtain ⟨rfl, hp13, hf16⟩ := hJ
    refine ⟨rfl, Eo.of (F := [(2, (.v (.bool false))), (8, (.v (.bool x8)))]) hf16 ?_⟩
    refine Eo.val (x := (.v (.bool x8))) rfl rfl rfl rfl ?_
    refine Eo.nil ?_
    obtain rfl := Option.some.inj H
    refine Ec.ret ?_
    refine Ret.mk rfl ?_
    exact ⟨rfl, hp13⟩

def gdovetailref13_hex (n : Nat) (p0 : Int) : Option (Int) := (cond ((decide (p0 ≥ 48)) && (decide (p0 ≤ 57))) (some (IntKind.wrap .i64 (IntKind.wrap .u8 (p0 - 48)))) ((cond ((decide (p0 ≥ 97)) && (decide (p0 ≤ 102))) (some (IntKind.wrap .i64 ((IntKind.wrap .i64 (IntKind.wrap .u8 (p0 - 97))) + 10))) (some (-1)))))

def gdovetailref13_hex_post (R : List Res) (r : Int) (x : A) (s : St) : Prop := x = (.v (.int .i64 r)) ∧ Hp s (R)

theorem gdovetailref13_hex_ok {n : Nat} {p0 : Int} {R : List Res} {σ : St} (hp : Hp σ R) {r : Int} (H : gdovetailref13_hex n p0 = some r) : Ca cfg 48 [(.v (.int .u8 p0))] σ (gdovetailref13_hex_post R r) := by
  unfold gdovetailref13_hex at H
  refine Ca.enterL (G := [(0, (.v (.int .u8 p0)))]) Tryd.func48 rfl rfl rfl rfl ?_
  refine Ec.seq ?_
  refine Ec.region ?_
  refine Eo.val (x := (.v (.int .i64 0))) rfl rfl rfl rfl ?_
  refine Eo.nil ?_
  refine Ec.seq ?_
  refine Ec.seq ?_
  refine Ec.region ?_
  refine Eo.val (x := (.v (.int .u8 p0))) rfl rfl rfl rfl ?_
  refine Eo.val (x := (.v (.bool (decide (p0 ≥ 48))))) rfl rfl rfl rfl ?_
  refine Eo.val (x := (.v (.bool (decide (p0 ≥ 48))))) rfl rfl rfl rfl ?_
  refine Eo.cutF 3 [(0, (.v (.int .u8 p0))), (8, (.v (.bool ((decide (p0 ≥ 48)) && (decide (p0 ≤ 57))))))] ?_ ?_
  · skip
    cases hc3 : (decide (p0 ≥ 48))
    · skip
      refine Eo.off rfl rfl rfl ?_
      refine Eo.off rfl rfl rfl ?_
      refine Eo.val (x := (.v (.bool false))) rfl rfl rfl rfl ?_
      exact Eo.nil (And.intro rfl (And.intro rfl (.cons rfl (.cons rfl (.nil')))))
    · skip
      refine Eo.val (x := (.v (.int .u8 p0))) rfl rfl rfl rfl ?_
      refine Eo.val (x := (.v (.bool (decide (p0 ≤ 57))))) rfl rfl rfl rfl ?_
      refine Eo.val (x := (.v (.bool (decide (p0 ≤ 57))))) rfl rfl rfl rfl ?_
      exact Eo.nil (And.intro rfl (And.intro rfl (.cons rfl (.cons rfl (.nil')))))
  · skip
    refine Eo.nil ?_
    refine Ec.cond (t := ((decide (p0 ≥ 48)) && (decide (p0 ≤ 57)))) rfl (fun hc6 => ?_) (fun hc6 => ?_)
    · have H := cond_t hc6 H
      refine Ec.seq ?_
      refine Ec.region ?_
      refine Eo.val (x := (.v (.int .u8 p0))) rfl rfl rfl rfl ?_
      refine Eo.val (x := (.v (.int .u8 (IntKind.wrap .u8 (p0 - 48))))) rfl rfl rfl rfl ?_
      refine Eo.val (x := (.v (.int .i64 (IntKind.wrap .i64 (IntKind.wrap .u8 (p0 - 48)))))) rfl rfl rfl rfl ?_
      refine Eo.val (x := (.v (.int .i64 (IntKind.wrap .i64 (IntKind.wrap .u8 (p0 - 48)))))) rfl rfl rfl rfl ?_
      refine Eo.nil ?_
      obtain rfl := Option.some.inj H
      refine Ec.ret ?_
      refine Ret.mk rfl ?_
      exact ⟨rfl, hp⟩
    · have H := cond_f hc6 H
      refine Ec.skip ?_
      refine Ec.seq ?_
      refine Ec.seq ?_
      refine Ec.region ?_
      refine Eo.val (x := (.v (.int .u8 p0))) rfl rfl rfl rfl ?_
      refine Eo.val (x := (.v (.bool (decide (p0 ≥ 97))))) rfl rfl rfl rfl ?_
      refine Eo.val (x := (.v (.bool (decide (p0 ≥ 97))))) rfl rfl rfl rfl ?_
      refine Eo.cutF 3 [(0, (.v (.int .u8 p0))), (17, (.v (.bool ((decide (p0 ≥ 97)) && (decide (p0 ≤ 102))))))] ?_ ?_
      · skip
        cases hc9 : (decide (p0 ≥ 97))
        · skip
          refine Eo.off rfl rfl rfl ?_
          refine Eo.off rfl rfl rfl ?_
          refine Eo.val (x := (.v (.bool false))) rfl rfl rfl rfl ?_
          exact Eo.nil (And.intro rfl (And.intro rfl (.cons rfl (.cons rfl (.nil')))))
        · skip
          refine Eo.val (x := (.v (.int .u8 p0))) rfl rfl rfl rfl ?_
          refine Eo.val (x := (.v (.bool (decide (p0 ≤ 102))))) rfl rfl rfl rfl ?_
          refine Eo.val (x := (.v (.bool (decide (p0 ≤ 102))))) rfl rfl rfl rfl ?_
          exact Eo.nil (And.intro rfl (And.intro rfl (.cons rfl (.cons rfl (.nil')))))
      · skip
        refine Eo.nil ?_
        refine Ec.cond (t := ((decide (p0 ≥ 97)) && (decide (p0 ≤ 102)))) rfl (fun hc12 => ?_) (fun hc12 => ?_)
        · have H := cond_t hc12 H
          refine Ec.seq ?_
          refine Ec.region ?_
          refine Eo.val (x := (.v (.int .u8 p0))) rfl rfl rfl rfl ?_
          refine Eo.val (x := (.v (.int .u8 (IntKind.wrap .u8 (p0 - 97))))) rfl rfl rfl rfl ?_
          refine Eo.val (x := (.v (.int .i64 (IntKind.wrap .i64 (IntKind.wrap .u8 (p0 - 97)))))) rfl rfl rfl rfl ?_
          refine Eo.val (x := (.v (.int .i64 (IntKind.wrap .i64 ((IntKind.wrap .i64 (IntKind.wrap .u8 (p0 - 97))) + 10))))) rfl rfl rfl rfl ?_
          refine Eo.val (x := (.v (.int .i64 (IntKind.wrap .i64 ((IntKind.wrap .i64 (IntKind.wrap .u8 (p0 - 97))) + 10))))) rfl rfl rfl rfl ?_
          refine Eo.nil ?_
          obtain rfl := Option.some.inj H
          refine Ec.ret ?_
          refine Ret.mk rfl ?_
          exact ⟨rfl, hp⟩
        · have H := cond_f hc12 H
          refine Ec.skip ?_
          refine Ec.seq ?_
          refine Ec.region ?_
          refine Eo.val (x := (.v (.int .i64 (-1)))) rfl rfl rfl rfl ?_
          refine Eo.nil ?_
          obtain rfl := Option.some.inj H
          refine Ec.ret ?_
          refine Ret.mk rfl ?_
          exact ⟨rfl, hp⟩

def gdovetailref13_Sign_L1 (N : Nat) (p0 : Int) : Nat → Int → Option (LR Unit Bool)
  | 0, _ => none
  | m + 1, y11 => (cond (decide (y11 < ((([40, 41, 91, 93, 43, 45, 42, 44, 58, 37] : List Int).length : Nat) : Int))) (((atL ([40, 41, 91, 93, 43, 45, 42, 44, 58, 37] : List Int) y11).bind fun x19 => (cond (p0 == x19) (some (.ret true)) (gdovetailref13_Sign_L1 N p0 m (IntKind.wrap .i64 (y11 + 1)))))) (some (.out ())))

def gdovetailref13_Sign (n : Nat) (p0 : Int) : Option (Bool) := ((gdovetailref13_Sign_L1 n p0 n 0).bind fun v => match v with | .out _ => some false | .ret r30 => some r30)

def gdovetailref13_Sign_post (R : List Res) (r : Bool) (x : A) (s : St) : Prop := x = (.v (.bool r)) ∧ Hp s (R)

theorem gdovetailref13_Sign_ok {n : Nat} {p0 : Int} {R : List Res} {σ : St} (hp : Hp σ R) {r : Bool} (H : gdovetailref13_Sign n p0 = some r) : Ca cfg 26 [(.v (.int .u8 p0))] σ (gdovetailref13_Sign_post R r) := by
  unfold gdovetailref13_Sign at H
  refine Ca.enterL (G := [(0, (.v (.int .u8 p0)))]) Tryd.func26 rfl rfl rfl rfl ?_
  refine Ec.seq ?_
  refine Ec.region ?_
  refine Eo.val (x := (.v (.bool false))) rfl rfl rfl rfl ?_
  refine Eo.nil ?_
  refine Ec.seq ?_
  refine Ec.seq ?_
  refine Ec.region ?_
  refine Eo.val (x := (.sl 1 [(.v (.int .u8 40)), (.v (.int .u8 41)), (.v (.int .u8 91)), (.v (.int .u8 93)), (.v (.int .u8 43)), (.v (.int .u8 45)), (.v (.int .u8 42)), (.v (.int .u8 44)), (.v (.int .u8 58)), (.v (.int .u8 37))] .ex)) (op_buildS (lay_cons rfl rfl rfl rfl rfl (lay_cons rfl rfl rfl rfl rfl (lay_cons rfl rfl rfl rfl rfl (lay_cons rfl rfl rfl rfl rfl (lay_cons rfl rfl rfl rfl rfl (lay_cons rfl rfl rfl rfl rfl (lay_cons rfl rfl rfl rfl rfl (lay_cons rfl rfl rfl rfl rfl (lay_cons rfl rfl rfl rfl rfl (lay_cons rfl rfl rfl rfl rfl lay_nil)))))))))) rfl (parts_cons rfl rfl (parts_cons rfl rfl (parts_cons rfl rfl (parts_cons rfl rfl (parts_cons rfl rfl (parts_cons rfl rfl (parts_cons rfl rfl (parts_cons rfl rfl (parts_cons rfl rfl (parts_cons rfl rfl rfl)))))))))) Tryd.underlying61 rfl rfl rfl rfl (by decide) rfl) rfl rfl rfl ?_
  have h4 : Sl (rI .u8) (.sl 1 [(.v (.int .u8 40)), (.v (.int .u8 41)), (.v (.int .u8 91)), (.v (.int .u8 93)), (.v (.int .u8 43)), (.v (.int .u8 45)), (.v (.int .u8 42)), (.v (.int .u8 44)), (.v (.int .u8 58)), (.v (.int .u8 37))] .ex) ([40, 41, 91, 93, 43, 45, 42, 44, 58, 37] : List Int) := .inr ⟨_, _, rfl, (.cons (c := [(.v (.int .u8 40))]) rfl (.cons (c := [(.v (.int .u8 41))]) rfl (.cons (c := [(.v (.int .u8 91))]) rfl (.cons (c := [(.v (.int .u8 93))]) rfl (.cons (c := [(.v (.int .u8 43))]) rfl (.cons (c := [(.v (.int .u8 45))]) rfl (.cons (c := [(.v (.int .u8 42))]) rfl (.cons (c := [(.v (.int .u8 44))]) rfl (.cons (c := [(.v (.int .u8 58))]) rfl (.cons (c := [(.v (.int .u8 37))]) rfl .nil))))))))))⟩
  have hp3 := Hp.appEx hp 5 1 [(.v (.int .u8 40)), (.v (.int .u8 41)), (.v (.int .u8 91)), (.v (.int .u8 93)), (.v (.int .u8 43)), (.v (.int .u8 45)), (.v (.int .u8 42)), (.v (.int .u8 44)), (.v (.int .u8 58)), (.v (.int .u8 37))]
  refine Eo.val (x := (.sl 1 [(.v (.int .u8 40)), (.v (.int .u8 41)), (.v (.int .u8 91)), (.v (.int .u8 93)), (.v (.int .u8 43)), (.v (.int .u8 45)), (.v (.int .u8 42)), (.v (.int .u8 44)), (.v (.int .u8 58)), (.v (.int .u8 37))] .ex)) rfl rfl rfl rfl ?_
  refine Eo.val (x := (.v (.int .i64 ((([40, 41, 91, 93, 43, 45, 42, 44, 58, 37] : List Int).length : Nat) : Int)))) (op_lenL h4 rfl rfl rfl rfl rfl Tryd.underlying61) rfl rfl rfl ?_
  refine Eo.val (x := (.v (.int .i64 0))) rfl rfl rfl rfl ?_
  refine Eo.nil ?_
  refine Ec.block ?_
  obtain ⟨v24, hv25, H⟩ := bind_some H
  refine Ec.cut (J := (fun (v : LR Unit Bool) (x : X) (φ : Fr) (s : St) => match v with | .out _ => x = (.exit 0) ∧ (Hp s (R) ∧ Fl [] φ) | .ret r => x = .ret ∧ Ret cfg Tryd.f26 (gdovetailref13_Sign_post R r) .ret φ s) v24) (Ec.weak (.cons rfl (.cons rfl (.cons rfl (.cons rfl (.nil'))))) (Ec.loopF (f := (fun m (i : Int × Unit) => gdovetailref13_Sign_L1 n p0 m i.1)) (G := (fun (i : Int × Unit) => ([(0, (.v (.int .u8 p0))), (6, (.sl 1 [(.v (.int .u8 40)), (.v (.int .u8 41)), (.v (.int .u8 91)), (.v (.int .u8 93)), (.v (.int .u8 43)), (.v (.int .u8 45)), (.v (.int .u8 42)), (.v (.int .u8 44)), (.v (.int .u8 58)), (.v (.int .u8 37))] .ex)), (7, (.v (.int .i64 ((([40, 41, 91, 93, 43, 45, 42, 44, 58, 37] : List Int).length : Nat) : Int)))), (8, (.v (.int .i64 i.1)))] : List (Nat × A)))) (I := (fun (i : Int × Unit) (s : St) => Hp s (.app (.sl 1 [(.v (.int .u8 40)), (.v (.int .u8 41)), (.v (.int .u8 91)), (.v (.int .u8 93)), (.v (.int .u8 43)), (.v (.int .u8 45)), (.v (.int .u8 42)), (.v (.int .u8 44)), (.v (.int .u8 58)), (.v (.int .u8 37))] .ex) 5 :: R))) (J := (fun (v : LR Unit Bool) (x : X) (φ : Fr) (s : St) => match v with | .out _ => x = (.exit 0) ∧ (Hp s (R) ∧ Fl [] φ) | .ret r => x = .ret ∧ Ret cfg Tryd.f26 (gdovetailref13_Sign_post R r) .ret φ s)) (fun _ => rfl) ?_ n (0, ()) _ v24 hp3 hv25)) ?_
  · rintro m ⟨y11, _⟩ σ0 v hp0 H ih
    change gdovetailref13_Sign_L1 n p0 (m + 1) y11 = some v at H
    rw [gdovetailref13_Sign_L1] at H
    change Ec _ _ _ [(0, (.v (.int .u8 p0))), (6, (.sl 1 [(.v (.int .u8 40)), (.v (.int .u8 41)), (.v (.int .u8 91)), (.v (.int .u8 93)), (.v (.int .u8 43)), (.v (.int .u8 45)), (.v (.int .u8 42)), (.v (.int .u8 44)), (.v (.int .u8 58)), (.v (.int .u8 37))] .ex)), (7, (.v (.int .i64 ((([40, 41, 91, 93, 43, 45, 42, 44, 58, 37] : List Int).length : Nat) : Int)))), (8, (.v (.int .i64 y11)))] σ0 _
    refine Ec.seq ?_
    refine Ec.region ?_
    refine Eo.val (x := (.v (.bool (decide (y11 < ((([40, 41, 91, 93, 43, 45, 42, 44, 58, 37] : List Int).length : Nat) : Int)))))) rfl rfl rfl rfl ?_
    refine Eo.nil ?_
    refine Ec.seq ?_
    refine Ec.cond (t := (decide (y11 < ((([40, 41, 91, 93, 43, 45, 42, 44, 58, 37] : List Int).length : Nat) : Int)))) rfl (fun hc18 => ?_) (fun hc18 => ?_)
    · have H := cond_t hc18 H
      refine Ec.skip ?_
      refine Ec.seq ?_
      refine Ec.block ?_
      refine Ec.seq ?_
      refine Ec.region ?_
      obtain ⟨x19, hvx19, H⟩ := bind_some H
      refine Eo.idx h4 hvx19 rfl rfl rfl Tryd.underlying61 rfl rfl rfl rfl ?_
      rintro cs20 p21 _ hat22 rfl
      refine Eo.val (x := (.v (.int .u8 x19))) (op_loadSp hat22 0 rfl rfl rfl rfl rfl) rfl rfl rfl ?_
      refine Eo.val (x := (.v (.int .u8 x19))) rfl rfl rfl rfl ?_
      refine Eo.nil ?_
      refine Ec.seq ?_
      refine Ec.region ?_
      refine Eo.val (x := (.v (.int .u8 p0))) rfl rfl rfl rfl ?_
      refine Eo.val (x := (.v (.int .u8 x19))) rfl rfl rfl rfl ?_
      refine Eo.val (x := (.v (.bool (p0 == x19)))) rfl rfl rfl rfl ?_
      refine Eo.nil ?_
      refine Ec.cond (t := (p0 == x19)) rfl (fun hc23 => ?_) (fun hc23 => ?_)
      · have H := cond_t hc23 H
        refine Ec.seq ?_
        refine Ec.region ?_
        refine Eo.val (x := (.v (.bool true))) rfl rfl rfl rfl ?_
        refine Eo.nil ?_
        obtain rfl := Option.some.inj H
        refine Ec.ret ?_
        refine And.intro rfl (Ret.mk rfl ?_)
        exact ⟨rfl, (Hp.drop hp0 0)⟩
      · have H := cond_f hc23 H
        refine Ec.skip ?_
        refine Ec.region ?_
        refine Eo.val (x := (.v (.int .i64 (IntKind.wrap .i64 (y11 + 1))))) rfl rfl rfl rfl ?_
        refine Eo.val (x := (.v (.int .i64 (IntKind.wrap .i64 (y11 + 1))))) rfl rfl rfl rfl ?_
        refine Eo.nil ?_
        exact Ec.of (.cons rfl (.cons rfl (.cons rfl (.cons rfl (.nil'))))) (ih ((IntKind.wrap .i64 (y11 + 1)), ()) _ hp0 H)
    · have H := cond_f hc18 H
      refine Ec.exit ?_
      obtain rfl := Option.some.inj H
      exact And.intro rfl ⟨(Hp.drop hp0 0), (.nil')⟩
  · rcases v24 with _ | r30
    · intro x φ28 σ27 hJ
      obtain ⟨rfl, hp26, hf29⟩ := hJ
      refine Ec.of (F := []) hf29 ?_
      refine Ec.seq ?_
      refine Ec.region ?_
      refine Eo.val (x := (.v (.bool false))) rfl rfl rfl rfl ?_
      refine Eo.nil ?_
      obtain rfl := Option.some.inj H
      refine Ec.ret ?_
      refine Ret.mk rfl ?_
      exact ⟨rfl, hp26⟩
    · intro x φ31 σ32 hJ
      obtain rfl := Option.some.inj H
      obtain ⟨rfl, hr⟩ := hJ
      exact hr

def gdovetailref13_SameTexts_L1 (N : Nat) (p0 : (List ByteArray)) (p1 : (List ByteArray)) : Nat → Int → Option (LR Unit Bool)
  | 0, _ => none
  | m + 1, y31 => (cond (decide (y31 < ((p0.length : Nat) : Int))) (((((atL p0 y31).bind fun x67 => ((atL p1 y31).bind fun x71 => some (!decide (x67 = x71)))) : Option (Bool)).bind fun x66 => (cond x66 (some (.ret false)) (gdovetailref13_SameTexts_L1 N p0 p1 m (IntKind.wrap .i64 (y31 + 1)))))) (some (.out ())))

def gdovetailref13_SameTexts (n : Nat) (p0 : (List ByteArray)) (p1 : (List ByteArray)) : Option (Bool) := (cond (((p0.length : Nat) : Int) != ((p1.length : Nat) : Int)) (some false) (((gdovetailref13_SameTexts_L1 n p0 p1 n 0).bind fun v => match v with | .out _ => some true | .ret r88 => some r88)))

def gdovetailref13_SameTexts_post (R : List Res) (r : Bool) (x : A) (s : St) : Prop := x = (.v (.bool r)) ∧ Hp s (R)

theorem gdovetailref13_SameTexts_ok {n : Nat} {p0 : (List ByteArray)} {p1 : (List ByteArray)} {a1 a3 : A} {R : List Res} {σ : St} (h2 : Sl rS a1 p0) (h4 : Sl rS a3 p1) (hp : Hp σ R) {r : Bool} (H : gdovetailref13_SameTexts n p0 p1 = some r) : Ca cfg 24 [a1, a3] σ (gdovetailref13_SameTexts_post R r) := by
  unfold gdovetailref13_SameTexts at H
  refine Ca.enterL (G := [(0, a1), (1, a3)]) Tryd.func24 rfl rfl rfl rfl ?_
  refine Ec.seq ?_
  refine Ec.region ?_
  refine Eo.val (x := (.v (.bool false))) rfl rfl rfl rfl ?_
  refine Eo.nil ?_
  refine Ec.seq ?_
  refine Ec.seq ?_
  refine Ec.region ?_
  refine Eo.val (x := a1) rfl rfl rfl rfl ?_
  refine Eo.val (x := (.v (.int .i64 ((p0.length : Nat) : Int)))) (op_lenL h2 rfl rfl rfl rfl rfl Tryd.underlying44) rfl rfl rfl ?_
  refine Eo.val (x := a3) rfl rfl rfl rfl ?_
  refine Eo.val (x := (.v (.int .i64 ((p1.length : Nat) : Int)))) (op_lenL h4 rfl rfl rfl rfl rfl Tryd.underlying44) rfl rfl rfl ?_
  refine Eo.val (x := (.v (.bool (((p0.length : Nat) : Int) != ((p1.length : Nat) : Int))))) rfl rfl rfl rfl ?_
  refine Eo.nil ?_
  refine Ec.cond (t := (((p0.length : Nat) : Int) != ((p1.length : Nat) : Int))) rfl (fun hc5 => ?_) (fun hc5 => ?_)
  · have H := cond_t hc5 H
    refine Ec.seq ?_
    refine Ec.region ?_
    refine Eo.val (x := (.v (.bool false))) rfl rfl rfl rfl ?_
    refine Eo.nil ?_
    obtain rfl := Option.some.inj H
    refine Ec.ret ?_
    refine Ret.mk rfl ?_
    exact ⟨rfl, hp⟩
  · have H := cond_f hc5 H
    refine Ec.skip ?_
    refine Ec.seq ?_
    refine Ec.seq ?_
    refine Ec.region ?_
    refine Eo.val (x := a1) rfl rfl rfl rfl ?_
    refine Eo.val (x := (.v (.int .i64 ((p0.length : Nat) : Int)))) (op_lenL h2 rfl rfl rfl rfl rfl Tryd.underlying44) rfl rfl rfl ?_
    refine Eo.val (x := (.v (.int .i64 0))) rfl rfl rfl rfl ?_
    refine Eo.nil ?_
    refine Ec.block ?_
    obtain ⟨v82, hv83, H⟩ := bind_some H
    refine Ec.cut (J := (fun (v : LR Unit Bool) (x : X) (φ : Fr) (s : St) => match v with | .out _ => x = (.exit 0) ∧ (Hp s (R) ∧ Fl [] φ) | .ret r => x = .ret ∧ Ret cfg Tryd.f24 (gdovetailref13_SameTexts_post R r) .ret φ s) v82) (Ec.weak (.cons rfl (.cons rfl (.cons rfl (.cons rfl (.nil'))))) (Ec.loopF (f := (fun m (i : Int × Unit) => gdovetailref13_SameTexts_L1 n p0 p1 m i.1)) (G := (fun (i : Int × Unit) => ([(0, a1), (1, a3), (12, (.v (.int .i64 ((p0.length : Nat) : Int)))), (13, (.v (.int .i64 i.1)))] : List (Nat × A)))) (I := (fun (i : Int × Unit) (s : St) => Hp s (R))) (J := (fun (v : LR Unit Bool) (x : X) (φ : Fr) (s : St) => match v with | .out _ => x = (.exit 0) ∧ (Hp s (R) ∧ Fl [] φ) | .ret r => x = .ret ∧ Ret cfg Tryd.f24 (gdovetailref13_SameTexts_post R r) .ret φ s)) (fun _ => rfl) ?_ n (0, ()) _ v82 hp hv83)) ?_
    · rintro m ⟨y31, _⟩ σ0 v hp0 H ih
      change gdovetailref13_SameTexts_L1 n p0 p1 (m + 1) y31 = some v at H
      rw [gdovetailref13_SameTexts_L1] at H
      change Ec _ _ _ [(0, a1), (1, a3), (12, (.v (.int .i64 ((p0.length : Nat) : Int)))), (13, (.v (.int .i64 y31)))] σ0 _
      refine Ec.seq ?_
      refine Ec.region ?_
      refine Eo.val (x := (.v (.bool (decide (y31 < ((p0.length : Nat) : Int)))))) rfl rfl rfl rfl ?_
      refine Eo.nil ?_
      refine Ec.seq ?_
      refine Ec.cond (t := (decide (y31 < ((p0.length : Nat) : Int)))) rfl (fun hc57 => ?_) (fun hc57 => ?_)
      · have H := cond_t hc57 H
        refine Ec.skip ?_
        refine Ec.seq ?_
        refine Ec.block ?_
        refine Ec.seq ?_
        refine Ec.region ?_
        refine Eo.val (x := (.v (.int .i64 y31))) rfl rfl rfl rfl ?_
        refine Eo.val (x := (.v (.int .i64 y31))) rfl rfl rfl rfl ?_
        refine Eo.nil ?_
        refine Ec.seq ?_
        obtain ⟨x66, hv81, H⟩ := bind_some H
        refine Ec.cut (J := (fun (x66 : Bool) (x : X) (φ : Fr) (s : St) => x = .normal ∧ (Hp s (R) ∧ Fl [(0, a1), (1, a3), (12, (.v (.int .i64 ((p0.length : Nat) : Int)))), (13, (.v (.int .i64 y31))), (24, (.v (.bool x66)))] φ)) x66) ?_ ?_
        · have H := hv81
          refine Ec.drawn (by kernel_rfl) ?_
          refine Eo.val (x := a1) rfl rfl rfl rfl ?_
          refine Eo.val (x := (.v (.int .i64 y31))) rfl rfl rfl rfl ?_
          obtain ⟨x67, hvx67, H⟩ := bind_some H
          refine Eo.idx h2 hvx67 rfl rfl rfl Tryd.underlying44 rfl rfl rfl rfl ?_
          rintro cs68 p69 _ hat70 rfl
          refine Eo.val (x := (.v (.string x67))) (op_loadSp hat70 0 rfl rfl rfl rfl rfl) rfl rfl rfl ?_
          refine Eo.val (x := a3) rfl rfl rfl rfl ?_
          refine Eo.val (x := (.v (.int .i64 y31))) rfl rfl rfl rfl ?_
          obtain ⟨x71, hvx71, H⟩ := bind_some H
          refine Eo.idx h4 hvx71 rfl rfl rfl Tryd.underlying44 rfl rfl rfl rfl ?_
          rintro cs72 p73 _ hat74 rfl
          refine Eo.val (x := (.v (.string x71))) (op_loadSp hat74 0 rfl rfl rfl rfl rfl) rfl rfl rfl ?_
          refine Eo.val (x := (.v (.bool (!decide (x67 = x71))))) (val_b rfl (sne_eq _ _)) rfl rfl rfl ?_
          refine Eo.nil ?_
          obtain rfl := Option.some.inj H
          exact And.intro rfl (And.intro rfl ⟨hp0, (.cons rfl (.cons rfl (.cons rfl (.cons rfl (.cons rfl (.nil'))))))⟩)
        · skip
          intro x φ77 σ76 hJ
          obtain ⟨rfl, hp75, hf78⟩ := hJ
          refine Ec.of (F := [(0, a1), (1, a3), (12, (.v (.int .i64 ((p0.length : Nat) : Int)))), (13, (.v (.int .i64 y31))), (24, (.v (.bool x66)))]) hf78 ?_
          refine Ec.cond (t := x66) rfl (fun hc79 => ?_) (fun hc79 => ?_)
          · have H := cond_t hc79 H
            refine Ec.seq ?_
            refine Ec.region ?_
            refine Eo.val (x := (.v (.bool false))) rfl rfl rfl rfl ?_
            refine Eo.nil ?_
            obtain rfl := Option.some.inj H
            refine Ec.ret ?_
            refine And.intro rfl (Ret.mk rfl ?_)
            exact ⟨rfl, hp75⟩
          · have H := cond_f hc79 H
            refine Ec.skip ?_
            refine Ec.region ?_
            refine Eo.val (x := (.v (.int .i64 (IntKind.wrap .i64 (y31 + 1))))) rfl rfl rfl rfl ?_
            refine Eo.val (x := (.v (.int .i64 (IntKind.wrap .i64 (y31 + 1))))) rfl rfl rfl rfl ?_
            refine Eo.nil ?_
            exact Ec.of (.cons rfl (.cons rfl (.cons rfl (.cons rfl (.nil'))))) (ih ((IntKind.wrap .i64 (y31 + 1)), ()) _ hp75 H)
      · have H := cond_f hc57 H
        refine Ec.exit ?_
        obtain rfl := Option.some.inj H
        exact And.intro rfl ⟨hp0, (.nil')⟩
    · rcases v82 with _ | r88
      · intro x φ86 σ85 hJ
        obtain ⟨rfl, hp84, hf87⟩ := hJ
        refine Ec.of (F := []) hf87 ?_
        refine Ec.seq ?_
        refine Ec.region ?_
        refine Eo.val (x := (.v (.bool true))) rfl rfl rfl rfl ?_
        refine Eo.nil ?_
        obtain rfl := Option.some.inj H
        refine Ec.ret ?_
        refine Ret.mk rfl ?_
        exact ⟨rfl, hp84⟩
      · intro x φ89 σ90 hJ
        obtain rfl := Option.some.inj H
        obtain ⟨rfl, hr⟩ := hJ
        exact hr

def gdovetailref13_Split_L1 (N : Nat) (p0 : ByteArray) : Nat → (List ByteArray) → Int → Int → Option (((List ByteArray) × Int))
  | 0, _, _, _ => none
  | m + 1, y39, y42, y43 => (cond (decide (y43 < ((p0.size : Nat) : Int))) (((((atS p0 y43).bind fun b100 => (cond (b100 == 10) (((subS p0 y42 y43).bind fun s102 => ((appL 16 y39 ([s102] : List ByteArray)).bind fun l107 => some (l107, (IntKind.wrap .i64 (y43 + 1)))))) (some (y39, y42)))) : Option (((List ByteArray) × Int))).bind fun v => match v with | (x96, x99) => gdovetailref13_Split_L1 N p0 m x96 x99 (IntKind.wrap .i64 (y43 + 1)))) (some (y39, y42)))

def gdovetailref13_Split (n : Nat) (p0 : ByteArray) : Option ((List ByteArray)) := ((gdovetailref13_Split_L1 n p0 n ([] : List ByteArray) 0 0).bind fun v => match v with | (x79, x82) => (((cond (decide (x82 < ((p0.size : Nat) : Int))) (((subS p0 x82 ((p0.size : Nat) : Int)).bind fun s139 => ((appL 16 x79 ([s139] : List ByteArray)).bind fun l144 => some l144))) (some x79)) : Option ((List ByteArray))).bind fun x135 => some x135))

def gdovetailref13_Split_post (R : List Res) (r : (List ByteArray)) (x : A) (s : St) : Prop := ∃ (a155 : A), x = a155 ∧ Sl rS a155 r ∧ Hp s (.app a155 9 :: R)

theorem gdovetailref13_Split_ok {n : Nat} {p0 : ByteArray} {R : List Res} {σ : St} (hp : Hp σ R) {r : (List ByteArray)} (H : gdovetailref13_Split n p0 = some r) : Ca cfg 20 [(.v (.string p0))] σ (gdovetailref13_Split_post R r) := by
  unfold gdovetailref13_Split at H
  refine Ca.enterL (G := [(0, (.v (.string p0)))]) Tryd.func20 rfl rfl rfl rfl ?_
  refine Ec.seq ?_
  refine Ec.region ?_
  refine Eo.val (x := nilS) rfl rfl rfl rfl ?_
  refine Eo.nil ?_
  refine Ec.seq ?_
  refine Ec.region ?_
  refine Eo.val (x := (.sl 1 [] .ex)) rfl rfl rfl rfl ?_
  have hp3 := Hp.appEx hp 9 1 []
  refine Eo.val (x := (.sl 1 [] .ex)) rfl rfl rfl rfl ?_
  refine Eo.nil ?_
  refine Ec.seq ?_
  refine Ec.region ?_
  refine Eo.val (x := (.v (.int .i64 0))) rfl rfl rfl rfl ?_
  refine Eo.nil ?_
  refine Ec.seq ?_
  refine Ec.seq ?_
  refine Ec.region ?_
  refine Eo.val (x := (.v (.int .i64 0))) rfl rfl rfl rfl ?_
  refine Eo.nil ?_
  refine Ec.block ?_
  obtain ⟨v118, hv119, H⟩ := bind_some H
  refine Ec.cut (J := (fun (v : ((List ByteArray) × Int)) (x : X) (φ : Fr) (s : St) => match v with | (x79, x82) => x = (.exit 0) ∧ (∃ (a80 : A), Sl rS a80 x79 ∧ Hp s (.app a80 9 :: R) ∧ Fl [(0, (.v (.string p0))), (3, a80), (4, (.v (.int .i64 x82)))] φ)) v118) (Ec.weak (.cons rfl (.cons rfl (.cons rfl (.cons rfl (.nil'))))) (Ec.loopF (f := (fun m (i : ((List ByteArray) × Int × Int) × A) => gdovetailref13_Split_L1 n p0 m i.1.1 i.1.2.1 i.1.2.2)) (G := (fun (i : ((List ByteArray) × Int × Int) × A) => ([(0, (.v (.string p0))), (3, i.2), (4, (.v (.int .i64 i.1.2.1))), (5, (.v (.int .i64 i.1.2.2)))] : List (Nat × A)))) (I := (fun (i : ((List ByteArray) × Int × Int) × A) (s : St) => Sl rS i.2 i.1.1 ∧ Hp s (.app i.2 9 :: R))) (J := (fun (v : ((List ByteArray) × Int)) (x : X) (φ : Fr) (s : St) => match v with | (x79, x82) => x = (.exit 0) ∧ (∃ (a80 : A), Sl rS a80 x79 ∧ Hp s (.app a80 9 :: R) ∧ Fl [(0, (.v (.string p0))), (3, a80), (4, (.v (.int .i64 x82)))] φ))) (fun _ => rfl) ?_ n ((([] : List ByteArray), 0, 0), (.sl 1 [] .ex)) _ v118 ⟨(.inr ⟨_, _, rfl, .nil⟩ : Sl rS (.sl 1 [] .ex) ([] : List ByteArray)), hp3⟩ hv119)) ?_
  · rintro m ⟨⟨y39, y42, y43⟩, a40⟩ σ0 v ⟨h41, hp0⟩ H ih
    change gdovetailref13_Split_L1 n p0 (m + 1) y39 y42 y43 = some v at H
    rw [gdovetailref13_Split_L1] at H
    change Ec _ _ _ [(0, (.v (.string p0))), (3, a40), (4, (.v (.int .i64 y42))), (5, (.v (.int .i64 y43)))] σ0 _
    refine Ec.seq ?_
    refine Ec.seq ?_
    refine Ec.region ?_
    refine Eo.val (x := (.v (.int .i64 y43))) rfl rfl rfl rfl ?_
    refine Eo.val (x := (.v (.string p0))) rfl rfl rfl rfl ?_
    refine Eo.val (x := (.v (.int .i64 ((p0.size : Nat) : Int)))) (op_len rfl rfl rfl rfl rfl Tryd.underlying9) rfl rfl rfl ?_
    refine Eo.val (x := (.v (.bool (decide (y43 < ((p0.size : Nat) : Int)))))) rfl rfl rfl rfl ?_
    refine Eo.nil ?_
    refine Ec.cond (t := (decide (y43 < ((p0.size : Nat) : Int)))) rfl (fun hc83 => ?_) (fun hc83 => ?_)
    · have H := cond_t hc83 H
      refine Ec.skip ?_
      refine Ec.seq ?_
      obtain ⟨v116, hv117, H⟩ := bind_some H
      refine Ec.cut (J := (fun (v : ((List ByteArray) × Int)) (x : X) (φ : Fr) (s : St) => match v with | (x96, x99) => x = .normal ∧ (∃ (a97 : A), Sl rS a97 x96 ∧ Hp s (.app a97 9 :: R) ∧ Fl [(0, (.v (.string p0))), (3, a97), (4, (.v (.int .i64 x99))), (5, (.v (.int .i64 y43)))] φ)) v116) ?_ ?_
      · have H := hv117
        refine Ec.block ?_
        refine Ec.seq ?_
        refine Ec.region ?_
        refine Eo.val (x := (.v (.string p0))) rfl rfl rfl rfl ?_
        refine Eo.val (x := (.v (.int .i64 y43))) rfl rfl rfl rfl ?_
        obtain ⟨b100, hvb100, H⟩ := bind_some H
        refine Eo.val (op_byteS hvb100 rfl rfl rfl Tryd.underlying9) rfl rfl rfl ?_
        refine Eo.val (x := (.v (.bool (b100 == 10)))) rfl rfl rfl rfl ?_
        refine Eo.nil ?_
        refine Ec.cond (t := (b100 == 10)) rfl (fun hc101 => ?_) (fun hc101 => ?_)
        · have H := cond_t hc101 H
          refine Ec.seq ?_
          refine Ec.region ?_
          refine Eo.val (x := a40) rfl rfl rfl rfl ?_
          refine Eo.val (x := (.v (.string p0))) rfl rfl rfl rfl ?_
          refine Eo.val (x := (.v (.int .i64 y42))) rfl rfl rfl rfl ?_
          refine Eo.val (x := (.v (.int .i64 y43))) rfl rfl rfl rfl ?_
          obtain ⟨s102, hvs102, H⟩ := bind_some H
          refine Eo.val (op_partS hvs102 rfl rfl Tryd.underlying9 (.inr ⟨_, _, rfl, rfl⟩) (.inr ⟨_, _, rfl, rfl⟩)) rfl rfl rfl ?_
          refine Eo.val (x := (.sl 1 [(.v (.string s102))] .ex)) (op_buildS (lay_cons rfl rfl rfl rfl rfl lay_nil) rfl (parts_cons rfl rfl rfl) Tryd.underlying44 rfl rfl rfl rfl (by decide) rfl) rfl rfl rfl ?_
          have h106 : Sl rS (.sl 1 [(.v (.string s102))] .ex) ([s102] : List ByteArray) := .inr ⟨_, _, rfl, (.cons (c := [(.v (.string s102))]) rfl .nil)⟩
          have hp105 := Hp.appEx hp0 9 1 [(.v (.string s102))]
          obtain ⟨l107, hvl107, H⟩ := bind_some H
          refine Eo.append hp105 1 rfl h41 (New.of h106) hvl107 rfl rfl rfl rfl rfl rfl rfl Tryd.underlying44 rfl Tryd.underlying44 rfl rfl rfl rfl rfl rfl rfl rfl ?_
          intro a108 σ111 h109 hp110
          change Hp σ111 (.app (.sl 1 [(.v (.string s102))] .ex) 9 :: .app a108 9 :: R) at hp110
          refine Eo.val (x := a108) rfl rfl rfl rfl ?_
          refine Eo.nil ?_
          refine Ec.region ?_
          refine Eo.val (x := (.v (.int .i64 y43))) rfl rfl rfl rfl ?_
          refine Eo.val (x := (.v (.int .i64 (IntKind.wrap .i64 (y43 + 1))))) rfl rfl rfl rfl ?_
          refine Eo.val (x := (.v (.int .i64 (IntKind.wrap .i64 (y43 + 1))))) rfl rfl rfl rfl ?_
          refine Eo.nil ?_
          obtain rfl := Option.some.inj H
          exact And.intro rfl ⟨a108, h109, (Hp.drop hp110 0), (.cons rfl (.cons rfl (.cons rfl (.cons rfl (.nil')))))⟩
        · have H := cond_f hc101 H
          refine Ec.skip ?_
          obtain rfl := Option.some.inj H
          exact And.intro rfl ⟨a40, h41, hp0, (.cons rfl (.cons rfl (.cons rfl (.cons rfl (.nil')))))⟩
      · skip
        intro x φ114 σ113 hJ
        obtain ⟨x96, x99⟩ := v116
        obtain ⟨rfl, a97, h98, hp112, hf115⟩ := hJ
        refine Ec.of (F := [(0, (.v (.string p0))), (3, a97), (4, (.v (.int .i64 x99))), (5, (.v (.int .i64 y43)))]) hf115 ?_
        refine Ec.region ?_
        refine Eo.val (x := (.v (.int .i64 y43))) rfl rfl rfl rfl ?_
        refine Eo.val (x := (.v (.int .i64 (IntKind.wrap .i64 (y43 + 1))))) rfl rfl rfl rfl ?_
        refine Eo.val (x := (.v (.int .i64 (IntKind.wrap .i64 (y43 + 1))))) rfl rfl rfl rfl ?_
        refine Eo.nil ?_
        exact Ec.of (.cons rfl (.cons rfl (.cons rfl (.cons rfl (.nil'))))) (ih ((x96, x99, (IntKind.wrap .i64 (y43 + 1))), a97) _ ⟨h98, hp112⟩ H)
    · have H := cond_f hc83 H
      refine Ec.exit ?_
      obtain rfl := Option.some.inj H
      exact And.intro rfl ⟨a40, h41, hp0, (.cons rfl (.cons rfl (.cons rfl (.nil'))))⟩
  · skip
    intro x φ122 σ121 hJ
    obtain ⟨x79, x82⟩ := v118
    obtain ⟨rfl, a80, h81, hp120, hf123⟩ := hJ
    refine Ec.of (F := [(0, (.v (.string p0))), (3, a80), (4, (.v (.int .i64 x82)))]) hf123 ?_
    refine Ec.seq ?_
    refine Ec.seq ?_
    refine Ec.region ?_
    refine Eo.val (x := (.v (.int .i64 x82))) rfl rfl rfl rfl ?_
    refine Eo.val (x := (.v (.string p0))) rfl rfl rfl rfl ?_
    refine Eo.val (x := (.v (.int .i64 ((p0.size : Nat) : Int)))) (op_len rfl rfl rfl rfl rfl Tryd.underlying9) rfl rfl rfl ?_
    refine Eo.val (x := (.v (.bool (decide (x82 < ((p0.size : Nat) : Int)))))) rfl rfl rfl rfl ?_
    refine Eo.nil ?_
    obtain ⟨x135, hv154, H⟩ := bind_some H
    refine Ec.cut (J := (fun (x135 : (List ByteArray)) (x : X) (φ : Fr) (s : St) => x = .normal ∧ (∃ (a136 : A), Sl rS a136 x135 ∧ Hp s (.app a136 9 :: R) ∧ Fl [(3, a136)] φ)) x135) ?_ ?_
    · have H := hv154
      refine Ec.cond (t := (decide (x82 < ((p0.size : Nat) : Int)))) rfl (fun hc138 => ?_) (fun hc138 => ?_)
      · have H := cond_t hc138 H
        refine Ec.region ?_
        refine Eo.val (x := a80) rfl rfl rfl rfl ?_
        refine Eo.val (x := (.v (.string p0))) rfl rfl rfl rfl ?_
        refine Eo.val (x := (.v (.int .i64 x82))) rfl rfl rfl rfl ?_
        obtain ⟨s139, hvs139, H⟩ := bind_some H
        refine Eo.val (op_partS hvs139 rfl rfl Tryd.underlying9 (.inr ⟨_, _, rfl, rfl⟩) (.inl ⟨rfl, rfl⟩)) rfl rfl rfl ?_
        refine Eo.val (x := (.sl 1 [(.v (.string s139))] .ex)) (op_buildS (lay_cons rfl rfl rfl rfl rfl lay_nil) rfl (parts_cons rfl rfl rfl) Tryd.underlying44 rfl rfl rfl rfl (by decide) rfl) rfl rfl rfl ?_
        have h143 : Sl rS (.sl 1 [(.v (.string s139))] .ex) ([s139] : List ByteArray) := .inr ⟨_, _, rfl, (.cons (c := [(.v (.string s139))]) rfl .nil)⟩
        have hp142 := Hp.appEx hp120 9 1 [(.v (.string s139))]
        obtain ⟨l144, hvl144, H⟩ := bind_some H
        refine Eo.append hp142 1 rfl h81 (New.of h143) hvl144 rfl rfl rfl rfl rfl rfl rfl Tryd.underlying44 rfl Tryd.underlying44 rfl rfl rfl rfl rfl rfl rfl rfl ?_
        intro a145 σ148 h146 hp147
        change Hp σ148 (.app (.sl 1 [(.v (.string s139))] .ex) 9 :: .app a145 9 :: R) at hp147
        refine Eo.val (x := a145) rfl rfl rfl rfl ?_
        refine Eo.nil ?_
        obtain rfl := Option.some.inj H
        exact And.intro rfl ⟨a145, h146, (Hp.drop hp147 0), (.cons rfl (.nil'))⟩
      · have H := cond_f hc138 H
        refine Ec.skip ?_
        obtain rfl := Option.some.inj H
        exact And.intro rfl ⟨a80, h81, hp120, (.cons rfl (.nil'))⟩
    · skip
      intro x φ151 σ150 hJ
      obtain ⟨rfl, a136, h137, hp149, hf152⟩ := hJ
      refine Ec.of (F := [(3, a136)]) hf152 ?_
      refine Ec.seq ?_
      refine Ec.region ?_
      refine Eo.val (x := a136) rfl rfl rfl rfl ?_
      refine Eo.val (x := a136) rfl rfl rfl rfl ?_
      refine Eo.nil ?_
      obtain rfl := Option.some.inj H
      refine Ec.ret ?_
      refine Ret.mk rfl ?_
      exact ⟨a136, rfl, h137, hp149⟩

def gdovetailref13_text_L1 (N : Nat) (p0 : ByteArray) : Nat → (List Int) → Int → Option (LR Unit (ByteArray × Int × Bool))
  | 0, _, _ => none
  | m + 1, y296, y299 => (cond (decide (y299 < ((p0.size : Nat) : Int))) (((atS p0 y299).bind fun b593 => (cond (b593 == 34) (some (.ret ((ofB y296), (IntKind.wrap .i64 (y299 + 1)), true))) ((cond ((decide (b593 < 32)) || (decide (b593 > 126))) (some (.ret ((ByteArray.mk #[]), 0, false))) ((cond (b593 != 92) (((appL 1 y296 ([b593] : List Int)).bind fun l606 => gdovetailref13_text_L1 N p0 m l606 (IntKind.wrap .i64 (y299 + 1)))) ((cond (decide ((IntKind.wrap .i64 (y299 + 1)) ≥ ((p0.size : Nat) : Int))) (some (.ret ((ByteArray.mk #[]), 0, false))) (((atS p0 (IntKind.wrap .i64 (y299 + 1))).bind fun b612 => (((cond (b612 == 110) (((appL 1 y296 ([10] : List Int)).bind fun l751 => some (.out (l751, y299)))) ((cond (b612 == 116) (((appL 1 y296 ([9] : List Int)).bind fun l761 => some (.out (l761, y299)))) ((cond (b612 == 48) (((appL 1 y296 ([0] : List Int)).bind fun l771 => some (.out (l771, y299)))) ((((cond (b612 == 92) (some (b612 == 92)) (some (b612 == 34))) : Option (Bool)).bind fun x777 => (cond x777 (((atS p0 (IntKind.wrap .i64 (y299 + 1))).bind fun b784 => ((appL 1 y296 ([b784] : List Int)).bind fun l789 => some (.out (l789, y299))))) ((cond (b612 == 120) ((((cond (decide ((IntKind.wrap .i64 (y299 + 3)) ≥ ((p0.size : Nat) : Int))) (some true) (((atS p0 (IntKind.wrap .i64 (y299 + 2))).bind fun b802 => ((gdovetailref13_hex N b802).bind fun r803 => some (decide (r803 < 0)))))) : Option (Bool)).bind fun x800 => (((cond x800 (some true) (((atS p0 (IntKind.wrap .i64 (y299 + 3))).bind fun b817 => ((gdovetailref13_hex N b817).bind fun r818 => some (decide (r818 < 0)))))) : Option (Bool)).bind fun x815 => (cond x815 (some (.ret ((ByteArray.mk #[]), 0, false))) (((((atS p0 (IntKind.wrap .i64 (y299 + 2))).bind fun b846 => ((gdovetailref13_hex N b846).bind fun r847 => ((atS p0 (IntKind.wrap .i64 (y299 + 3))).bind fun b850 => ((gdovetailref13_hex N b850).bind fun r851 => ((appL 1 y296 ([(IntKind.wrap .u8 (IntKind.wrap .i64 ((IntKind.wrap .i64 (r847 * 16)) + r851)))] : List Int)).bind fun l858 => some l858))))) : Option ((List Int))).bind fun x843 => some (.out (x843, (IntKind.wrap .i64 (y299 + 2)))))))))) (some (.ret ((ByteArray.mk #[]), 0, false))))))))))))) : Option (LR ((List Int) × Int) (ByteArray × Int × Bool))).bind fun v => match v with | .out (x742, x745) => gdovetailref13_text_L1 N p0 m x742 (IntKind.wrap .i64 (x745 + 2)) | .ret r879 => some (.ret r879))))))))))))) (some (.out ())))

def gdovetailref13_text (n : Nat) (p0 : ByteArray) (p1 : Int) : Option ((ByteArray × Int × Bool)) := ((gdovetailref13_text_L1 n p0 n ([] : List Int) (IntKind.wrap .i64 (p1 + 1))).bind fun v => match v with | .out _ => some ((ByteArray.mk #[]), 0, false) | .ret r890 => some r890)

def gdovetailref13_text_post (R : List Res) (r : (ByteArray × Int × Bool)) (x : A) (s : St) : Prop := x = (.tup [(.v (.string r.1)), (.v (.int .i64 r.2.1)), (.v (.bool r.2.2))]) ∧ Hp s (R)

theorem gdovetailref13_text_ok {n : Nat} {p0 : ByteArray} {p1 : Int} {R : List Res} {σ : St} (hp : Hp σ R) {r : (ByteArray × Int × Bool)} (H : gdovetailref13_text n p0 p1 = some r) : Ca cfg 25 [(.v (.string p0)), (.v (.int .i64 p1))] σ (gdovetailref13_text_post R r) := by
  unfold gdovetailref13_text at H
  refine Ca.enterL (G := [(0, (.v (.string p0))), (1, (.v (.int .i64 p1)))]) Tryd.func25 rfl rfl rfl rfl ?_
  refine Ec.seq ?_
  refine Ec.region ?_
  refine Eo.val (x := (.v (.string (ByteArray.mk #[])))) rfl rfl rfl rfl ?_
  refine Eo.val (x := (.v (.int .i64 0))) rfl rfl rfl rfl ?_
  refine Eo.val (x := (.v (.bool false))) rfl rfl rfl rfl ?_
  refine Eo.nil ?_
  refine Ec.seq ?_
  refine Ec.region ?_
  refine Eo.val (x := (.sl 1 [] .ex)) rfl rfl rfl rfl ?_
  have hp3 := Hp.appEx hp 5 1 []
  refine Eo.val (x := (.sl 1 [] .ex)) rfl rfl rfl rfl ?_
  refine Eo.nil ?_
  refine Ec.seq ?_
  refine Ec.region ?_
  refine Eo.val (x := (.v (.int .i64 p1))) rfl rfl rfl rfl ?_
  refine Eo.val (x := (.v (.int .i64 (IntKind.wrap .i64 (p1 + 1))))) rfl rfl rfl rfl ?_
  refine Eo.val (x := (.v (.int .i64 (IntKind.wrap .i64 (p1 + 1))))) rfl rfl rfl rfl ?_
  refine Eo.nil ?_
  refine Ec.seq ?_
  refine Ec.block ?_
  obtain ⟨v884, hv885, H⟩ := bind_some H
  refine Ec.cut (J := (fun (v : LR Unit (ByteArray × Int × Bool)) (x : X) (φ : Fr) (s : St) => match v with | .out _ => x = (.exit 0) ∧ (Hp s (R) ∧ Fl [] φ) | .ret r => x = .ret ∧ Ret cfg Tryd.f25 (gdovetailref13_text_post R r) .ret φ s) v884) (Ec.weak (.cons rfl (.cons rfl (.cons rfl (.nil')))) (Ec.loopF (f := (fun m (i : ((List Int) × Int) × A) => gdovetailref13_text_L1 n p0 m i.1.1 i.1.2)) (G := (fun (i : ((List Int) × Int) × A) => ([(0, (.v (.string p0))), (7, i.2), (8, (.v (.int .i64 i.1.2)))] : List (Nat × A)))) (I := (fun (i : ((List Int) × Int) × A) (s : St) => Sl (rI .u8) i.2 i.1.1 ∧ Hp s (.app i.2 5 :: R))) (J := (fun (v : LR Unit (ByteArray × Int × Bool)) (x : X) (φ : Fr) (s : St) => match v with | .out _ => x = (.exit 0) ∧ (Hp s (R) ∧ Fl [] φ) | .ret r => x = .ret ∧ Ret cfg Tryd.f25 (gdovetailref13_text_post R r) .ret φ s)) (fun _ => rfl) ?_ n ((([] : List Int), (IntKind.wrap .i64 (p1 + 1))), (.sl 1 [] .ex)) _ v884 ⟨(.inr ⟨_, _, rfl, .nil⟩ : Sl (rI .u8) (.sl 1 [] .ex) ([] : List Int)), hp3⟩ hv885)) ?_
  · rintro m ⟨⟨y296, y299⟩, a297⟩ σ0 v ⟨h298, hp0⟩ H ih
    change gdovetailref13_text_L1 n p0 (m + 1) y296 y299 = some v at H
    rw [gdovetailref13_text_L1] at H
    change Ec _ _ _ [(0, (.v (.string p0))), (7, a297), (8, (.v (.int .i64 y299)))] σ0 _
    refine Ec.seq ?_
    refine Ec.seq ?_
    refine Ec.region ?_
    refine Eo.val (x := (.v (.int .i64 y299))) rfl rfl rfl rfl ?_
    refine Eo.val (x := (.v (.string p0))) rfl rfl rfl rfl ?_
    refine Eo.val (x := (.v (.int .i64 ((p0.size : Nat) : Int)))) (op_len rfl rfl rfl rfl rfl Tryd.underlying9) rfl rfl rfl ?_
    refine Eo.val (x := (.v (.bool (decide (y299 < ((p0.size : Nat) : Int)))))) rfl rfl rfl rfl ?_
    refine Eo.nil ?_
    refine Ec.cond (t := (decide (y299 < ((p0.size : Nat) : Int)))) rfl (fun hc592 => ?_) (fun hc592 => ?_)
    · have H := cond_t hc592 H
      refine Ec.skip ?_
      refine Ec.block ?_
      refine Ec.seq ?_
      refine Ec.region ?_
      refine Eo.val (x := (.v (.string p0))) rfl rfl rfl rfl ?_
      refine Eo.val (x := (.v (.int .i64 y299))) rfl rfl rfl rfl ?_
      obtain ⟨b593, hvb593, H⟩ := bind_some H
      refine Eo.val (op_byteS hvb593 rfl rfl rfl Tryd.underlying9) rfl rfl rfl ?_
      refine Eo.val (x := (.v (.int .u8 b593))) rfl rfl rfl rfl ?_
      refine Eo.nil ?_
      refine Ec.seq ?_
      refine Ec.seq ?_
      refine Ec.region ?_
      refine Eo.val (x := (.v (.int .u8 b593))) rfl rfl rfl rfl ?_
      refine Eo.val (x := (.v (.bool (b593 == 34)))) rfl rfl rfl rfl ?_
      refine Eo.nil ?_
      refine Ec.cond (t := (b593 == 34)) rfl (fun hc594 => ?_) (fun hc594 => ?_)
      · have H := cond_t hc594 H
        refine Ec.seq ?_
        refine Ec.region ?_
        refine Eo.val (x := a297) rfl rfl rfl rfl ?_
        refine Eo.val (op_b2s h298 rfl rfl Tryd.underlying61 Tryd.underlying9 Tryd.underlying5 (fun h => by subst h; rfl)) rfl rfl rfl ?_
        refine Eo.val (x := (.v (.int .i64 y299))) rfl rfl rfl rfl ?_
        refine Eo.val (x := (.v (.int .i64 (IntKind.wrap .i64 (y299 + 1))))) rfl rfl rfl rfl ?_
        refine Eo.val (x := (.v (.string (ofB y296)))) rfl rfl rfl rfl ?_
        refine Eo.val (x := (.v (.int .i64 (IntKind.wrap .i64 (y299 + 1))))) rfl rfl rfl rfl ?_
        refine Eo.val (x := (.v (.bool true))) rfl rfl rfl rfl ?_
        refine Eo.nil ?_
        obtain rfl := Option.some.inj H
        refine Ec.ret ?_
        refine And.intro rfl (Ret.mk rfl ?_)
        exact ⟨rfl, (Hp.drop hp0 0)⟩
      · have H := cond_f hc594 H
        refine Ec.skip ?_
        refine Ec.seq ?_
        refine Ec.seq ?_
        refine Ec.region ?_
        refine Eo.val (x := (.v (.int .u8 b593))) rfl rfl rfl rfl ?_
        refine Eo.val (x := (.v (.bool (decide (b593 < 32))))) rfl rfl rfl rfl ?_
        refine Eo.val (x := (.v (.bool (decide (b593 < 32))))) rfl rfl rfl rfl ?_
        refine Eo.cutF 3 [(0, (.v (.string p0))), (7, a297), (8, (.v (.int .i64 y299))), (9, (.v (.int .u8 b593))), (31, (.v (.bool ((decide (b593 < 32)) || (decide (b593 > 126))))))] ?_ ?_
        · skip
          cases hc597 : (decide (b593 < 32))
          · skip
            refine Eo.val (x := (.v (.int .u8 b593))) rfl rfl rfl rfl ?_
            refine Eo.val (x := (.v (.bool (decide (b593 > 126))))) rfl rfl rfl rfl ?_
            refine Eo.val (x := (.v (.bool (decide (b593 > 126))))) rfl rfl rfl rfl ?_
            exact Eo.nil (And.intro rfl (And.intro rfl (.cons rfl (.cons rfl (.cons rfl (.cons rfl (.cons rfl (.nil'))))))))
          · skip
            refine Eo.off rfl rfl rfl ?_
            refine Eo.off rfl rfl rfl ?_
            refine Eo.val (x := (.v (.bool true))) rfl rfl rfl rfl ?_
            exact Eo.nil (And.intro rfl (And.intro rfl (.cons rfl (.cons rfl (.cons rfl (.cons rfl (.cons rfl (.nil'))))))))
        · skip
          refine Eo.nil ?_
          refine Ec.cond (t := ((decide (b593 < 32)) || (decide (b593 > 126)))) rfl (fun hc600 => ?_) (fun hc600 => ?_)
          · have H := cond_t hc600 H
            refine Ec.seq ?_
            refine Ec.region ?_
            refine Eo.val (x := (.v (.string (ByteArray.mk #[])))) rfl rfl rfl rfl ?_
            refine Eo.val (x := (.v (.int .i64 0))) rfl rfl rfl rfl ?_
            refine Eo.val (x := (.v (.bool false))) rfl rfl rfl rfl ?_
            refine Eo.nil ?_
            obtain rfl := Option.some.inj H
            refine Ec.ret ?_
            refine And.intro rfl (Ret.mk rfl ?_)
            exact ⟨rfl, (Hp.drop hp0 0)⟩
          · have H := cond_f hc600 H
            refine Ec.skip ?_
            refine Ec.seq ?_
            refine Ec.seq ?_
            refine Ec.region ?_
            refine Eo.val (x := (.v (.int .u8 b593))) rfl rfl rfl rfl ?_
            refine Eo.val (x := (.v (.bool (b593 != 92)))) rfl rfl rfl rfl ?_
            refine Eo.nil ?_
            refine Ec.cond (t := (b593 != 92)) rfl (fun hc601 => ?_) (fun hc601 => ?_)
            · have H := cond_t hc601 H
              refine Ec.seq ?_
              refine Ec.region ?_
              refine Eo.val (x := a297) rfl rfl rfl rfl ?_
              refine Eo.val (x := (.v (.int .u8 b593))) rfl rfl rfl rfl ?_
              refine Eo.val (x := (.sl 1 [(.v (.int .u8 b593))] .ex)) (op_buildS (lay_cons rfl rfl rfl rfl rfl lay_nil) rfl (parts_cons rfl rfl rfl) Tryd.underlying61 rfl rfl rfl rfl (by decide) rfl) rfl rfl rfl ?_
              have h605 : Sl (rI .u8) (.sl 1 [(.v (.int .u8 b593))] .ex) ([b593] : List Int) := .inr ⟨_, _, rfl, (.cons (c := [(.v (.int .u8 b593))]) rfl .nil)⟩
              have hp604 := Hp.appEx hp0 5 1 [(.v (.int .u8 b593))]
              obtain ⟨l606, hvl606, H⟩ := bind_some H
              refine Eo.append hp604 1 rfl h298 (New.of h605) hvl606 rfl rfl rfl rfl rfl rfl rfl Tryd.underlying61 rfl Tryd.underlying61 rfl rfl rfl rfl rfl rfl rfl rfl ?_
              intro a607 σ610 h608 hp609
              change Hp σ610 (.app (.sl 1 [(.v (.int .u8 b593))] .ex) 5 :: .app a607 5 :: R) at hp609
              refine Eo.val (x := a607) rfl rfl rfl rfl ?_
              refine Eo.nil ?_
              refine Ec.seq ?_
              refine Ec.region ?_
              refine Eo.val (x := (.v (.int .i64 y299))) rfl rfl rfl rfl ?_
              refine Eo.val (x := (.v (.int .i64 (IntKind.wrap .i64 (y299 + 1))))) rfl rfl rfl rfl ?_
              refine Eo.val (x := (.v (.int .i64 (IntKind.wrap .i64 (y299 + 1))))) rfl rfl rfl rfl ?_
              refine Eo.nil ?_
              refine Ec.exit ?_
              exact Ec.of (.cons rfl (.cons rfl (.cons rfl (.nil')))) (ih ((l606, (IntKind.wrap .i64 (y299 + 1))), a607) _ ⟨h608, (Hp.drop hp609 0)⟩ H)
            · have H := cond_f hc601 H
              refine Ec.skip ?_
              refine Ec.seq ?_
              refine Ec.seq ?_
              refine Ec.region ?_
              refine Eo.val (x := (.v (.int .i64 y299))) rfl rfl rfl rfl ?_
              refine Eo.val (x := (.v (.int .i64 (IntKind.wrap .i64 (y299 + 1))))) rfl rfl rfl rfl ?_
              refine Eo.val (x := (.v (.string p0))) rfl rfl rfl rfl ?_
              refine Eo.val (x := (.v (.int .i64 ((p0.size : Nat) : Int)))) (op_len rfl rfl rfl rfl rfl Tryd.underlying9) rfl rfl rfl ?_
              refine Eo.val (x := (.v (.bool (decide ((IntKind.wrap .i64 (y299 + 1)) ≥ ((p0.size : Nat) : Int)))))) rfl rfl rfl rfl ?_
              refine Eo.nil ?_
              refine Ec.cond (t := (decide ((IntKind.wrap .i64 (y299 + 1)) ≥ ((p0.size : Nat) : Int)))) rfl (fun hc611 => ?_) (fun hc611 => ?_)
              · have H := cond_t hc611 H
                refine Ec.seq ?_
                refine Ec.region ?_
                refine Eo.val (x := (.v (.string (ByteArray.mk #[])))) rfl rfl rfl rfl ?_
                refine Eo.val (x := (.v (.int .i64 0))) rfl rfl rfl rfl ?_
                refine Eo.val (x := (.v (.bool false))) rfl rfl rfl rfl ?_
                refine Eo.nil ?_
                obtain rfl := Option.some.inj H
                refine Ec.ret ?_
                refine And.intro rfl (Ret.mk rfl ?_)
                exact ⟨rfl, (Hp.drop hp0 0)⟩
              · have H := cond_f hc611 H
                refine Ec.skip ?_
                refine Ec.seq ?_
                refine Ec.seq ?_
                refine Ec.region ?_
                refine Eo.val (x := (.v (.string p0))) rfl rfl rfl rfl ?_
                refine Eo.val (x := (.v (.int .i64 y299))) rfl rfl rfl rfl ?_
                refine Eo.val (x := (.v (.int .i64 (IntKind.wrap .i64 (y299 + 1))))) rfl rfl rfl rfl ?_
                obtain ⟨b612, hvb612, H⟩ := bind_some H
                refine Eo.val (op_byteS hvb612 rfl rfl rfl Tryd.underlying9) rfl rfl rfl ?_
                refine Eo.nil ?_
                obtain ⟨v882, hv883, H⟩ := bind_some H
                refine Ec.cut (J := (fun (v : LR ((List Int) × Int) (ByteArray × Int × Bool)) (x : X) (φ : Fr) (s : St) => match v with | .out (x742, x745) => x = .normal ∧ (∃ (a743 : A), Sl (rI .u8) a743 x742 ∧ Hp s (.app a743 5 :: R) ∧ Fl [(0, (.v (.string p0))), (7, a743), (8, (.v (.int .i64 x745)))] φ) | .ret r => x = .ret ∧ Ret cfg Tryd.f25 (gdovetailref13_text_post R r) .ret φ s) v882) ?_ ?_
                · have H := hv883
                  refine Ec.block ?_
                  refine Ec.seq ?_
                  refine Ec.region ?_
                  refine Eo.val (x := (.v (.bool (b612 == 110)))) rfl rfl rfl rfl ?_
                  refine Eo.val (x := (.v (.bool (b612 == 110)))) rfl rfl rfl rfl ?_
                  refine Eo.nil ?_
                  refine Ec.cond (t := (b612 == 110)) rfl (fun hc746 => ?_) (fun hc746 => ?_)
                  · have H := cond_t hc746 H
                    refine Ec.region ?_
                    refine Eo.val (x := a297) rfl rfl rfl rfl ?_
                    refine Eo.val (x := (.sl 1 [(.v (.int .u8 10))] .ex)) (op_buildS (lay_cons rfl rfl rfl rfl rfl lay_nil) rfl (parts_cons rfl rfl rfl) Tryd.underlying61 rfl rfl rfl rfl (by decide) rfl) rfl rfl rfl ?_
                    have h750 : Sl (rI .u8) (.sl 1 [(.v (.int .u8 10))] .ex) ([10] : List Int) := .inr ⟨_, _, rfl, (.cons (c := [(.v (.int .u8 10))]) rfl .nil)⟩
                    have hp749 := Hp.appEx hp0 5 1 [(.v (.int .u8 10))]
                    obtain ⟨l751, hvl751, H⟩ := bind_some H
                    refine Eo.append hp749 1 rfl h298 (New.of h750) hvl751 rfl rfl rfl rfl rfl rfl rfl Tryd.underlying61 rfl Tryd.underlying61 rfl rfl rfl rfl rfl rfl rfl rfl ?_
                    intro a752 σ755 h753 hp754
                    change Hp σ755 (.app (.sl 1 [(.v (.int .u8 10))] .ex) 5 :: .app a752 5 :: R) at hp754
                    refine Eo.val (x := a752) rfl rfl rfl rfl ?_
                    refine Eo.nil ?_
                    obtain rfl := Option.some.inj H
                    exact And.intro rfl ⟨a752, h753, (Hp.drop hp754 0), (.cons rfl (.cons rfl (.cons rfl (.nil'))))⟩
                  · have H := cond_f hc746 H
                    refine Ec.seq ?_
                    refine Ec.region ?_
                    refine Eo.val (x := (.v (.bool (b612 == 116)))) rfl rfl rfl rfl ?_
                    refine Eo.val (x := (.v (.bool (b612 == 116)))) rfl rfl rfl rfl ?_
                    refine Eo.nil ?_
                    refine Ec.cond (t := (b612 == 116)) rfl (fun hc756 => ?_) (fun hc756 => ?_)
                    · have H := cond_t hc756 H
                      refine Ec.region ?_
                      refine Eo.val (x := a297) rfl rfl rfl rfl ?_
                      refine Eo.val (x := (.sl 1 [(.v (.int .u8 9))] .ex)) (op_buildS (lay_cons rfl rfl rfl rfl rfl lay_nil) rfl (parts_cons rfl rfl rfl) Tryd.underlying61 rfl rfl rfl rfl (by decide) rfl) rfl rfl rfl ?_
                      have h760 : Sl (rI .u8) (.sl 1 [(.v (.int .u8 9))] .ex) ([9] : List Int) := .inr ⟨_, _, rfl, (.cons (c := [(.v (.int .u8 9))]) rfl .nil)⟩
                      have hp759 := Hp.appEx hp0 5 1 [(.v (.int .u8 9))]
                      obtain ⟨l761, hvl761, H⟩ := bind_some H
                      refine Eo.append hp759 1 rfl h298 (New.of h760) hvl761 rfl rfl rfl rfl rfl rfl rfl Tryd.underlying61 rfl Tryd.underlying61 rfl rfl rfl rfl rfl rfl rfl rfl ?_
                      intro a762 σ765 h763 hp764
                      change Hp σ765 (.app (.sl 1 [(.v (.int .u8 9))] .ex) 5 :: .app a762 5 :: R) at hp764
                      refine Eo.val (x := a762) rfl rfl rfl rfl ?_
                      refine Eo.nil ?_
                      obtain rfl := Option.some.inj H
                      exact And.intro rfl ⟨a762, h763, (Hp.drop hp764 0), (.cons rfl (.cons rfl (.cons rfl (.nil'))))⟩
                    · have H := cond_f hc756 H
                      refine Ec.seq ?_
                      refine Ec.region ?_
                      refine Eo.val (x := (.v (.bool (b612 == 48)))) rfl rfl rfl rfl ?_
                      refine Eo.val (x := (.v (.bool (b612 == 48)))) rfl rfl rfl rfl ?_
                      refine Eo.nil ?_
                      refine Ec.cond (t := (b612 == 48)) rfl (fun hc766 => ?_) (fun hc766 => ?_)
                      · have H := cond_t hc766 H
                        refine Ec.region ?_
                        refine Eo.val (x := a297) rfl rfl rfl rfl ?_
                        refine Eo.val (x := (.sl 1 [(.v (.int .u8 0))] .ex)) (op_buildS (lay_cons rfl rfl rfl rfl rfl lay_nil) rfl (parts_cons rfl rfl rfl) Tryd.underlying61 rfl rfl rfl rfl (by decide) rfl) rfl rfl rfl ?_
                        have h770 : Sl (rI .u8) (.sl 1 [(.v (.int .u8 0))] .ex) ([0] : List Int) := .inr ⟨_, _, rfl, (.cons (c := [(.v (.int .u8 0))]) rfl .nil)⟩
                        have hp769 := Hp.appEx hp0 5 1 [(.v (.int .u8 0))]
                        obtain ⟨l771, hvl771, H⟩ := bind_some H
                        refine Eo.append hp769 1 rfl h298 (New.of h770) hvl771 rfl rfl rfl rfl rfl rfl rfl Tryd.underlying61 rfl Tryd.underlying61 rfl rfl rfl rfl rfl rfl rfl rfl ?_
                        intro a772 σ775 h773 hp774
                        change Hp σ775 (.app (.sl 1 [(.v (.int .u8 0))] .ex) 5 :: .app a772 5 :: R) at hp774
                        refine Eo.val (x := a772) rfl rfl rfl rfl ?_
                        refine Eo.nil ?_
                        obtain rfl := Option.some.inj H
                        exact And.intro rfl ⟨a772, h773, (Hp.drop hp774 0), (.cons rfl (.cons rfl (.cons rfl (.nil'))))⟩
                      · have H := cond_f hc766 H
                        refine Ec.seq ?_
                        refine Ec.seq ?_
                        refine Ec.region ?_
                        refine Eo.val (x := (.v (.bool (b612 == 92)))) rfl rfl rfl rfl ?_
                        refine Eo.val (x := (.v (.bool (b612 == 92)))) rfl rfl rfl rfl ?_
                        refine Eo.nil ?_
                        obtain ⟨x777, hv874, H⟩ := bind_some H
                        refine Ec.cut (J := (fun (x777 : Bool) (x : X) (φ : Fr) (s : St) => x = .normal ∧ (Hp s (.app a297 5 :: R) ∧ Fl [(0, (.v (.string p0))), (7, a297), (8, (.v (.int .i64 y299))), (48, (.v (.int .u8 b612))), (64, (.v (.bool x777)))] φ)) x777) ?_ ?_
                        · have H := hv874
                          refine Ec.cond (t := (b612 == 92)) rfl (fun hc778 => ?_) (fun hc778 => ?_)
                          · have H := cond_t hc778 H
                            refine Ec.skip ?_
                            obtain rfl := Option.some.inj H
                            exact And.intro rfl ⟨hp0, (.cons rfl (.cons rfl (.cons rfl (.cons rfl (.cons rfl (.nil'))))))⟩
                          · have H := cond_f hc778 H
                            refine Ec.region ?_
                            refine Eo.val (x := (.v (.bool (b612 == 34)))) rfl rfl rfl rfl ?_
                            refine Eo.val (x := (.v (.bool (b612 == 34)))) rfl rfl rfl rfl ?_
                            refine Eo.nil ?_
                            obtain rfl := Option.some.inj H
                            exact And.intro rfl ⟨hp0, (.cons rfl (.cons rfl (.cons rfl (.cons rfl (.cons rfl (.nil'))))))⟩
                        · skip
                          intro x φ781 σ780 hJ
                          obtain ⟨rfl, hp779, hf782⟩ := hJ
                          refine Ec.of (F := [(0, (.v (.string p0))), (7, a297), (8, (.v (.int .i64 y299))), (48, (.v (.int .u8 b612))), (64, (.v (.bool x777)))]) hf782 ?_
                          refine Ec.cond (t := x777) rfl (fun hc783 => ?_) (fun hc783 => ?_)
                          · have H := cond_t hc783 H
                            refine Ec.region ?_
                            refine Eo.val (x := a297) rfl rfl rfl rfl ?_
                            refine Eo.val (x := (.v (.string p0))) rfl rfl rfl rfl ?_
                            refine Eo.val (x := (.v (.int .i64 y299))) rfl rfl rfl rfl ?_
                            refine Eo.val (x := (.v (.int .i64 (IntKind.wrap .i64 (y299 + 1))))) rfl rfl rfl rfl ?_
                            obtain ⟨b784, hvb784, H⟩ := bind_some H
                            refine Eo.val (op_byteS hvb784 rfl rfl rfl Tryd.underlying9) rfl rfl rfl ?_
                            refine Eo.val (x := (.sl 1 [(.v (.int .u8 b784))] .ex)) (op_buildS (lay_cons rfl rfl rfl rfl rfl lay_nil) rfl (parts_cons rfl rfl rfl) Tryd.underlying61 rfl rfl rfl rfl (by decide) rfl) rfl rfl rfl ?_
                            have h788 : Sl (rI .u8) (.sl 1 [(.v (.int .u8 b784))] .ex) ([b784] : List Int) := .inr ⟨_, _, rfl, (.cons (c := [(.v (.int .u8 b784))]) rfl .nil)⟩
                            have hp787 := Hp.appEx hp779 5 1 [(.v (.int .u8 b784))]
                            obtain ⟨l789, hvl789, H⟩ := bind_some H
                            refine Eo.append hp787 1 rfl h298 (New.of h788) hvl789 rfl rfl rfl rfl rfl rfl rfl Tryd.underlying61 rfl Tryd.underlying61 rfl rfl rfl rfl rfl rfl rfl rfl ?_
                            intro a790 σ793 h791 hp792
                            change Hp σ793 (.app (.sl 1 [(.v (.int .u8 b784))] .ex) 5 :: .app a790 5 :: R) at hp792
                            refine Eo.val (x := a790) rfl rfl rfl rfl ?_
                            refine Eo.nil ?_
                            obtain rfl := Option.some.inj H
                            exact And.intro rfl ⟨a790, h791, (Hp.drop hp792 0), (.cons rfl (.cons rfl (.cons rfl (.nil'))))⟩
                          · have H := cond_f hc783 H
                            refine Ec.seq ?_
                            refine Ec.region ?_
                            refine Eo.val (x := (.v (.bool (b612 == 120)))) rfl rfl rfl rfl ?_
                            refine Eo.val (x := (.v (.bool (b612 == 120)))) rfl rfl rfl rfl ?_
                            refine Eo.nil ?_
                            refine Ec.cond (t := (b612 == 120)) rfl (fun hc794 => ?_) (fun hc794 => ?_)
                            · have H := cond_t hc794 H
                              refine Ec.seq ?_
                              refine Ec.seq ?_
                              refine Ec.region ?_
                              refine Eo.val (x := (.v (.int .i64 y299))) rfl rfl rfl rfl ?_
                              refine Eo.val (x := (.v (.int .i64 (IntKind.wrap .i64 (y299 + 3))))) rfl rfl rfl rfl ?_
                              refine Eo.val (x := (.v (.string p0))) rfl rfl rfl rfl ?_
                              refine Eo.val (x := (.v (.int .i64 ((p0.size : Nat) : Int)))) (op_len rfl rfl rfl rfl rfl Tryd.underlying9) rfl rfl rfl ?_
                              refine Eo.val (x := (.v (.bool (decide ((IntKind.wrap .i64 (y299 + 3)) ≥ ((p0.size : Nat) : Int)))))) rfl rfl rfl rfl ?_
                              refine Eo.val (x := (.v (.bool (decide ((IntKind.wrap .i64 (y299 + 3)) ≥ ((p0.size : Nat) : Int)))))) rfl rfl rfl rfl ?_
                              obtain ⟨x800, hv872, H⟩ := bind_some H
                              refine Eo.cutN 7 (J := (fun (x800 : Bool) (x : X) (φ : Fr) (s : St) => x = .normal ∧ (Hp s (.app a297 5 :: R) ∧ Fl [(0, (.v (.string p0))), (7, a297), (8, (.v (.int .i64 y299))), (88, (.v (.bool x800)))] φ)) x800) ?_ ?_
                              · have H := hv872
                                cases hc801 : (decide ((IntKind.wrap .i64 (y299 + 3)) ≥ ((p0.size : Nat) : Int)))
                                · have H := cond_f hc801 H
                                  refine Eo.val (x := (.v (.string p0))) rfl rfl rfl rfl ?_
                                  refine Eo.val (x := (.v (.int .i64 y299))) rfl rfl rfl rfl ?_
                                  refine Eo.val (x := (.v (.int .i64 (IntKind.wrap .i64 (y299 + 2))))) rfl rfl rfl rfl ?_
                                  obtain ⟨b802, hvb802, H⟩ := bind_some H
                                  refine Eo.val (op_byteS hvb802 rfl rfl rfl Tryd.underlying9) rfl rfl rfl ?_
                                  obtain ⟨r803, hvr803, H⟩ := bind_some H
                                  refine Eo.call rfl rfl rfl rfl (gdovetailref13_hex_ok hp779 hvr803) ?_
                                  rintro _ σ805 ⟨rfl, hp804⟩
                                  refine Eo.val (x := (.v (.bool (decide (r803 < 0))))) rfl rfl rfl rfl ?_
                                  refine Eo.val (x := (.v (.bool (decide (r803 < 0))))) rfl rfl rfl rfl ?_
                                  refine Eo.nil ?_
                                  obtain rfl := Option.some.inj H
                                  exact And.intro rfl ⟨hp804, (.cons rfl (.cons rfl (.cons rfl (.cons rfl (.nil')))))⟩
                                · have H := cond_t hc801 H
                                  refine Eo.off rfl rfl rfl ?_
                                  refine Eo.off rfl rfl rfl ?_
                                  refine Eo.off rfl rfl rfl ?_
                                  refine Eo.off rfl rfl rfl ?_
                                  refine Eo.off rfl rfl rfl ?_
                                  refine Eo.off rfl rfl rfl ?_
                                  refine Eo.val (x := (.v (.bool true))) rfl rfl rfl rfl ?_
                                  refine Eo.nil ?_
                                  obtain rfl := Option.some.inj H
                                  exact And.intro rfl ⟨hp779, (.cons rfl (.cons rfl (.cons rfl (.cons rfl (.nil')))))⟩
                              · skip
                                intro x φ808 σ807 hJ
                                obtain ⟨rfl, hp806, hf809⟩ := hJ
                                refine ⟨rfl, Eo.of (F := [(0, (.v (.string p0))), (7, a297), (8, (.v (.int .i64 y299))), (88, (.v (.bool x800)))]) hf809 ?_⟩
                                refine Eo.val (x := (.v (.bool x800))) rfl rfl rfl rfl ?_
                                obtain ⟨x815, hv870, H⟩ := bind_some H
                                refine Eo.cutN 7 (J := (fun (x815 : Bool) (x : X) (φ : Fr) (s : St) => x = .normal ∧ (Hp s (.app a297 5 :: R) ∧ Fl [(0, (.v (.string p0))), (7, a297), (8, (.v (.int .i64 y299))), (96, (.v (.bool x815)))] φ)) x815) ?_ ?_
                                · have H := hv870
                                  cases hc816 : x800
                                  · have H := cond_f hc816 H
                                    refine Eo.val (x := (.v (.string p0))) rfl rfl rfl rfl ?_
                                    refine Eo.val (x := (.v (.int .i64 y299))) rfl rfl rfl rfl ?_
                                    refine Eo.val (x := (.v (.int .i64 (IntKind.wrap .i64 (y299 + 3))))) rfl rfl rfl rfl ?_
                                    obtain ⟨b817, hvb817, H⟩ := bind_some H
                                    refine Eo.val (op_byteS hvb817 rfl rfl rfl Tryd.underlying9) rfl rfl rfl ?_
                                    obtain ⟨r818, hvr818, H⟩ := bind_some H
                                    refine Eo.call rfl rfl rfl rfl (gdovetailref13_hex_ok hp806 hvr818) ?_
                                    rintro _ σ820 ⟨rfl, hp819⟩
                                    refine Eo.val (x := (.v (.bool (decide (r818 < 0))))) rfl rfl rfl rfl ?_
                                    refine Eo.val (x := (.v (.bool (decide (r818 < 0))))) rfl rfl rfl rfl ?_
                                    refine Eo.nil ?_
                                    obtain rfl := Option.some.inj H
                                    exact And.intro rfl ⟨hp819, (.cons rfl (.cons rfl (.cons rfl (.cons rfl (.nil')))))⟩
                                  · have H := cond_t hc816 H
                                    refine Eo.off rfl rfl rfl ?_
                                    refine Eo.off rfl rfl rfl ?_
                                    refine Eo.off rfl rfl rfl ?_
                                    refine Eo.off rfl rfl rfl ?_
                                    refine Eo.off rfl rfl rfl ?_
                                    refine Eo.off rfl rfl rfl ?_
                                    refine Eo.val (x := (.v (.bool true))) rfl rfl rfl rfl ?_
                                    refine Eo.nil ?_
                                    obtain rfl := Option.some.inj H
                                    exact And.intro rfl ⟨hp806, (.cons rfl (.cons rfl (.cons rfl (.cons rfl (.nil')))))⟩
                                · skip
                                  intro x φ823 σ822 hJ
                                  obtain ⟨rfl, hp821, hf824⟩ := hJ
                                  refine ⟨rfl, Eo.of (F := [(0, (.v (.string p0))), (7, a297), (8, (.v (.int .i64 y299))), (96, (.v (.bool x815)))]) hf824 ?_⟩
                                  refine Eo.nil ?_
                                  refine Ec.cond (t := x815) rfl (fun hc825 => ?_) (fun hc825 => ?_)
                                  · have H := cond_t hc825 H
                                    refine Ec.seq ?_
                                    refine Ec.region ?_
                                    refine Eo.val (x := (.v (.string (ByteArray.mk #[])))) rfl rfl rfl rfl ?_
                                    refine Eo.val (x := (.v (.int .i64 0))) rfl rfl rfl rfl ?_
                                    refine Eo.val (x := (.v (.bool false))) rfl rfl rfl rfl ?_
                                    refine Eo.nil ?_
                                    obtain rfl := Option.some.inj H
                                    refine Ec.ret ?_
                                    refine And.intro rfl (Ret.mk rfl ?_)
                                    exact ⟨rfl, (Hp.drop hp821 0)⟩
                                  · have H := cond_f hc825 H
                                    refine Ec.skip ?_
                                    refine Ec.seq ?_
                                    obtain ⟨x843, hv868, H⟩ := bind_some H
                                    refine Ec.cut (J := (fun (x843 : (List Int)) (x : X) (φ : Fr) (s : St) => x = .normal ∧ (∃ (a844 : A), Sl (rI .u8) a844 x843 ∧ Hp s (.app a844 5 :: R) ∧ Fl [(0, (.v (.string p0))), (7, a844), (8, (.v (.int .i64 y299)))] φ)) x843) ?_ ?_
                                    · have H := hv868
                                      refine Ec.drawn (by kernel_rfl) ?_
                                      refine Eo.val (x := a297) rfl rfl rfl rfl ?_
                                      refine Eo.val (x := (.v (.string p0))) rfl rfl rfl rfl ?_
                                      refine Eo.val (x := (.v (.int .i64 y299))) rfl rfl rfl rfl ?_
                                      refine Eo.val (x := (.v (.int .i64 (IntKind.wrap .i64 (y299 + 2))))) rfl rfl rfl rfl ?_
                                      obtain ⟨b846, hvb846, H⟩ := bind_some H
                                      refine Eo.val (op_byteS hvb846 rfl rfl rfl Tryd.underlying9) rfl rfl rfl ?_
                                      obtain ⟨r847, hvr847, H⟩ := bind_some H
                                      refine Eo.call rfl rfl rfl rfl (gdovetailref13_hex_ok hp821 hvr847) ?_
                                      rintro _ σ849 ⟨rfl, hp848⟩
                                      refine Eo.val (x := (.v (.int .i64 (IntKind.wrap .i64 (r847 * 16))))) rfl rfl rfl rfl ?_
                                      refine Eo.val (x := (.v (.string p0))) rfl rfl rfl rfl ?_
                                      refine Eo.val (x := (.v (.int .i64 y299))) rfl rfl rfl rfl ?_
                                      refine Eo.val (x := (.v (.int .i64 (IntKind.wrap .i64 (y299 + 3))))) rfl rfl rfl rfl ?_
                                      obtain ⟨b850, hvb850, H⟩ := bind_some H
                                      refine Eo.val (op_byteS hvb850 rfl rfl rfl Tryd.underlying9) rfl rfl rfl ?_
                                      obtain ⟨r851, hvr851, H⟩ := bind_some H
                                      refine Eo.call rfl rfl rfl rfl (gdovetailref13_hex_ok hp848 hvr851) ?_
                                      rintro _ σ853 ⟨rfl, hp852⟩
                                      refine Eo.val (x := (.v (.int .i64 (IntKind.wrap .i64 ((IntKind.wrap .i64 (r847 * 16)) + r851))))) rfl rfl rfl rfl ?_
                                      refine Eo.val (x := (.v (.int .u8 (IntKind.wrap .u8 (IntKind.wrap .i64 ((IntKind.wrap .i64 (r847 * 16)) + r851)))))) rfl rfl rfl rfl ?_
                                      refine Eo.val (x := (.sl 1 [(.v (.int .u8 (IntKind.wrap .u8 (IntKind.wrap .i64 ((IntKind.wrap .i64 (r847 * 16)) + r851)))))] .ex)) (op_buildS (lay_cons rfl rfl rfl rfl rfl lay_nil) rfl (parts_cons rfl rfl rfl) Tryd.underlying61 rfl rfl rfl rfl (by decide) rfl) rfl rfl rfl ?_
                                      have h857 : Sl (rI .u8) (.sl 1 [(.v (.int .u8 (IntKind.wrap .u8 (IntKind.wrap .i64 ((IntKind.wrap .i64 (r847 * 16)) + r851)))))] .ex) ([(IntKind.wrap .u8 (IntKind.wrap .i64 ((IntKind.wrap .i64 (r847 * 16)) + r851)))] : List Int) := .inr ⟨_, _, rfl, (.cons (c := [(.v (.int .u8 (IntKind.wrap .u8 (IntKind.wrap .i64 ((IntKind.wrap .i64 (r847 * 16)) + r851)))))]) rfl .nil)⟩
                                      have hp856 := Hp.appEx hp852 5 1 [(.v (.int .u8 (IntKind.wrap .u8 (IntKind.wrap .i64 ((IntKind.wrap .i64 (r847 * 16)) + r851)))))]
                                      obtain ⟨l858, hvl858, H⟩ := bind_some H
                                      refine Eo.append hp856 1 rfl h298 (New.of h857) hvl858 rfl rfl rfl rfl rfl rfl rfl Tryd.underlying61 rfl Tryd.underlying61 rfl rfl rfl rfl rfl rfl rfl rfl ?_
                                      intro a859 σ862 h860 hp861
                                      change Hp σ862 (.app (.sl 1 [(.v (.int .u8 (IntKind.wrap .u8 (IntKind.wrap .i64 ((IntKind.wrap .i64 (r847 * 16)) + r851)))))] .ex) 5 :: .app a859 5 :: R) at hp861
                                      refine Eo.val (x := a859) rfl rfl rfl rfl ?_
                                      refine Eo.nil ?_
                                      obtain rfl := Option.some.inj H
                                      exact And.intro rfl (And.intro rfl ⟨a859, h860, (Hp.drop hp861 0), (.cons rfl (.cons rfl (.cons rfl (.nil'))))⟩)
                                    · skip
                                      intro x φ865 σ864 hJ
                                      obtain ⟨rfl, a844, h845, hp863, hf866⟩ := hJ
                                      refine Ec.of (F := [(0, (.v (.string p0))), (7, a844), (8, (.v (.int .i64 y299)))]) hf866 ?_
                                      refine Ec.region ?_
                                      refine Eo.val (x := (.v (.int .i64 y299))) rfl rfl rfl rfl ?_
                                      refine Eo.val (x := (.v (.int .i64 (IntKind.wrap .i64 (y299 + 2))))) rfl rfl rfl rfl ?_
                                      refine Eo.val (x := (.v (.int .i64 (IntKind.wrap .i64 (y299 + 2))))) rfl rfl rfl rfl ?_
                                      refine Eo.nil ?_
                                      obtain rfl := Option.some.inj H
                                      exact And.intro rfl ⟨a844, h845, hp863, (.cons rfl (.cons rfl (.cons rfl (.nil'))))⟩
                            · have H := cond_f hc794 H
                              refine Ec.seq ?_
                              refine Ec.region ?_
                              refine Eo.val (x := (.v (.string (ByteArray.mk #[])))) rfl rfl rfl rfl ?_
                              refine Eo.val (x := (.v (.int .i64 0))) rfl rfl rfl rfl ?_
                              refine Eo.val (x := (.v (.bool false))) rfl rfl rfl rfl ?_
                              refine Eo.nil ?_
                              obtain rfl := Option.some.inj H
                              refine Ec.ret ?_
                              refine And.intro rfl (Ret.mk rfl ?_)
                              exact ⟨rfl, (Hp.drop hp779 0)⟩
                · rcases v882 with ⟨x742, x745⟩ | r879
                  · intro x φ877 σ876 hJ
                    obtain ⟨rfl, a743, h744, hp875, hf878⟩ := hJ
                    refine Ec.of (F := [(0, (.v (.string p0))), (7, a743), (8, (.v (.int .i64 x745)))]) hf878 ?_
                    refine Ec.region ?_
                    refine Eo.val (x := (.v (.int .i64 x745))) rfl rfl rfl rfl ?_
                    refine Eo.val (x := (.v (.int .i64 (IntKind.wrap .i64 (x745 + 2))))) rfl rfl rfl rfl ?_
                    refine Eo.val (x := (.v (.int .i64 (IntKind.wrap .i64 (x745 + 2))))) rfl rfl rfl rfl ?_
                    refine Eo.nil ?_
                    exact Ec.of (.cons rfl (.cons rfl (.cons rfl (.nil')))) (ih ((x742, (IntKind.wrap .i64 (x745 + 2))), a743) _ ⟨h744, hp875⟩ H)
                  · intro x φ880 σ881 hJ
                    obtain rfl := Option.some.inj H
                    obtain ⟨rfl, hr⟩ := hJ
                    exact And.intro rfl hr
    · have H := cond_f hc592 H
      refine Ec.exit ?_
      obtain rfl := Option.some.inj H
      exact And.intro rfl ⟨(Hp.drop hp0 0), (.nil')⟩
  · rcases v884 with _ | r890
    · intro x φ888 σ887 hJ
      obtain ⟨rfl, hp886, hf889⟩ := hJ
      refine Ec.of (F := []) hf889 ?_
      refine Ec.seq ?_
      refine Ec.region ?_
      refine Eo.val (x := (.v (.string (ByteArray.mk #[])))) rfl rfl rfl rfl ?_
      refine Eo.val (x := (.v (.int .i64 0))) rfl rfl rfl rfl ?_
      refine Eo.val (x := (.v (.bool false))) rfl rfl rfl rfl ?_
      refine Eo.nil ?_
      obtain rfl := Option.some.inj H
      refine Ec.ret ?_
      refine Ret.mk rfl ?_
      exact ⟨rfl, hp886⟩
    · intro x φ891 σ892 hJ
      obtain rfl := Option.some.inj H
      obtain ⟨rfl, hr⟩ := hJ
      exact hr

def gdovetailref12_Name_L1 (N : Nat) (p0 : ByteArray) : Nat → Int → Option (LR Unit Bool)
  | 0, _ => none
  | m + 1, y40 => (cond (decide (y40 < ((p0.size : Nat) : Int))) (((atS p0 y40).bind fun b65 => ((gdovetailref12_Letter N b65).bind fun r66 => (((cond (!r66) (((atS p0 y40).bind fun b76 => ((gdovetailref12_Digit N b76).bind fun r77 => some (!r77)))) (some false)) : Option (Bool)).bind fun x74 => (cond x74 (some (.ret false)) (gdovetailref12_Name_L1 N p0 m (IntKind.wrap .i64 (y40 + 1)))))))) (some (.out ())))

def gdovetailref12_Name (n : Nat) (p0 : ByteArray) : Option (Bool) := (((cond (decide (p0 = (ByteArray.mk #[]))) (some true) (((atS p0 0).bind fun b8 => ((gdovetailref12_Letter n b8).bind fun r9 => some (!r9))))) : Option (Bool)).bind fun x6 => (cond x6 (some false) (((gdovetailref12_Name_L1 n p0 n 1).bind fun v => match v with | .out _ => some true | .ret r93 => some r93))))

def gdovetailref12_Name_post (R : List Res) (r : Bool) (x : A) (s : St) : Prop := x = (.v (.bool r)) ∧ Hp s (R)

theorem gdovetailref12_Name_ok {n : Nat} {p0 : ByteArray} {R : List Res} {σ : St} (hp : Hp σ R) {r : Bool} (H : gdovetailref12_Name n p0 = some r) : Ca cfg 46 [(.v (.string p0))] σ (gdovetailref12_Name_post R r) := by
  unfold gdovetailref12_Name at H
  refine Ca.enterL (G := [(0, (.v (.string p0)))]) Tryd.func46 rfl rfl rfl rfl ?_
  refine Ec.seq ?_
  refine Ec.region ?_
  refine Eo.val (x := (.v (.bool false))) rfl rfl rfl rfl ?_
  refine Eo.nil ?_
  refine Ec.seq ?_
  refine Ec.seq ?_
  refine Ec.region ?_
  refine Eo.val (x := (.v (.string p0))) rfl rfl rfl rfl ?_
  refine Eo.val (x := (.v (.bool (decide (p0 = (ByteArray.mk #[])))))) (val_b rfl (seq_eq _ _)) rfl rfl rfl ?_
  refine Eo.val (x := (.v (.bool (decide (p0 = (ByteArray.mk #[])))))) rfl rfl rfl rfl ?_
  obtain ⟨x6, hv97, H⟩ := bind_some H
  refine Eo.cutN 5 (J := (fun (x6 : Bool) (x : X) (φ : Fr) (s : St) => x = .normal ∧ (Hp s (R) ∧ Fl [(0, (.v (.string p0))), (11, (.v (.bool x6)))] φ)) x6) ?_ ?_
  · have H := hv97
    cases hc7 : (decide (p0 = (ByteArray.mk #[])))
    · have H := cond_f hc7 H
      refine Eo.val (x := (.v (.string p0))) rfl rfl rfl rfl ?_
      obtain ⟨b8, hvb8, H⟩ := bind_some H
      refine Eo.val (op_byteS hvb8 rfl rfl rfl Tryd.underlying9) rfl rfl rfl ?_
      obtain ⟨r9, hvr9, H⟩ := bind_some H
      refine Eo.call rfl rfl rfl rfl (gdovetailref12_Letter_ok hp hvr9) ?_
      rintro _ σ11 ⟨rfl, hp10⟩
      refine Eo.val (x := (.v (.bool (!r9)))) rfl rfl rfl rfl ?_
      refine Eo.val (x := (.v (.bool (!r9)))) rfl rfl rfl rfl ?_
      refine Eo.nil ?_
      obtain rfl := Option.some.inj H
      exact And.intro rfl ⟨hp10, (.cons rfl (.cons rfl (.nil')))⟩
    · have H := cond_t hc7 H
      refine Eo.off rfl rfl rfl ?_
      refine Eo.off rfl rfl rfl ?_
      refine Eo.off rfl rfl rfl ?_
      refine Eo.off rfl rfl rfl ?_
      refine Eo.val (x := (.v (.bool true))) rfl rfl rfl rfl ?_
      refine Eo.nil ?_
      obtain rfl := Option.some.inj H
      exact And.intro rfl ⟨hp, (.cons rfl (.cons rfl (.nil')))⟩
  · skip
    intro x φ14 σ13 hJ
    obtain ⟨rfl, hp12, hf15⟩ := hJ
    refine ⟨rfl, Eo.of (F := [(0, (.v (.string p0))), (11, (.v (.bool x6)))]) hf15 ?_⟩
    refine Eo.nil ?_
    refine Ec.cond (t := x6) rfl (fun hc16 => ?_) (fun hc16 => ?_)
    · have H := cond_t hc16 H
      refine Ec.seq ?_
      refine Ec.region ?_
      refine Eo.val (x := (.v (.bool false))) rfl rfl rfl rfl ?_
      refine Eo.nil ?_
      obtain rfl := Option.some.inj H
      refine Ec.ret ?_
      refine Ret.mk rfl ?_
      exact ⟨rfl, hp12⟩
    · have H := cond_f hc16 H
      refine Ec.skip ?_
      refine Ec.seq ?_
      refine Ec.seq ?_
      refine Ec.region ?_
      refine Eo.val (x := (.v (.int .i64 1))) rfl rfl rfl rfl ?_
      refine Eo.nil ?_
      refine Ec.block ?_
      obtain ⟨v87, hv88, H⟩ := bind_some H
      refine Ec.cut (J := (fun (v : LR Unit Bool) (x : X) (φ : Fr) (s : St) => match v with | .out _ => x = (.exit 0) ∧ (Hp s (R) ∧ Fl [] φ) | .ret r => x = .ret ∧ Ret cfg Tryd.f46 (gdovetailref12_Name_post R r) .ret φ s) v87) (Ec.weak (.cons rfl (.cons rfl (.nil'))) (Ec.loopF (f := (fun m (i : Int × Unit) => gdovetailref12_Name_L1 n p0 m i.1)) (G := (fun (i : Int × Unit) => ([(0, (.v (.string p0))), (3, (.v (.int .i64 i.1)))] : List (Nat × A)))) (I := (fun (i : Int × Unit) (s : St) => Hp s (R))) (J := (fun (v : LR Unit Bool) (x : X) (φ : Fr) (s : St) => match v with | .out _ => x = (.exit 0) ∧ (Hp s (R) ∧ Fl [] φ) | .ret r => x = .ret ∧ Ret cfg Tryd.f46 (gdovetailref12_Name_post R r) .ret φ s)) (fun _ => rfl) ?_ n (1, ()) _ v87 hp12 hv88)) ?_
      · rintro m ⟨y40, _⟩ σ0 v hp0 H ih
        change gdovetailref12_Name_L1 n p0 (m + 1) y40 = some v at H
        rw [gdovetailref12_Name_L1] at H
        change Ec _ _ _ [(0, (.v (.string p0))), (3, (.v (.int .i64 y40)))] σ0 _
        refine Ec.seq ?_
        refine Ec.seq ?_
        refine Ec.region ?_
        refine Eo.val (x := (.v (.int .i64 y40))) rfl rfl rfl rfl ?_
        refine Eo.val (x := (.v (.string p0))) rfl rfl rfl rfl ?_
        refine Eo.val (x := (.v (.int .i64 ((p0.size : Nat) : Int)))) (op_len rfl rfl rfl rfl rfl Tryd.underlying9) rfl rfl rfl ?_
        refine Eo.val (x := (.v (.bool (decide (y40 < ((p0.size : Nat) : Int)))))) rfl rfl rfl rfl ?_
        refine Eo.nil ?_
        refine Ec.cond (t := (decide (y40 < ((p0.size : Nat) : Int)))) rfl (fun hc64 => ?_) (fun hc64 => ?_)
        · have H := cond_t hc64 H
          refine Ec.skip ?_
          refine Ec.seq ?_
          refine Ec.block ?_
          refine Ec.seq ?_
          refine Ec.region ?_
          refine Eo.val (x := (.v (.string p0))) rfl rfl rfl rfl ?_
          refine Eo.val (x := (.v (.int .i64 y40))) rfl rfl rfl rfl ?_
          obtain ⟨b65, hvb65, H⟩ := bind_some H
          refine Eo.val (op_byteS hvb65 rfl rfl rfl Tryd.underlying9) rfl rfl rfl ?_
          obtain ⟨r66, hvr66, H⟩ := bind_some H
          refine Eo.call rfl rfl rfl rfl (gdovetailref12_Letter_ok hp0 hvr66) ?_
          rintro _ σ68 ⟨rfl, hp67⟩
          refine Eo.val (x := (.v (.bool (!r66)))) rfl rfl rfl rfl ?_
          refine Eo.val (x := (.v (.bool (!r66)))) rfl rfl rfl rfl ?_
          obtain ⟨x74, hv86, H⟩ := bind_some H
          refine Eo.cutN 6 (J := (fun (x74 : Bool) (x : X) (φ : Fr) (s : St) => x = .normal ∧ (Hp s (R) ∧ Fl [(0, (.v (.string p0))), (3, (.v (.int .i64 y40))), (29, (.v (.bool x74)))] φ)) x74) ?_ ?_
          · have H := hv86
            cases hc75 : (!r66)
            · have H := cond_f hc75 H
              refine Eo.off rfl rfl rfl ?_
              refine Eo.off rfl rfl rfl ?_
              refine Eo.off rfl rfl rfl ?_
              refine Eo.off rfl rfl rfl ?_
              refine Eo.off rfl rfl rfl ?_
              refine Eo.val (x := (.v (.bool false))) rfl rfl rfl rfl ?_
              refine Eo.nil ?_
              obtain rfl := Option.some.inj H
              exact And.intro rfl ⟨hp67, (.cons rfl (.cons rfl (.cons rfl (.nil'))))⟩
            · have H := cond_t hc75 H
              refine Eo.val (x := (.v (.string p0))) rfl rfl rfl rfl ?_
              refine Eo.val (x := (.v (.int .i64 y40))) rfl rfl rfl rfl ?_
              obtain ⟨b76, hvb76, H⟩ := bind_some H
              refine Eo.val (op_byteS hvb76 rfl rfl rfl Tryd.underlying9) rfl rfl rfl ?_
              obtain ⟨r77, hvr77, H⟩ := bind_some H
              refine Eo.call rfl rfl rfl rfl (gdovetailref12_Digit_ok hp67 hvr77) ?_
              rintro _ σ79 ⟨rfl, hp78⟩
              refine Eo.val (x := (.v (.bool (!r77)))) rfl rfl rfl rfl ?_
              refine Eo.val (x := (.v (.bool (!r77)))) rfl rfl rfl rfl ?_
              refine Eo.nil ?_
              obtain rfl := Option.some.inj H
              exact And.intro rfl ⟨hp78, (.cons rfl (.cons rfl (.cons rfl (.nil'))))⟩
          · skip
            intro x φ82 σ81 hJ
            obtain ⟨rfl, hp80, hf83⟩ := hJ
            refine ⟨rfl, Eo.of (F := [(0, (.v (.string p0))), (3, (.v (.int .i64 y40))), (29, (.v (.bool x74)))]) hf83 ?_⟩
            refine Eo.nil ?_
            refine Ec.cond (t := x74) rfl (fun hc84 => ?_) (fun hc84 => ?_)
            · have H := cond_t hc84 H
              refine Ec.seq ?_
              refine Ec.region ?_
              refine Eo.val (x := (.v (.bool false))) rfl rfl rfl rfl ?_
              refine Eo.nil ?_
              obtain rfl := Option.some.inj H
              refine Ec.ret ?_
              refine And.intro rfl (Ret.mk rfl ?_)
              exact ⟨rfl, hp80⟩
            · have H := cond_f hc84 H
              refine Ec.skip ?_
              refine Ec.region ?_
              refine Eo.val (x := (.v (.int .i64 y40))) rfl rfl rfl rfl ?_
              refine Eo.val (x := (.v (.int .i64 (IntKind.wrap .i64 (y40 + 1))))) rfl rfl rfl rfl ?_
              refine Eo.val (x := (.v (.int .i64 (IntKind.wrap .i64 (y40 + 1))))) rfl rfl rfl rfl ?_
              refine Eo.nil ?_
              exact Ec.of (.cons rfl (.cons rfl (.nil'))) (ih ((IntKind.wrap .i64 (y40 + 1)), ()) _ hp80 H)
        · have H := cond_f hc64 H
          refine Ec.exit ?_
          obtain rfl := Option.some.inj H
          exact And.intro rfl ⟨hp0, (.nil')⟩
      · rcases v87 with _ | r93
        · intro x φ91 σ90 hJ
          obtain ⟨rfl, hp89, hf92⟩ := hJ
          refine Ec.of (F := []) hf92 ?_
          refine Ec.seq ?_
          refine Ec.region ?_
          refine Eo.val (x := (.v (.bool true))) rfl rfl rfl rfl ?_
          refine Eo.nil ?_
          obtain rfl := Option.some.inj H
          refine Ec.ret ?_
          refine Ret.mk rfl ?_
          exact ⟨rfl, hp89⟩
        · intro x φ94 σ95 hJ
          obtain rfl := Option.some.inj H
          obtain ⟨rfl, hr⟩ := hJ
          exact hr

def gdovetailref13_Labelled (n : Nat) (p0 : (List TTok)) : Option (Bool) := (((cond (decide (((p0.length : Nat) : Int) ≥ 2)) (((atL p0 0).bind fun x10 => some (x10.f_Kind == 1))) (some false)) : Option (Bool)).bind fun x8 => (((cond x8 (((atL p0 0).bind fun x28 => ((gdovetailref12_Name n x28.f_Text).bind fun r32 => some r32))) (some false)) : Option (Bool)).bind fun x26 => (((cond x26 (((atL p0 1).bind fun x46 => some (x46.f_Kind == 2))) (some false)) : Option (Bool)).bind fun x44 => (((cond x44 (((atL p0 1).bind fun x61 => some (decide (x61.f_Text = (ByteArray.mk #[58]))))) (some false)) : Option (Bool)).bind fun x59 => some x59))))

def gdovetailref13_Labelled_post (R : List Res) (r : Bool) (x : A) (s : St) : Prop := x = (.v (.bool r)) ∧ Hp s (R)

theorem gdovetailref13_Labelled_ok {n : Nat} {p0 : (List TTok)} {a1 : A} {R : List Res} {σ : St} (h2 : Sl rTTok a1 p0) (hp : Hp σ R) {r : Bool} (H : gdovetailref13_Labelled n p0 = some r) : Ca cfg 21 [a1] σ (gdovetailref13_Labelled_post R r) := by
  unfold gdovetailref13_Labelled at H
  refine Ca.enterL (G := [(0, a1)]) Tryd.func21 rfl rfl rfl rfl ?_
  refine Ec.seq ?_
  refine Ec.region ?_
  refine Eo.val (x := (.v (.bool false))) rfl rfl rfl rfl ?_
  refine Eo.nil ?_
  refine Ec.seq ?_
  refine Ec.region ?_
  refine Eo.val (x := a1) rfl rfl rfl rfl ?_
  refine Eo.val (x := (.v (.int .i64 ((p0.length : Nat) : Int)))) (op_lenL h2 rfl rfl rfl rfl rfl Tryd.underlying31) rfl rfl rfl ?_
  refine Eo.val (x := (.v (.bool (decide (((p0.length : Nat) : Int) ≥ 2))))) rfl rfl rfl rfl ?_
  refine Eo.val (x := (.v (.bool (decide (((p0.length : Nat) : Int) ≥ 2))))) rfl rfl rfl rfl ?_
  obtain ⟨x8, hv76, H⟩ := bind_some H
  refine Eo.cutN 6 (J := (fun (x8 : Bool) (x : X) (φ : Fr) (s : St) => x = .normal ∧ (Hp s (R) ∧ Fl [(0, a1), (2, (.v (.bool false))), (12, (.v (.bool x8)))] φ)) x8) ?_ ?_
  · have H := hv76
    cases hc9 : (decide (((p0.length : Nat) : Int) ≥ 2))
    · have H := cond_f hc9 H
      refine Eo.off rfl rfl rfl ?_
      refine Eo.off rfl rfl rfl ?_
      refine Eo.off rfl rfl rfl ?_
      refine Eo.off rfl rfl rfl ?_
      refine Eo.off rfl rfl rfl ?_
      refine Eo.val (x := (.v (.bool false))) rfl rfl rfl rfl ?_
      refine Eo.nil ?_
      obtain rfl := Option.some.inj H
      exact And.intro rfl ⟨hp, (.cons rfl (.cons rfl (.cons rfl (.nil'))))⟩
    · have H := cond_t hc9 H
      refine Eo.val (x := a1) rfl rfl rfl rfl ?_
      obtain ⟨x10, hvx10, H⟩ := bind_some H
      refine Eo.idx h2 hvx10 rfl rfl rfl Tryd.underlying31 rfl rfl rfl rfl ?_
      rintro cs11 p12 _ hat13 rfl
      refine Eo.val (x := (.sp cs11 p12 .no)) rfl rfl rfl rfl ?_
      refine Eo.val (x := (.v (.int .i64 x10.f_Kind))) (op_loadSp hat13 0 rfl rfl rfl rfl rfl) rfl rfl rfl ?_
      refine Eo.val (x := (.v (.bool (x10.f_Kind == 1)))) rfl rfl rfl rfl ?_
      refine Eo.val (x := (.v (.bool (x10.f_Kind == 1)))) rfl rfl rfl rfl ?_
      refine Eo.nil ?_
      obtain rfl := Option.some.inj H
      exact And.intro rfl ⟨hp, (.cons rfl (.cons rfl (.cons rfl (.nil'))))⟩
  · skip
    intro x φ16 σ15 hJ
    obtain ⟨rfl, hp14, hf17⟩ := hJ
    refine ⟨rfl, Eo.of (F := [(0, a1), (2, (.v (.bool false))), (12, (.v (.bool x8)))]) hf17 ?_⟩
    refine Eo.val (x := (.v (.bool x8))) rfl rfl rfl rfl ?_
    obtain ⟨x26, hv74, H⟩ := bind_some H
    refine Eo.cutN 6 (J := (fun (x26 : Bool) (x : X) (φ : Fr) (s : St) => x = .normal ∧ (Hp s (R) ∧ Fl [(0, a1), (2, (.v (.bool false))), (19, (.v (.bool x26)))] φ)) x26) ?_ ?_
    · have H := hv74
      cases hc27 : x8
      · have H := cond_f hc27 H
        refine Eo.off rfl rfl rfl ?_
        refine Eo.off rfl rfl rfl ?_
        refine Eo.off rfl rfl rfl ?_
        refine Eo.off rfl rfl rfl ?_
        refine Eo.off rfl rfl rfl ?_
        refine Eo.val (x := (.v (.bool false))) rfl rfl rfl rfl ?_
        refine Eo.nil ?_
        obtain rfl := Option.some.inj H
        exact And.intro rfl ⟨hp14, (.cons rfl (.cons rfl (.cons rfl (.nil'))))⟩
      · have H := cond_t hc27 H
        refine Eo.val (x := a1) rfl rfl rfl rfl ?_
        obtain ⟨x28, hvx28, H⟩ := bind_some H
        refine Eo.idx h2 hvx28 rfl rfl rfl Tryd.underlying31 rfl rfl rfl rfl ?_
        rintro cs29 p30 _ hat31 rfl
        refine Eo.val (x := (.sp cs29 (p30 + 1) .no)) rfl rfl rfl rfl ?_
        refine Eo.val (x := (.v (.string x28.f_Text))) (op_loadSp hat31 1 rfl rfl rfl rfl rfl) rfl rfl rfl ?_
        obtain ⟨r32, hvr32, H⟩ := bind_some H
        refine Eo.call rfl rfl rfl rfl (gdovetailref12_Name_ok hp14 hvr32) ?_
        rintro _ σ34 ⟨rfl, hp33⟩
        refine Eo.val (x := (.v (.bool r32))) rfl rfl rfl rfl ?_
        refine Eo.nil ?_
        obtain rfl := Option.some.inj H
        exact And.intro rfl ⟨hp33, (.cons rfl (.cons rfl (.cons rfl (.nil'))))⟩
    · skip
      intro x φ37 σ36 hJ
      obtain ⟨rfl, hp35, hf38⟩ := hJ
      refine ⟨rfl, Eo.of (F := [(0, a1), (2, (.v (.bool false))), (19, (.v (.bool x26)))]) hf38 ?_⟩
      refine Eo.val (x := (.v (.bool x26))) rfl rfl rfl rfl ?_
      obtain ⟨x44, hv72, H⟩ := bind_some H
      refine Eo.cutN 6 (J := (fun (x44 : Bool) (x : X) (φ : Fr) (s : St) => x = .normal ∧ (Hp s (R) ∧ Fl [(0, a1), (2, (.v (.bool false))), (26, (.v (.bool x44)))] φ)) x44) ?_ ?_
      · have H := hv72
        cases hc45 : x26
        · have H := cond_f hc45 H
          refine Eo.off rfl rfl rfl ?_
          refine Eo.off rfl rfl rfl ?_
          refine Eo.off rfl rfl rfl ?_
          refine Eo.off rfl rfl rfl ?_
          refine Eo.off rfl rfl rfl ?_
          refine Eo.val (x := (.v (.bool false))) rfl rfl rfl rfl ?_
          refine Eo.nil ?_
          obtain rfl := Option.some.inj H
          exact And.intro rfl ⟨hp35, (.cons rfl (.cons rfl (.cons rfl (.nil'))))⟩
        · have H := cond_t hc45 H
          refine Eo.val (x := a1) rfl rfl rfl rfl ?_
          obtain ⟨x46, hvx46, H⟩ := bind_some H
          refine Eo.idx h2 hvx46 rfl rfl rfl Tryd.underlying31 rfl rfl rfl rfl ?_
          rintro cs47 p48 _ hat49 rfl
          refine Eo.val (x := (.sp cs47 p48 .no)) rfl rfl rfl rfl ?_
          refine Eo.val (x := (.v (.int .i64 x46.f_Kind))) (op_loadSp hat49 0 rfl rfl rfl rfl rfl) rfl rfl rfl ?_
          refine Eo.val (x := (.v (.bool (x46.f_Kind == 2)))) rfl rfl rfl rfl ?_
          refine Eo.val (x := (.v (.bool (x46.f_Kind == 2)))) rfl rfl rfl rfl ?_
          refine Eo.nil ?_
          obtain rfl := Option.some.inj H
          exact And.intro rfl ⟨hp35, (.cons rfl (.cons rfl (.cons rfl (.nil'))))⟩
      · skip
        intro x φ52 σ51 hJ
        obtain ⟨rfl, hp50, hf53⟩ := hJ
        refine ⟨rfl, Eo.of (F := [(0, a1), (2, (.v (.bool false))), (26, (.v (.bool x44)))]) hf53 ?_⟩
        refine Eo.val (x := (.v (.bool x44))) rfl rfl rfl rfl ?_
        obtain ⟨x59, hv70, H⟩ := bind_some H
        refine Eo.cutN 6 (J := (fun (x59 : Bool) (x : X) (φ : Fr) (s : St) => x = .normal ∧ (Hp s (R) ∧ Fl [(2, (.v (.bool false))), (33, (.v (.bool x59)))] φ)) x59) ?_ ?_
        · have H := hv70
          cases hc60 : x44
          · have H := cond_f hc60 H
            refine Eo.off rfl rfl rfl ?_
            refine Eo.off rfl rfl rfl ?_
            refine Eo.off rfl rfl rfl ?_
            refine Eo.off rfl rfl rfl ?_
            refine Eo.off rfl rfl rfl ?_
            refine Eo.val (x := (.v (.bool false))) rfl rfl rfl rfl ?_
            refine Eo.nil ?_
            obtain rfl := Option.some.inj H
            exact And.intro rfl ⟨hp50, (.cons rfl (.cons rfl (.nil')))⟩
          · have H := cond_t hc60 H
            refine Eo.val (x := a1) rfl rfl rfl rfl ?_
            obtain ⟨x61, hvx61, H⟩ := bind_some H
            refine Eo.idx h2 hvx61 rfl rfl rfl Tryd.underlying31 rfl rfl rfl rfl ?_
            rintro cs62 p63 _ hat64 rfl
            refine Eo.val (x := (.sp cs62 (p63 + 1) .no)) rfl rfl rfl rfl ?_
            refine Eo.val (x := (.v (.string x61.f_Text))) (op_loadSp hat64 1 rfl rfl rfl rfl rfl) rfl rfl rfl ?_
            refine Eo.val (x := (.v (.bool (decide (x61.f_Text = (ByteArray.mk #[58])))))) (val_b rfl (seq_eq _ _)) rfl rfl rfl ?_
            refine Eo.val (x := (.v (.bool (decide (x61.f_Text = (ByteArray.mk #[58])))))) rfl rfl rfl rfl ?_
            refine Eo.nil ?_
            obtain rfl := Option.some.inj H
            exact And.intro rfl ⟨hp50, (.cons rfl (.cons rfl (.nil')))⟩
        · skip
          intro x φ67 σ66 hJ
          obtain ⟨rfl, hp65, hf68⟩ := hJ
          refine ⟨rfl, Eo.of (F := [(2, (.v (.bool false))), (33, (.v (.bool x59)))]) hf68 ?_⟩
          refine Eo.val (x := (.v (.bool x59))) rfl rfl rfl rfl ?_
          refine Eo.nil ?_
          obtain rfl := Option.some.inj H
          refine Ec.ret ?_
          refine Ret.mk rfl ?_
          exact ⟨rfl, hp65⟩

def gdovetailref13_SameToks_L1 (N : Nat) (p0 : (List TTok)) (p1 : (List TTok)) : Nat → Int → Option (LR Unit Bool)
  | 0, _ => none
  | m + 1, y31 => (cond (decide (y31 < ((p0.length : Nat) : Int))) (((((atL p0 y31).bind fun x67 => ((atL p1 y31).bind fun x71 => some (!((x67.f_Kind == x71.f_Kind) && ((decide (x67.f_Text = x71.f_Text)) && true))))) : Option (Bool)).bind fun x66 => (cond x66 (some (.ret false)) (gdovetailref13_SameToks_L1 N p0 p1 m (IntKind.wrap .i64 (y31 + 1)))))) (some (.out ())))

def gdovetailref13_SameToks (n : Nat) (p0 : (List TTok)) (p1 : (List TTok)) : Option (Bool) := (cond (((p0.length : Nat) : Int) != ((p1.length : Nat) : Int)) (some false) (((gdovetailref13_SameToks_L1 n p0 p1 n 0).bind fun v => match v with | .out _ => some true | .ret r88 => some r88)))

def gdovetailref13_SameToks_post (R : List Res) (r : Bool) (x : A) (s : St) : Prop := x = (.v (.bool r)) ∧ Hp s (R)

theorem gdovetailref13_SameToks_ok {n : Nat} {p0 : (List TTok)} {p1 : (List TTok)} {a1 a3 : A} {R : List Res} {σ : St} (h2 : Sl rTTok a1 p0) (h4 : Sl rTTok a3 p1) (hp : Hp σ R) {r : Bool} (H : gdovetailref13_SameToks n p0 p1 = some r) : Ca cfg 14 [a1, a3] σ (gdovetailref13_SameToks_post R r) := by
  unfold gdovetailref13_SameToks at H
  refine Ca.enterL (G := [(0, a1), (1, a3)]) Tryd.func14 rfl rfl rfl rfl ?_
  refine Ec.seq ?_
  refine Ec.region ?_
  refine Eo.val (x := (.v (.bool false))) rfl rfl rfl rfl ?_
  refine Eo.nil ?_
  refine Ec.seq ?_
  refine Ec.seq ?_
  refine Ec.region ?_
  refine Eo.val (x := a1) rfl rfl rfl rfl ?_
  refine Eo.val (x := (.v (.int .i64 ((p0.length : Nat) : Int)))) (op_lenL h2 rfl rfl rfl rfl rfl Tryd.underlying31) rfl rfl rfl ?_
  refine Eo.val (x := a3) rfl rfl rfl rfl ?_
  refine Eo.val (x := (.v (.int .i64 ((p1.length : Nat) : Int)))) (op_lenL h4 rfl rfl rfl rfl rfl Tryd.underlying31) rfl rfl rfl ?_
  refine Eo.val (x := (.v (.bool (((p0.length : Nat) : Int) != ((p1.length : Nat) : Int))))) rfl rfl rfl rfl ?_
  refine Eo.nil ?_
  refine Ec.cond (t := (((p0.length : Nat) : Int) != ((p1.length : Nat) : Int))) rfl (fun hc5 => ?_) (fun hc5 => ?_)
  · have H := cond_t hc5 H
    refine Ec.seq ?_
    refine Ec.region ?_
    refine Eo.val (x := (.v (.bool false))) rfl rfl rfl rfl ?_
    refine Eo.nil ?_
    obtain rfl := Option.some.inj H
    refine Ec.ret ?_
    refine Ret.mk rfl ?_
    exact ⟨rfl, hp⟩
  · have H := cond_f hc5 H
    refine Ec.skip ?_
    refine Ec.seq ?_
    refine Ec.seq ?_
    refine Ec.region ?_
    refine Eo.val (x := a1) rfl rfl rfl rfl ?_
    refine Eo.val (x := (.v (.int .i64 ((p0.length : Nat) : Int)))) (op_lenL h2 rfl rfl rfl rfl rfl Tryd.underlying31) rfl rfl rfl ?_
    refine Eo.val (x := (.v (.int .i64 0))) rfl rfl rfl rfl ?_
    refine Eo.nil ?_
    refine Ec.block ?_
    obtain ⟨v82, hv83, H⟩ := bind_some H
    refine Ec.cut (J := (fun (v : LR Unit Bool) (x : X) (φ : Fr) (s : St) => match v with | .out _ => x = (.exit 0) ∧ (Hp s (R) ∧ Fl [] φ) | .ret r => x = .ret ∧ Ret cfg Tryd.f14 (gdovetailref13_SameToks_post R r) .ret φ s) v82) (Ec.weak (.cons rfl (.cons rfl (.cons rfl (.cons rfl (.nil'))))) (Ec.loopF (f := (fun m (i : Int × Unit) => gdovetailref13_SameToks_L1 n p0 p1 m i.1)) (G := (fun (i : Int × Unit) => ([(0, a1), (1, a3), (12, (.v (.int .i64 ((p0.length : Nat) : Int)))), (13, (.v (.int .i64 i.1)))] : List (Nat × A)))) (I := (fun (i : Int × Unit) (s : St) => Hp s (R))) (J := (fun (v : LR Unit Bool) (x : X) (φ : Fr) (s : St) => match v with | .out _ => x = (.exit 0) ∧ (Hp s (R) ∧ Fl [] φ) | .ret r => x = .ret ∧ Ret cfg Tryd.f14 (gdovetailref13_SameToks_post R r) .ret φ s)) (fun _ => rfl) ?_ n (0, ()) _ v82 hp hv83)) ?_
    · rintro m ⟨y31, _⟩ σ0 v hp0 H ih
      change gdovetailref13_SameToks_L1 n p0 p1 (m + 1) y31 = some v at H
      rw [gdovetailref13_SameToks_L1] at H
      change Ec _ _ _ [(0, a1), (1, a3), (12, (.v (.int .i64 ((p0.length : Nat) : Int)))), (13, (.v (.int .i64 y31)))] σ0 _
      refine Ec.seq ?_
      refine Ec.region ?_
      refine Eo.val (x := (.v (.bool (decide (y31 < ((p0.length : Nat) : Int)))))) rfl rfl rfl rfl ?_
      refine Eo.nil ?_
      refine Ec.seq ?_
      refine Ec.cond (t := (decide (y31 < ((p0.length : Nat) : Int)))) rfl (fun hc57 => ?_) (fun hc57 => ?_)
      · have H := cond_t hc57 H
        refine Ec.skip ?_
        refine Ec.seq ?_
        refine Ec.block ?_
        refine Ec.seq ?_
        refine Ec.region ?_
        refine Eo.val (x := (.v (.int .i64 y31))) rfl rfl rfl rfl ?_
        refine Eo.val (x := (.v (.int .i64 y31))) rfl rfl rfl rfl ?_
        refine Eo.nil ?_
        refine Ec.seq ?_
        obtain ⟨x66, hv81, H⟩ := bind_some H
        refine Ec.cut (J := (fun (x66 : Bool) (x : X) (φ : Fr) (s : St) => x = .normal ∧ (Hp s (R) ∧ Fl [(0, a1), (1, a3), (12, (.v (.int .i64 ((p0.length : Nat) : Int)))), (13, (.v (.int .i64 y31))), (24, (.v (.bool x66)))] φ)) x66) ?_ ?_
        · have H := hv81
          refine Ec.drawn (by kernel_rfl) ?_
          refine Eo.val (x := a1) rfl rfl rfl rfl ?_
          refine Eo.val (x := (.v (.int .i64 y31))) rfl rfl rfl rfl ?_
          obtain ⟨x67, hvx67, H⟩ := bind_some H
          refine Eo.idx h2 hvx67 rfl rfl rfl Tryd.underlying31 rfl rfl rfl rfl ?_
          rintro cs68 p69 _ hat70 rfl
          refine Eo.val (x := (.agg [(.v (.int .i64 x67.f_Kind)), (.v (.string x67.f_Text))])) (op_loadSpAgg hat70 0 rfl rfl rfl rfl rfl rfl) rfl rfl rfl ?_
          refine Eo.val (x := a3) rfl rfl rfl rfl ?_
          refine Eo.val (x := (.v (.int .i64 y31))) rfl rfl rfl rfl ?_
          obtain ⟨x71, hvx71, H⟩ := bind_some H
          refine Eo.idx h4 hvx71 rfl rfl rfl Tryd.underlying31 rfl rfl rfl rfl ?_
          rintro cs72 p73 _ hat74 rfl
          refine Eo.val (x := (.agg [(.v (.int .i64 x71.f_Kind)), (.v (.string x71.f_Text))])) (op_loadSpAgg hat74 0 rfl rfl rfl rfl rfl rfl) rfl rfl rfl ?_
          refine Eo.val (x := (.v (.bool (!((x67.f_Kind == x71.f_Kind) && ((decide (x67.f_Text = x71.f_Text)) && true)))))) (op_neSt rfl rfl rfl rfl rfl Tryd.underlying48 (by kernel_rfl) (by kernel_rfl) (fun d => (det_eqF_cons rfl rfl rfl (det_eqI Tryd.underlying3) (det_eqF_cons rfl rfl rfl (det_eqS Tryd.underlying9) det_eqF_nil)))) rfl rfl rfl ?_
          refine Eo.nil ?_
          obtain rfl := Option.some.inj H
          exact And.intro rfl (And.intro rfl ⟨hp0, (.cons rfl (.cons rfl (.cons rfl (.cons rfl (.cons rfl (.nil'))))))⟩)
        · skip
          intro x φ77 σ76 hJ
          obtain ⟨rfl, hp75, hf78⟩ := hJ
          refine Ec.of (F := [(0, a1), (1, a3), (12, (.v (.int .i64 ((p0.length : Nat) : Int)))), (13, (.v (.int .i64 y31))), (24, (.v (.bool x66)))]) hf78 ?_
          refine Ec.cond (t := x66) rfl (fun hc79 => ?_) (fun hc79 => ?_)
          · have H := cond_t hc79 H
            refine Ec.seq ?_
            refine Ec.region ?_
            refine Eo.val (x := (.v (.bool false))) rfl rfl rfl rfl ?_
            refine Eo.nil ?_
            obtain rfl := Option.some.inj H
            refine Ec.ret ?_
            refine And.intro rfl (Ret.mk rfl ?_)
            exact ⟨rfl, hp75⟩
          · have H := cond_f hc79 H
            refine Ec.skip ?_
            refine Ec.region ?_
            refine Eo.val (x := (.v (.int .i64 (IntKind.wrap .i64 (y31 + 1))))) rfl rfl rfl rfl ?_
            refine Eo.val (x := (.v (.int .i64 (IntKind.wrap .i64 (y31 + 1))))) rfl rfl rfl rfl ?_
            refine Eo.nil ?_
            exact Ec.of (.cons rfl (.cons rfl (.cons rfl (.cons rfl (.nil'))))) (ih ((IntKind.wrap .i64 (y31 + 1)), ()) _ hp75 H)
      · have H := cond_f hc57 H
        refine Ec.exit ?_
        obtain rfl := Option.some.inj H
        exact And.intro rfl ⟨hp0, (.nil')⟩
    · rcases v82 with _ | r88
      · intro x φ86 σ85 hJ
        obtain ⟨rfl, hp84, hf87⟩ := hJ
        refine Ec.of (F := []) hf87 ?_
        refine Ec.seq ?_
        refine Ec.region ?_
        refine Eo.val (x := (.v (.bool true))) rfl rfl rfl rfl ?_
        refine Eo.nil ?_
        obtain rfl := Option.some.inj H
        refine Ec.ret ?_
        refine Ret.mk rfl ?_
        exact ⟨rfl, hp84⟩
      · intro x φ89 σ90 hJ
        obtain rfl := Option.some.inj H
        obtain ⟨rfl, hr⟩ := hJ
        exact hr

def gdovetailref13_Words_L1 (N : Nat) (p0 : ByteArray) : Nat → Int → Option (LR Unit ((List TTok) × Int))
  | 0, _ => none
  | m + 1, y4 => (cond (decide (y4 < ((p0.size : Nat) : Int))) (((atS p0 y4).bind fun b9 => (cond (b9 == 10) (some (.ret (([] : List TTok), 131))) (gdovetailref13_Words_L1 N p0 m (IntKind.wrap .i64 (y4 + 1)))))) (some (.out ())))

def gdovetailref13_Words_L3 (N : Nat) (p0 : ByteArray) : Nat → Int → Option (Int)
  | 0, _ => none
  | m + 1, y349 => (((cond (decide (y349 < ((p0.size : Nat) : Int))) (((atS p0 y349).bind fun b376 => ((gdovetailref13_InWord N b376).bind fun r377 => some r377))) (some false)) : Option (Bool)).bind fun x374 => (cond x374 (gdovetailref13_Words_L3 N p0 m (IntKind.wrap .i64 (y349 + 1))) (some y349)))

def gdovetailref13_Words_L2 (N : Nat) (p0 : ByteArray) : Nat → (List TTok) → Int → Option (LR (List TTok) ((List TTok) × Int))
  | 0, _, _ => none
  | m + 1, y146, y149 => (((cond (decide (y149 < ((p0.size : Nat) : Int))) (((atS p0 y149).bind fun b283 => some (b283 != 35))) (some false)) : Option (Bool)).bind fun x281 => (cond x281 (((atS p0 y149).bind fun b289 => (cond ((b289 == 32) || (b289 == 9)) (gdovetailref13_Words_L2 N p0 m y146 (IntKind.wrap .i64 (y149 + 1))) ((cond (b289 == 34) (((gdovetailref13_text N p0 y149).bind fun v => match v with | (r298, r299, r300) => (cond (!r300) (some (.ret (([] : List TTok), 131))) (((appL 24 y146 ([(TTok.mk 3 r298)] : List TTok)).bind fun l308 => gdovetailref13_Words_L2 N p0 m l308 r299))))) (((gdovetailref13_Sign N b289).bind fun r313 => (cond r313 (((subS p0 y149 (IntKind.wrap .i64 (y149 + 1))).bind fun s317 => ((appL 24 y146 ([(TTok.mk 2 s317)] : List TTok)).bind fun l322 => gdovetailref13_Words_L2 N p0 m l322 (IntKind.wrap .i64 (y149 + 1))))) (((gdovetailref13_InWord N b289).bind fun r327 => (cond r327 (((gdovetailref13_Words_L3 N p0 N y149).bind fun x368 => ((subS p0 y149 x368).bind fun s393 => ((appL 24 y146 ([(TTok.mk 1 s393)] : List TTok)).bind fun l398 => gdovetailref13_Words_L2 N p0 m l398 x368)))) (some (.ret (([] : List TTok), 131)))))))))))))) (some (.out y146))))

def gdovetailref13_Words (n : Nat) (p0 : ByteArray) : Option (((List TTok) × Int)) := ((gdovetailref13_Words_L1 n p0 n 0).bind fun v => match v with | .out _ => ((gdovetailref13_Words_L2 n p0 n ([] : List TTok) 0).bind fun v => match v with | .out x276 => (cond (decide (((x276.length : Nat) : Int) > 64)) (some (([] : List TTok), 133)) (some (x276, 0))) | .ret r412 => some r412) | .ret r415 => some r415)

def gdovetailref13_Words_post (R : List Res) (r : ((List TTok) × Int)) (x : A) (s : St) : Prop := ∃ (a418 : A), x = (.tup [a418, (.v (.int .i64 r.2))]) ∧ Sl rTTok a418 r.1 ∧ Hp s (.app a418 48 :: R)

theorem gdovetailref13_Words_ok {n : Nat} {p0 : ByteArray} {R : List Res} {σ : St} (hp : Hp σ R) {r : ((List TTok) × Int)} (H : gdovetailref13_Words n p0 = some r) : Ca cfg 12 [(.v (.string p0))] σ (gdovetailref13_Words_post R r) := by
  unfold gdovetailref13_Words at H
  refine Ca.enterL (G := [(0, (.v (.string p0)))]) Tryd.func12 rfl rfl rfl rfl ?_
  refine Ec.seq ?_
  refine Ec.region ?_
  refine Eo.val (x := nilS) rfl rfl rfl rfl ?_
  refine Eo.val (x := (.v (.int .i64 0))) rfl rfl rfl rfl ?_
  refine Eo.nil ?_
  refine Ec.seq ?_
  refine Ec.seq ?_
  refine Ec.region ?_
  refine Eo.val (x := (.v (.int .i64 0))) rfl rfl rfl rfl ?_
  refine Eo.nil ?_
  refine Ec.block ?_
  obtain ⟨v11, hv12, H⟩ := bind_some H
  refine Ec.cut (J := (fun (v : LR Unit ((List TTok) × Int)) (x : X) (φ : Fr) (s : St) => match v with | .out _ => x = (.exit 0) ∧ (Hp s (R) ∧ Fl [(0, (.v (.string p0)))] φ) | .ret r => x = .ret ∧ Ret cfg Tryd.f12 (gdovetailref13_Words_post R r) .ret φ s) v11) (Ec.weak (.cons rfl (.cons rfl (.nil'))) (Ec.loopF (f := (fun m (i : Int × Unit) => gdovetailref13_Words_L1 n p0 m i.1)) (G := (fun (i : Int × Unit) => ([(0, (.v (.string p0))), (4, (.v (.int .i64 i.1)))] : List (Nat × A)))) (I := (fun (i : Int × Unit) (s : St) => Hp s (R))) (J := (fun (v : LR Unit ((List TTok) × Int)) (x : X) (φ : Fr) (s : St) => match v with | .out _ => x = (.exit 0) ∧ (Hp s (R) ∧ Fl [(0, (.v (.string p0)))] φ) | .ret r => x = .ret ∧ Ret cfg Tryd.f12 (gdovetailref13_Words_post R r) .ret φ s)) (fun _ => rfl) ?_ n (0, ()) _ v11 hp hv12)) ?_
  · rintro m ⟨y4, _⟩ σ0 v hp0 H ih
    change gdovetailref13_Words_L1 n p0 (m + 1) y4 = some v at H
    rw [gdovetailref13_Words_L1] at H
    change Ec _ _ _ [(0, (.v (.string p0))), (4, (.v (.int .i64 y4)))] σ0 _
    refine Ec.seq ?_
    refine Ec.seq ?_
    refine Ec.region ?_
    refine Eo.val (x := (.v (.int .i64 y4))) rfl rfl rfl rfl ?_
    refine Eo.val (x := (.v (.string p0))) rfl rfl rfl rfl ?_
    refine Eo.val (x := (.v (.int .i64 ((p0.size : Nat) : Int)))) (op_len rfl rfl rfl rfl rfl Tryd.underlying9) rfl rfl rfl ?_
    refine Eo.val (x := (.v (.bool (decide (y4 < ((p0.size : Nat) : Int)))))) rfl rfl rfl rfl ?_
    refine Eo.nil ?_
    refine Ec.cond (t := (decide (y4 < ((p0.size : Nat) : Int)))) rfl (fun hc8 => ?_) (fun hc8 => ?_)
    · have H := cond_t hc8 H
      refine Ec.skip ?_
      refine Ec.seq ?_
      refine Ec.block ?_
      refine Ec.seq ?_
      refine Ec.region ?_
      refine Eo.val (x := (.v (.string p0))) rfl rfl rfl rfl ?_
      refine Eo.val (x := (.v (.int .i64 y4))) rfl rfl rfl rfl ?_
      obtain ⟨b9, hvb9, H⟩ := bind_some H
      refine Eo.val (op_byteS hvb9 rfl rfl rfl Tryd.underlying9) rfl rfl rfl ?_
      refine Eo.val (x := (.v (.bool (b9 == 10)))) rfl rfl rfl rfl ?_
      refine Eo.nil ?_
      refine Ec.cond (t := (b9 == 10)) rfl (fun hc10 => ?_) (fun hc10 => ?_)
      · have H := cond_t hc10 H
        refine Ec.seq ?_
        refine Ec.region ?_
        refine Eo.val (x := nilS) rfl rfl rfl rfl ?_
        refine Eo.val (x := (.v (.int .i64 131))) rfl rfl rfl rfl ?_
        refine Eo.nil ?_
        obtain rfl := Option.some.inj H
        refine Ec.ret ?_
        refine And.intro rfl (Ret.mk rfl ?_)
        exact ⟨nilS, rfl, Sl.nil, (Hp.appNil hp0 48)⟩
      · have H := cond_f hc10 H
        refine Ec.skip ?_
        refine Ec.region ?_
        refine Eo.val (x := (.v (.int .i64 y4))) rfl rfl rfl rfl ?_
        refine Eo.val (x := (.v (.int .i64 (IntKind.wrap .i64 (y4 + 1))))) rfl rfl rfl rfl ?_
        refine Eo.val (x := (.v (.int .i64 (IntKind.wrap .i64 (y4 + 1))))) rfl rfl rfl rfl ?_
        refine Eo.nil ?_
        exact Ec.of (.cons rfl (.cons rfl (.nil'))) (ih ((IntKind.wrap .i64 (y4 + 1)), ()) _ hp0 H)
    · have H := cond_f hc8 H
      refine Ec.exit ?_
      obtain rfl := Option.some.inj H
      exact And.intro rfl ⟨hp0, (.cons rfl (.nil'))⟩
  · rcases v11 with _ | r415
    · intro x φ15 σ14 hJ
      obtain ⟨rfl, hp13, hf16⟩ := hJ
      refine Ec.of (F := [(0, (.v (.string p0)))]) hf16 ?_
      refine Ec.seq ?_
      refine Ec.region ?_
      refine Eo.val (x := (.sl 2 [] .ex)) rfl rfl rfl rfl ?_
      have hp19 := Hp.appEx hp13 48 2 []
      refine Eo.val (x := (.sl 2 [] .ex)) rfl rfl rfl rfl ?_
      refine Eo.nil ?_
      refine Ec.seq ?_
      refine Ec.region ?_
      refine Eo.val (x := (.v (.int .i64 0))) rfl rfl rfl rfl ?_
      refine Eo.nil ?_
      refine Ec.seq ?_
      refine Ec.block ?_
      obtain ⟨v405, hv406, H⟩ := bind_some H
      refine Ec.cut (J := (fun (v : LR (List TTok) ((List TTok) × Int)) (x : X) (φ : Fr) (s : St) => match v with | .out x276 => x = (.exit 2) ∧ (∃ (a277 : A), Sl rTTok a277 x276 ∧ Hp s (.app a277 48 :: R) ∧ Fl [(5, a277)] φ) | .ret r => x = .ret ∧ Ret cfg Tryd.f12 (gdovetailref13_Words_post R r) .ret φ s) v405) (Ec.weak (.cons rfl (.cons rfl (.cons rfl (.nil')))) (Ec.loopF (f := (fun m (i : ((List TTok) × Int) × A) => gdovetailref13_Words_L2 n p0 m i.1.1 i.1.2)) (G := (fun (i : ((List TTok) × Int) × A) => ([(0, (.v (.string p0))), (5, i.2), (6, (.v (.int .i64 i.1.2)))] : List (Nat × A)))) (I := (fun (i : ((List TTok) × Int) × A) (s : St) => Sl rTTok i.2 i.1.1 ∧ Hp s (.app i.2 48 :: R))) (J := (fun (v : LR (List TTok) ((List TTok) × Int)) (x : X) (φ : Fr) (s : St) => match v with | .out x276 => x = (.exit 2) ∧ (∃ (a277 : A), Sl rTTok a277 x276 ∧ Hp s (.app a277 48 :: R) ∧ Fl [(5, a277)] φ) | .ret r => x = .ret ∧ Ret cfg Tryd.f12 (gdovetailref13_Words_post R r) .ret φ s)) (fun _ => rfl) ?_ n ((([] : List TTok), 0), (.sl 2 [] .ex)) _ v405 ⟨(.inr ⟨_, _, rfl, .nil⟩ : Sl rTTok (.sl 2 [] .ex) ([] : List TTok)), hp19⟩ hv406)) ?_
      · rintro m ⟨⟨y146, y149⟩, a147⟩ σ0 v ⟨h148, hp0⟩ H ih
        change gdovetailref13_Words_L2 n p0 (m + 1) y146 y149 = some v at H
        rw [gdovetailref13_Words_L2] at H
        change Ec _ _ _ [(0, (.v (.string p0))), (5, a147), (6, (.v (.int .i64 y149)))] σ0 _
        refine Ec.seq ?_
        refine Ec.seq ?_
        refine Ec.region ?_
        refine Eo.val (x := (.v (.int .i64 y149))) rfl rfl rfl rfl ?_
        refine Eo.val (x := (.v (.string p0))) rfl rfl rfl rfl ?_
        refine Eo.val (x := (.v (.int .i64 ((p0.size : Nat) : Int)))) (op_len rfl rfl rfl rfl rfl Tryd.underlying9) rfl rfl rfl ?_
        refine Eo.val (x := (.v (.bool (decide (y149 < ((p0.size : Nat) : Int)))))) rfl rfl rfl rfl ?_
        refine Eo.val (x := (.v (.bool (decide (y149 < ((p0.size : Nat) : Int)))))) rfl rfl rfl rfl ?_
        obtain ⟨x281, hv404, H⟩ := bind_some H
        refine Eo.cutN 5 (J := (fun (x281 : Bool) (x : X) (φ : Fr) (s : St) => x = .normal ∧ (Hp s (.app a147 48 :: R) ∧ Fl [(0, (.v (.string p0))), (5, a147), (6, (.v (.int .i64 y149))), (32, (.v (.bool x281)))] φ)) x281) ?_ ?_
        · have H := hv404
          cases hc282 : (decide (y149 < ((p0.size : Nat) : Int)))
          · have H := cond_f hc282 H
            refine Eo.off rfl rfl rfl ?_
            refine Eo.off rfl rfl rfl ?_
            refine Eo.off rfl rfl rfl ?_
            refine Eo.off rfl rfl rfl ?_
            refine Eo.val (x := (.v (.bool false))) rfl rfl rfl rfl ?_
            refine Eo.nil ?_
            obtain rfl := Option.some.inj H
            exact And.intro rfl ⟨hp0, (.cons rfl (.cons rfl (.cons rfl (.cons rfl (.nil')))))⟩
          · have H := cond_t hc282 H
            refine Eo.val (x := (.v (.string p0))) rfl rfl rfl rfl ?_
            refine Eo.val (x := (.v (.int .i64 y149))) rfl rfl rfl rfl ?_
            obtain ⟨b283, hvb283, H⟩ := bind_some H
            refine Eo.val (op_byteS hvb283 rfl rfl rfl Tryd.underlying9) rfl rfl rfl ?_
            refine Eo.val (x := (.v (.bool (b283 != 35)))) rfl rfl rfl rfl ?_
            refine Eo.val (x := (.v (.bool (b283 != 35)))) rfl rfl rfl rfl ?_
            refine Eo.nil ?_
            obtain rfl := Option.some.inj H
            exact And.intro rfl ⟨hp0, (.cons rfl (.cons rfl (.cons rfl (.cons rfl (.nil')))))⟩
        · skip
          intro x φ286 σ285 hJ
          obtain ⟨rfl, hp284, hf287⟩ := hJ
          refine ⟨rfl, Eo.of (F := [(0, (.v (.string p0))), (5, a147), (6, (.v (.int .i64 y149))), (32, (.v (.bool x281)))]) hf287 ?_⟩
          refine Eo.nil ?_
          refine Ec.cond (t := x281) rfl (fun hc288 => ?_) (fun hc288 => ?_)
          · have H := cond_t hc288 H
            refine Ec.skip ?_
            refine Ec.block ?_
            refine Ec.seq ?_
            refine Ec.region ?_
            refine Eo.val (x := (.v (.string p0))) rfl rfl rfl rfl ?_
            refine Eo.val (x := (.v (.int .i64 y149))) rfl rfl rfl rfl ?_
            obtain ⟨b289, hvb289, H⟩ := bind_some H
            refine Eo.val (op_byteS hvb289 rfl rfl rfl Tryd.underlying9) rfl rfl rfl ?_
            refine Eo.val (x := (.v (.int .u8 b289))) rfl rfl rfl rfl ?_
            refine Eo.nil ?_
            refine Ec.block ?_
            refine Ec.seq ?_
            refine Ec.region ?_
            refine Eo.val (x := (.v (.int .u8 b289))) rfl rfl rfl rfl ?_
            refine Eo.val (x := (.v (.bool (b289 == 32)))) rfl rfl rfl rfl ?_
            refine Eo.val (x := (.v (.bool (b289 == 32)))) rfl rfl rfl rfl ?_
            refine Eo.cutF 3 [(0, (.v (.string p0))), (5, a147), (6, (.v (.int .i64 y149))), (7, (.v (.int .u8 b289))), (42, (.v (.bool ((b289 == 32) || (b289 == 9)))))] ?_ ?_
            · skip
              cases hc292 : (b289 == 32)
              · skip
                refine Eo.val (x := (.v (.int .u8 b289))) rfl rfl rfl rfl ?_
                refine Eo.val (x := (.v (.bool (b289 == 9)))) rfl rfl rfl rfl ?_
                refine Eo.val (x := (.v (.bool (b289 == 9)))) rfl rfl rfl rfl ?_
                exact Eo.nil (And.intro rfl (And.intro rfl (.cons rfl (.cons rfl (.cons rfl (.cons rfl (.cons rfl (.nil'))))))))
              · skip
                refine Eo.off rfl rfl rfl ?_
                refine Eo.off rfl rfl rfl ?_
                refine Eo.val (x := (.v (.bool true))) rfl rfl rfl rfl ?_
                exact Eo.nil (And.intro rfl (And.intro rfl (.cons rfl (.cons rfl (.cons rfl (.cons rfl (.cons rfl (.nil'))))))))
            · skip
              refine Eo.val (x := (.v (.bool ((b289 == 32) || (b289 == 9))))) rfl rfl rfl rfl ?_
              refine Eo.nil ?_
              refine Ec.cond (t := ((b289 == 32) || (b289 == 9))) rfl (fun hc295 => ?_) (fun hc295 => ?_)
              · have H := cond_t hc295 H
                refine Ec.region ?_
                refine Eo.val (x := (.v (.int .i64 y149))) rfl rfl rfl rfl ?_
                refine Eo.val (x := (.v (.int .i64 (IntKind.wrap .i64 (y149 + 1))))) rfl rfl rfl rfl ?_
                refine Eo.val (x := (.v (.int .i64 (IntKind.wrap .i64 (y149 + 1))))) rfl rfl rfl rfl ?_
                refine Eo.nil ?_
                exact Ec.of (.cons rfl (.cons rfl (.cons rfl (.nil')))) (ih ((y146, (IntKind.wrap .i64 (y149 + 1))), a147) _ ⟨h148, hp284⟩ H)
              · have H := cond_f hc295 H
                refine Ec.seq ?_
                refine Ec.region ?_
                refine Eo.val (x := (.v (.int .u8 b289))) rfl rfl rfl rfl ?_
                refine Eo.val (x := (.v (.bool (b289 == 34)))) rfl rfl rfl rfl ?_
                refine Eo.val (x := (.v (.bool (b289 == 34)))) rfl rfl rfl rfl ?_
                refine Eo.nil ?_
                refine Ec.cond (t := (b289 == 34)) rfl (fun hc296 => ?_) (fun hc296 => ?_)
                · have H := cond_t hc296 H
                  refine Ec.seq ?_
                  refine Ec.region ?_
                  refine Eo.val (x := (.v (.string p0))) rfl rfl rfl rfl ?_
                  refine Eo.val (x := (.v (.int .i64 y149))) rfl rfl rfl rfl ?_
                  obtain ⟨r297, hvr297, H⟩ := bind_some H
                  refine Eo.call rfl rfl rfl rfl (gdovetailref13_text_ok hp284 hvr297) ?_
                  obtain ⟨r298, r299, r300⟩ := r297
                  rintro _ σ302 ⟨rfl, hp301⟩
                  refine Eo.val (x := (.tup [(.v (.string r298)), (.v (.int .i64 r299)), (.v (.bool r300))])) rfl rfl rfl rfl ?_
                  refine Eo.val (x := (.v (.string r298))) rfl rfl rfl rfl ?_
                  refine Eo.val (x := (.v (.int .i64 r299))) rfl rfl rfl rfl ?_
                  refine Eo.val (x := (.v (.bool r300))) rfl rfl rfl rfl ?_
                  refine Eo.val (x := (.v (.string r298))) rfl rfl rfl rfl ?_
                  refine Eo.val (x := (.v (.int .i64 r299))) rfl rfl rfl rfl ?_
                  refine Eo.val (x := (.v (.bool r300))) rfl rfl rfl rfl ?_
                  refine Eo.nil ?_
                  refine Ec.seq ?_
                  refine Ec.seq ?_
                  refine Ec.region ?_
                  refine Eo.val (x := (.v (.bool r300))) rfl rfl rfl rfl ?_
                  refine Eo.val (x := (.v (.bool (!r300)))) rfl rfl rfl rfl ?_
                  refine Eo.nil ?_
                  refine Ec.cond (t := (!r300)) rfl (fun hc303 => ?_) (fun hc303 => ?_)
                  · have H := cond_t hc303 H
                    refine Ec.seq ?_
                    refine Ec.region ?_
                    refine Eo.val (x := nilS) rfl rfl rfl rfl ?_
                    refine Eo.val (x := (.v (.int .i64 131))) rfl rfl rfl rfl ?_
                    refine Eo.nil ?_
                    obtain rfl := Option.some.inj H
                    refine Ec.ret ?_
                    refine And.intro rfl (Ret.mk rfl ?_)
                    exact ⟨nilS, rfl, Sl.nil, (Hp.appNil (Hp.drop hp301 0) 48)⟩
                  · have H := cond_f hc303 H
                    refine Ec.skip ?_
                    refine Ec.seq ?_
                    refine Ec.region ?_
                    refine Eo.val (x := a147) rfl rfl rfl rfl ?_
                    refine Eo.val (x := (.v (.string r298))) rfl rfl rfl rfl ?_
                    refine Eo.val (x := (.agg [(.v (.int .i64 3)), (.v (.string r298))])) (op_build (lay_cons rfl rfl rfl rfl rfl (lay_cons rfl rfl rfl rfl rfl lay_nil)) rfl (parts_cons rfl rfl (parts_cons rfl rfl rfl)) Tryd.underlying48 rfl rfl) rfl rfl rfl ?_
                    refine Eo.val (x := (.sl 2 [(.v (.int .i64 3)), (.v (.string r298))] .ex)) (op_buildS (lay_cons rfl rfl rfl rfl rfl lay_nil) rfl (parts_cons rfl rfl rfl) Tryd.underlying31 rfl rfl rfl rfl (by decide) rfl) rfl rfl rfl ?_
                    have h307 : Sl rTTok (.sl 2 [(.v (.int .i64 3)), (.v (.string r298))] .ex) ([(TTok.mk 3 r298)] : List TTok) := .inr ⟨_, _, rfl, (.cons (c := [(.v (.int .i64 3)), (.v (.string r298))]) rfl .nil)⟩
                    have hp306 := Hp.appEx hp301 48 2 [(.v (.int .i64 3)), (.v (.string r298))]
                    obtain ⟨l308, hvl308, H⟩ := bind_some H
                    refine Eo.append hp306 1 rfl h148 (New.of h307) hvl308 rfl rfl rfl rfl rfl rfl rfl Tryd.underlying31 rfl Tryd.underlying31 rfl rfl rfl rfl rfl rfl rfl rfl ?_
                    intro a309 σ312 h310 hp311
                    change Hp σ312 (.app (.sl 2 [(.v (.int .i64 3)), (.v (.string r298))] .ex) 48 :: .app a309 48 :: R) at hp311
                    refine Eo.val (x := a309) rfl rfl rfl rfl ?_
                    refine Eo.nil ?_
                    refine Ec.region ?_
                    refine Eo.val (x := (.v (.int .i64 r299))) rfl rfl rfl rfl ?_
                    refine Eo.val (x := (.v (.int .i64 r299))) rfl rfl rfl rfl ?_
                    refine Eo.nil ?_
                    exact Ec.of (.cons rfl (.cons rfl (.cons rfl (.nil')))) (ih ((l308, r299), a309) _ ⟨h310, (Hp.drop hp311 0)⟩ H)
                · have H := cond_f hc296 H
                  refine Ec.seq ?_
                  refine Ec.region ?_
                  refine Eo.val (x := (.v (.int .u8 b289))) rfl rfl rfl rfl ?_
                  obtain ⟨r313, hvr313, H⟩ := bind_some H
                  refine Eo.call rfl rfl rfl rfl (gdovetailref13_Sign_ok hp284 hvr313) ?_
                  rintro _ σ315 ⟨rfl, hp314⟩
                  refine Eo.val (x := (.v (.bool r313))) rfl rfl rfl rfl ?_
                  refine Eo.nil ?_
                  refine Ec.cond (t := r313) rfl (fun hc316 => ?_) (fun hc316 => ?_)
                  · have H := cond_t hc316 H
                    refine Ec.seq ?_
                    refine Ec.region ?_
                    refine Eo.val (x := a147) rfl rfl rfl rfl ?_
                    refine Eo.val (x := (.v (.string p0))) rfl rfl rfl rfl ?_
                    refine Eo.val (x := (.v (.int .i64 y149))) rfl rfl rfl rfl ?_
                    refine Eo.val (x := (.v (.int .i64 y149))) rfl rfl rfl rfl ?_
                    refine Eo.val (x := (.v (.int .i64 (IntKind.wrap .i64 (y149 + 1))))) rfl rfl rfl rfl ?_
                    obtain ⟨s317, hvs317, H⟩ := bind_some H
                    refine Eo.val (op_partS hvs317 rfl rfl Tryd.underlying9 (.inr ⟨_, _, rfl, rfl⟩) (.inr ⟨_, _, rfl, rfl⟩)) rfl rfl rfl ?_
                    refine Eo.val (x := (.agg [(.v (.int .i64 2)), (.v (.string s317))])) (op_build (lay_cons rfl rfl rfl rfl rfl (lay_cons rfl rfl rfl rfl rfl lay_nil)) rfl (parts_cons rfl rfl (parts_cons rfl rfl rfl)) Tryd.underlying48 rfl rfl) rfl rfl rfl ?_
                    refine Eo.val (x := (.sl 2 [(.v (.int .i64 2)), (.v (.string s317))] .ex)) (op_buildS (lay_cons rfl rfl rfl rfl rfl lay_nil) rfl (parts_cons rfl rfl rfl) Tryd.underlying31 rfl rfl rfl rfl (by decide) rfl) rfl rfl rfl ?_
                    have h321 : Sl rTTok (.sl 2 [(.v (.int .i64 2)), (.v (.string s317))] .ex) ([(TTok.mk 2 s317)] : List TTok) := .inr ⟨_, _, rfl, (.cons (c := [(.v (.int .i64 2)), (.v (.string s317))]) rfl .nil)⟩
                    have hp320 := Hp.appEx hp314 48 2 [(.v (.int .i64 2)), (.v (.string s317))]
                    obtain ⟨l322, hvl322, H⟩ := bind_some H
                    refine Eo.append hp320 1 rfl h148 (New.of h321) hvl322 rfl rfl rfl rfl rfl rfl rfl Tryd.underlying31 rfl Tryd.underlying31 rfl rfl rfl rfl rfl rfl rfl rfl ?_
                    intro a323 σ326 h324 hp325
                    change Hp σ326 (.app (.sl 2 [(.v (.int .i64 2)), (.v (.string s317))] .ex) 48 :: .app a323 48 :: R) at hp325
                    refine Eo.val (x := a323) rfl rfl rfl rfl ?_
                    refine Eo.nil ?_
                    refine Ec.region ?_
                    refine Eo.val (x := (.v (.int .i64 y149))) rfl rfl rfl rfl ?_
                    refine Eo.val (x := (.v (.int .i64 (IntKind.wrap .i64 (y149 + 1))))) rfl rfl rfl rfl ?_
                    refine Eo.val (x := (.v (.int .i64 (IntKind.wrap .i64 (y149 + 1))))) rfl rfl rfl rfl ?_
                    refine Eo.nil ?_
                    exact Ec.of (.cons rfl (.cons rfl (.cons rfl (.nil')))) (ih ((l322, (IntKind.wrap .i64 (y149 + 1))), a323) _ ⟨h324, (Hp.drop hp325 0)⟩ H)
                  · have H := cond_f hc316 H
                    refine Ec.seq ?_
                    refine Ec.region ?_
                    refine Eo.val (x := (.v (.int .u8 b289))) rfl rfl rfl rfl ?_
                    obtain ⟨r327, hvr327, H⟩ := bind_some H
                    refine Eo.call rfl rfl rfl rfl (gdovetailref13_InWord_ok hp314 hvr327) ?_
                    rintro _ σ329 ⟨rfl, hp328⟩
                    refine Eo.val (x := (.v (.bool r327))) rfl rfl rfl rfl ?_
                    refine Eo.nil ?_
                    refine Ec.cond (t := r327) rfl (fun hc330 => ?_) (fun hc330 => ?_)
                    · have H := cond_t hc330 H
                      refine Ec.seq ?_
                      refine Ec.region ?_
                      refine Eo.val (x := (.v (.int .i64 y149))) rfl rfl rfl rfl ?_
                      refine Eo.val (x := (.v (.int .i64 y149))) rfl rfl rfl rfl ?_
                      refine Eo.nil ?_
                      refine Ec.seq ?_
                      refine Ec.block ?_
                      obtain ⟨x368, hv388, H⟩ := bind_some H
                      refine Ec.cut (J := (fun (x368 : Int) (x : X) (φ : Fr) (s : St) => x = (.exit 5) ∧ (Hp s (.app a147 48 :: R) ∧ Fl [(0, (.v (.string p0))), (5, a147), (6, (.v (.int .i64 x368))), (11, (.v (.int .i64 y149)))] φ)) x368) (Ec.weak (.cons rfl (.cons rfl (.cons rfl (.cons rfl (.nil'))))) (Ec.loopF (f := (fun m (i : Int × Unit) => gdovetailref13_Words_L3 n p0 m i.1)) (G := (fun (i : Int × Unit) => ([(0, (.v (.string p0))), (5, a147), (6, (.v (.int .i64 i.1))), (11, (.v (.int .i64 y149)))] : List (Nat × A)))) (I := (fun (i : Int × Unit) (s : St) => Hp s (.app a147 48 :: R))) (J := (fun (x368 : Int) (x : X) (φ : Fr) (s : St) => x = (.exit 5) ∧ (Hp s (.app a147 48 :: R) ∧ Fl [(0, (.v (.string p0))), (5, a147), (6, (.v (.int .i64 x368))), (11, (.v (.int .i64 y149)))] φ))) (fun _ => rfl) ?_ n (y149, ()) _ x368 hp328 hv388)) ?_
                      · rintro m ⟨y349, _⟩ σ0 v hp0 H ih
                        change gdovetailref13_Words_L3 n p0 (m + 1) y349 = some v at H
                        rw [gdovetailref13_Words_L3] at H
                        change Ec _ _ _ [(0, (.v (.string p0))), (5, a147), (6, (.v (.int .i64 y349))), (11, (.v (.int .i64 y149)))] σ0 _
                        refine Ec.seq ?_
                        refine Ec.seq ?_
                        refine Ec.region ?_
                        refine Eo.val (x := (.v (.int .i64 y349))) rfl rfl rfl rfl ?_
                        refine Eo.val (x := (.v (.string p0))) rfl rfl rfl rfl ?_
                        refine Eo.val (x := (.v (.int .i64 ((p0.size : Nat) : Int)))) (op_len rfl rfl rfl rfl rfl Tryd.underlying9) rfl rfl rfl ?_
                        refine Eo.val (x := (.v (.bool (decide (y349 < ((p0.size : Nat) : Int)))))) rfl rfl rfl rfl ?_
                        refine Eo.val (x := (.v (.bool (decide (y349 < ((p0.size : Nat) : Int)))))) rfl rfl rfl rfl ?_
                        obtain ⟨x374, hv386, H⟩ := bind_some H
                        refine Eo.cutN 5 (J := (fun (x374 : Bool) (x : X) (φ : Fr) (s : St) => x = .normal ∧ (Hp s (.app a147 48 :: R) ∧ Fl [(0, (.v (.string p0))), (5, a147), (6, (.v (.int .i64 y349))), (11, (.v (.int .i64 y149))), (90, (.v (.bool x374)))] φ)) x374) ?_ ?_
                        · have H := hv386
                          cases hc375 : (decide (y349 < ((p0.size : Nat) : Int)))
                          · have H := cond_f hc375 H
                            refine Eo.off rfl rfl rfl ?_
                            refine Eo.off rfl rfl rfl ?_
                            refine Eo.off rfl rfl rfl ?_
                            refine Eo.off rfl rfl rfl ?_
                            refine Eo.val (x := (.v (.bool false))) rfl rfl rfl rfl ?_
                            refine Eo.nil ?_
                            obtain rfl := Option.some.inj H
                            exact And.intro rfl ⟨hp0, (.cons rfl (.cons rfl (.cons rfl (.cons rfl (.cons rfl (.nil'))))))⟩
                          · have H := cond_t hc375 H
                            refine Eo.val (x := (.v (.string p0))) rfl rfl rfl rfl ?_
                            refine Eo.val (x := (.v (.int .i64 y349))) rfl rfl rfl rfl ?_
                            obtain ⟨b376, hvb376, H⟩ := bind_some H
                            refine Eo.val (op_byteS hvb376 rfl rfl rfl Tryd.underlying9) rfl rfl rfl ?_
                            obtain ⟨r377, hvr377, H⟩ := bind_some H
                            refine Eo.call rfl rfl rfl rfl (gdovetailref13_InWord_ok hp0 hvr377) ?_
                            rintro _ σ379 ⟨rfl, hp378⟩
                            refine Eo.val (x := (.v (.bool r377))) rfl rfl rfl rfl ?_
                            refine Eo.nil ?_
                            obtain rfl := Option.some.inj H
                            exact And.intro rfl ⟨hp378, (.cons rfl (.cons rfl (.cons rfl (.cons rfl (.cons rfl (.nil'))))))⟩
                        · skip
                          intro x φ382 σ381 hJ
                          obtain ⟨rfl, hp380, hf383⟩ := hJ
                          refine ⟨rfl, Eo.of (F := [(0, (.v (.string p0))), (5, a147), (6, (.v (.int .i64 y349))), (11, (.v (.int .i64 y149))), (90, (.v (.bool x374)))]) hf383 ?_⟩
                          refine Eo.nil ?_
                          refine Ec.cond (t := x374) rfl (fun hc384 => ?_) (fun hc384 => ?_)
                          · have H := cond_t hc384 H
                            refine Ec.skip ?_
                            refine Ec.block ?_
                            refine Ec.region ?_
                            refine Eo.val (x := (.v (.int .i64 y349))) rfl rfl rfl rfl ?_
                            refine Eo.val (x := (.v (.int .i64 (IntKind.wrap .i64 (y349 + 1))))) rfl rfl rfl rfl ?_
                            refine Eo.val (x := (.v (.int .i64 (IntKind.wrap .i64 (y349 + 1))))) rfl rfl rfl rfl ?_
                            refine Eo.nil ?_
                            exact Ec.of (.cons rfl (.cons rfl (.cons rfl (.cons rfl (.nil'))))) (ih ((IntKind.wrap .i64 (y349 + 1)), ()) _ hp380 H)
                          · have H := cond_f hc384 H
                            refine Ec.exit ?_
                            obtain rfl := Option.some.inj H
                            exact And.intro rfl ⟨hp380, (.cons rfl (.cons rfl (.cons rfl (.cons rfl (.nil')))))⟩
                      · skip
                        intro x φ391 σ390 hJ
                        obtain ⟨rfl, hp389, hf392⟩ := hJ
                        refine Ec.of (F := [(0, (.v (.string p0))), (5, a147), (6, (.v (.int .i64 x368))), (11, (.v (.int .i64 y149)))]) hf392 ?_
                        refine Ec.region ?_
                        refine Eo.val (x := a147) rfl rfl rfl rfl ?_
                        refine Eo.val (x := (.v (.string p0))) rfl rfl rfl rfl ?_
                        refine Eo.val (x := (.v (.int .i64 y149))) rfl rfl rfl rfl ?_
                        refine Eo.val (x := (.v (.int .i64 x368))) rfl rfl rfl rfl ?_
                        obtain ⟨s393, hvs393, H⟩ := bind_some H
                        refine Eo.val (op_partS hvs393 rfl rfl Tryd.underlying9 (.inr ⟨_, _, rfl, rfl⟩) (.inr ⟨_, _, rfl, rfl⟩)) rfl rfl rfl ?_
                        refine Eo.val (x := (.agg [(.v (.int .i64 1)), (.v (.string s393))])) (op_build (lay_cons rfl rfl rfl rfl rfl (lay_cons rfl rfl rfl rfl rfl lay_nil)) rfl (parts_cons rfl rfl (parts_cons rfl rfl rfl)) Tryd.underlying48 rfl rfl) rfl rfl rfl ?_
                        refine Eo.val (x := (.sl 2 [(.v (.int .i64 1)), (.v (.string s393))] .ex)) (op_buildS (lay_cons rfl rfl rfl rfl rfl lay_nil) rfl (parts_cons rfl rfl rfl) Tryd.underlying31 rfl rfl rfl rfl (by decide) rfl) rfl rfl rfl ?_
                        have h397 : Sl rTTok (.sl 2 [(.v (.int .i64 1)), (.v (.string s393))] .ex) ([(TTok.mk 1 s393)] : List TTok) := .inr ⟨_, _, rfl, (.cons (c := [(.v (.int .i64 1)), (.v (.string s393))]) rfl .nil)⟩
                        have hp396 := Hp.appEx hp389 48 2 [(.v (.int .i64 1)), (.v (.string s393))]
                        obtain ⟨l398, hvl398, H⟩ := bind_some H
                        refine Eo.append hp396 1 rfl h148 (New.of h397) hvl398 rfl rfl rfl rfl rfl rfl rfl Tryd.underlying31 rfl Tryd.underlying31 rfl rfl rfl rfl rfl rfl rfl rfl ?_
                        intro a399 σ402 h400 hp401
                        change Hp σ402 (.app (.sl 2 [(.v (.int .i64 1)), (.v (.string s393))] .ex) 48 :: .app a399 48 :: R) at hp401
                        refine Eo.val (x := a399) rfl rfl rfl rfl ?_
                        refine Eo.nil ?_
                        exact Ec.of (.cons rfl (.cons rfl (.cons rfl (.nil')))) (ih ((l398, x368), a399) _ ⟨h400, (Hp.drop hp401 0)⟩ H)
                    · have H := cond_f hc330 H
                      refine Ec.seq ?_
                      refine Ec.region ?_
                      refine Eo.val (x := nilS) rfl rfl rfl rfl ?_
                      refine Eo.val (x := (.v (.int .i64 131))) rfl rfl rfl rfl ?_
                      refine Eo.nil ?_
                      obtain rfl := Option.some.inj H
                      refine Ec.ret ?_
                      refine And.intro rfl (Ret.mk rfl ?_)
                      exact ⟨nilS, rfl, Sl.nil, (Hp.appNil (Hp.drop hp328 0) 48)⟩
          · have H := cond_f hc288 H
            refine Ec.exit ?_
            obtain rfl := Option.some.inj H
            exact And.intro rfl ⟨a147, h148, hp284, (.cons rfl (.nil'))⟩
      · rcases v405 with x276 | r412
        · intro x φ409 σ408 hJ
          obtain ⟨rfl, a277, h278, hp407, hf410⟩ := hJ
          refine Ec.of (F := [(5, a277)]) hf410 ?_
          refine Ec.seq ?_
          refine Ec.seq ?_
          refine Ec.region ?_
          refine Eo.val (x := a277) rfl rfl rfl rfl ?_
          refine Eo.val (x := (.v (.int .i64 ((x276.length : Nat) : Int)))) (op_lenL h278 rfl rfl rfl rfl rfl Tryd.underlying31) rfl rfl rfl ?_
          refine Eo.val (x := (.v (.bool (decide (((x276.length : Nat) : Int) > 64))))) rfl rfl rfl rfl ?_
          refine Eo.nil ?_
          refine Ec.cond (t := (decide (((x276.length : Nat) : Int) > 64))) rfl (fun hc411 => ?_) (fun hc411 => ?_)
          · have H := cond_t hc411 H
            refine Ec.seq ?_
            refine Ec.region ?_
            refine Eo.val (x := nilS) rfl rfl rfl rfl ?_
            refine Eo.val (x := (.v (.int .i64 133))) rfl rfl rfl rfl ?_
            refine Eo.nil ?_
            obtain rfl := Option.some.inj H
            refine Ec.ret ?_
            refine Ret.mk rfl ?_
            exact ⟨nilS, rfl, Sl.nil, (Hp.appNil (Hp.drop hp407 0) 48)⟩
          · have H := cond_f hc411 H
            refine Ec.skip ?_
            refine Ec.seq ?_
            refine Ec.region ?_
            refine Eo.val (x := a277) rfl rfl rfl rfl ?_
            refine Eo.val (x := a277) rfl rfl rfl rfl ?_
            refine Eo.val (x := (.v (.int .i64 0))) rfl rfl rfl rfl ?_
            refine Eo.nil ?_
            obtain rfl := Option.some.inj H
            refine Ec.ret ?_
            refine Ret.mk rfl ?_
            exact ⟨a277, rfl, h278, hp407⟩
        · intro x φ413 σ414 hJ
          obtain rfl := Option.some.inj H
          obtain ⟨rfl, hr⟩ := hJ
          exact hr
    · intro x φ416 σ417 hJ
      obtain rfl := Option.some.inj H
      obtain ⟨rfl, hr⟩ := hJ
      exact hr

def gdovetailref13_Same_L1 (N : Nat) (p0 : (List TLine)) (p1 : (List TLine)) : Nat → Int → Option (LR Unit Bool)
  | 0, _ => none
  | m + 1, y127 => (cond (decide (y127 < ((p0.length : Nat) : Int))) (((((atL p0 y127).bind fun x307 => ((atL p1 y127).bind fun x315 => (cond (x307.f_No != x315.f_No) (some true) (((atL p0 y127).bind fun x324 => ((atL p1 y127).bind fun x332 => ((gdovetailref13_SameTexts N x324.f_Labels x332.f_Labels).bind fun r340 => (cond (!r340) (some true) (((atL p0 y127).bind fun x344 => ((atL p1 y127).bind fun x352 => ((gdovetailref13_SameToks N x344.f_Toks x352.f_Toks).bind fun r360 => some (!r360))))))))))))) : Option (Bool)).bind fun x306 => (cond x306 (some (.ret false)) (gdovetailref13_Same_L1 N p0 p1 m (IntKind.wrap .i64 (y127 + 1)))))) (some (.out ())))

def gdovetailref13_Same (n : Nat) (p0 : (List TLine)) (p1 : (List TLine)) : Option (Bool) := (cond (((p0.length : Nat) : Int) != ((p1.length : Nat) : Int)) (some false) (((gdovetailref13_Same_L1 n p0 p1 n 0).bind fun v => match v with | .out _ => some true | .ret r376 => some r376)))

def gdovetailref13_Same_post (R : List Res) (r : Bool) (x : A) (s : St) : Prop := x = (.v (.bool r)) ∧ Hp s (R)

theorem gdovetailref13_Same_ok {n : Nat} {p0 : (List TLine)} {p1 : (List TLine)} {a1 a3 : A} {R : List Res} {σ : St} (h2 : Sl rTLine a1 p0) (h4 : Sl rTLine a3 p1) (hp : Hp σ R) {r : Bool} (H : gdovetailref13_Same n p0 p1 = some r) : Ca cfg 11 [a1, a3] σ (gdovetailref13_Same_post R r) := by
  unfold gdovetailref13_Same at H
  refine Ca.enterL (G := [(0, a1), (1, a3)]) Tryd.func11 rfl rfl rfl rfl ?_
  refine Ec.seq ?_
  refine Ec.region ?_
  refine Eo.val (x := (.v (.bool false))) rfl rfl rfl rfl ?_
  refine Eo.nil ?_
  refine Ec.seq ?_
  refine Ec.seq ?_
  refine Ec.region ?_
  refine Eo.val (x := a1) rfl rfl rfl rfl ?_
  refine Eo.val (x := (.v (.int .i64 ((p0.length : Nat) : Int)))) (op_lenL h2 rfl rfl rfl rfl rfl Tryd.underlying23) rfl rfl rfl ?_
  refine Eo.val (x := a3) rfl rfl rfl rfl ?_
  refine Eo.val (x := (.v (.int .i64 ((p1.length : Nat) : Int)))) (op_lenL h4 rfl rfl rfl rfl rfl Tryd.underlying23) rfl rfl rfl ?_
  refine Eo.val (x := (.v (.bool (((p0.length : Nat) : Int) != ((p1.length : Nat) : Int))))) rfl rfl rfl rfl ?_
  refine Eo.nil ?_
  refine Ec.cond (t := (((p0.length : Nat) : Int) != ((p1.length : Nat) : Int))) rfl (fun hc5 => ?_) (fun hc5 => ?_)
  · have H := cond_t hc5 H
    refine Ec.seq ?_
    refine Ec.region ?_
    refine Eo.val (x := (.v (.bool false))) rfl rfl rfl rfl ?_
    refine Eo.nil ?_
    obtain rfl := Option.some.inj H
    refine Ec.ret ?_
    refine Ret.mk rfl ?_
    exact ⟨rfl, hp⟩
  · have H := cond_f hc5 H
    refine Ec.skip ?_
    refine Ec.seq ?_
    refine Ec.seq ?_
    refine Ec.region ?_
    refine Eo.val (x := a1) rfl rfl rfl rfl ?_
    refine Eo.val (x := (.v (.int .i64 ((p0.length : Nat) : Int)))) (op_lenL h2 rfl rfl rfl rfl rfl Tryd.underlying23) rfl rfl rfl ?_
    refine Eo.val (x := (.v (.int .i64 0))) rfl rfl rfl rfl ?_
    refine Eo.nil ?_
    refine Ec.block ?_
    obtain ⟨v370, hv371, H⟩ := bind_some H
    refine Ec.cut (J := (fun (v : LR Unit Bool) (x : X) (φ : Fr) (s : St) => match v with | .out _ => x = (.exit 0) ∧ (Hp s (R) ∧ Fl [] φ) | .ret r => x = .ret ∧ Ret cfg Tryd.f11 (gdovetailref13_Same_post R r) .ret φ s) v370) (Ec.weak (.cons rfl (.cons rfl (.cons rfl (.cons rfl (.nil'))))) (Ec.loopF (f := (fun m (i : Int × Unit) => gdovetailref13_Same_L1 n p0 p1 m i.1)) (G := (fun (i : Int × Unit) => ([(0, a1), (1, a3), (12, (.v (.int .i64 ((p0.length : Nat) : Int)))), (13, (.v (.int .i64 i.1)))] : List (Nat × A)))) (I := (fun (i : Int × Unit) (s : St) => Hp s (R))) (J := (fun (v : LR Unit Bool) (x : X) (φ : Fr) (s : St) => match v with | .out _ => x = (.exit 0) ∧ (Hp s (R) ∧ Fl [] φ) | .ret r => x = .ret ∧ Ret cfg Tryd.f11 (gdovetailref13_Same_post R r) .ret φ s)) (fun _ => rfl) ?_ n (0, ()) _ v370 hp hv371)) ?_
    · rintro m ⟨y127, _⟩ σ0 v hp0 H ih
      change gdovetailref13_Same_L1 n p0 p1 (m + 1) y127 = some v at H
      rw [gdovetailref13_Same_L1] at H
      change Ec _ _ _ [(0, a1), (1, a3), (12, (.v (.int .i64 ((p0.length : Nat) : Int)))), (13, (.v (.int .i64 y127)))] σ0 _
      refine Ec.seq ?_
      refine Ec.region ?_
      refine Eo.val (x := (.v (.bool (decide (y127 < ((p0.length : Nat) : Int)))))) rfl rfl rfl rfl ?_
      refine Eo.nil ?_
      refine Ec.seq ?_
      refine Ec.cond (t := (decide (y127 < ((p0.length : Nat) : Int)))) rfl (fun hc249 => ?_) (fun hc249 => ?_)
      · have H := cond_t hc249 H
        refine Ec.skip ?_
        refine Ec.seq ?_
        refine Ec.block ?_
        refine Ec.seq ?_
        refine Ec.region ?_
        refine Eo.val (x := (.v (.int .i64 y127))) rfl rfl rfl rfl ?_
        refine Eo.val (x := (.v (.int .i64 y127))) rfl rfl rfl rfl ?_
        refine Eo.nil ?_
        refine Ec.seq ?_
        obtain ⟨x306, hv369, H⟩ := bind_some H
        refine Ec.cut (J := (fun (x306 : Bool) (x : X) (φ : Fr) (s : St) => x = .normal ∧ (Hp s (R) ∧ Fl [(0, a1), (1, a3), (12, (.v (.int .i64 ((p0.length : Nat) : Int)))), (13, (.v (.int .i64 y127))), (54, (.v (.bool x306)))] φ)) x306) ?_ ?_
        · have H := hv369
          refine Ec.drawn (by kernel_rfl) ?_
          refine Eo.val (x := a1) rfl rfl rfl rfl ?_
          refine Eo.val (x := (.v (.int .i64 y127))) rfl rfl rfl rfl ?_
          obtain ⟨x307, hvx307, H⟩ := bind_some H
          refine Eo.idx h2 hvx307 rfl rfl rfl Tryd.underlying23 rfl rfl rfl rfl ?_
          rintro cs308 p309 _ hat310 ⟨a311, a313, rfl, h312, h314⟩
          refine Eo.val (x := (.sp cs308 p309 .no)) rfl rfl rfl rfl ?_
          refine Eo.val (x := (.v (.int .i64 x307.f_No))) (op_loadSp hat310 0 rfl rfl rfl rfl rfl) rfl rfl rfl ?_
          refine Eo.val (x := a3) rfl rfl rfl rfl ?_
          refine Eo.val (x := (.v (.int .i64 y127))) rfl rfl rfl rfl ?_
          obtain ⟨x315, hvx315, H⟩ := bind_some H
          refine Eo.idx h4 hvx315 rfl rfl rfl Tryd.underlying23 rfl rfl rfl rfl ?_
          rintro cs316 p317 _ hat318 ⟨a319, a321, rfl, h320, h322⟩
          refine Eo.val (x := (.sp cs316 p317 .no)) rfl rfl rfl rfl ?_
          refine Eo.val (x := (.v (.int .i64 x315.f_No))) (op_loadSp hat318 0 rfl rfl rfl rfl rfl) rfl rfl rfl ?_
          refine Eo.val (x := (.v (.bool (x307.f_No != x315.f_No)))) rfl rfl rfl rfl ?_
          refine Eo.val (x := (.v (.bool (x307.f_No != x315.f_No)))) rfl rfl rfl rfl ?_
          cases hc323 : (x307.f_No != x315.f_No)
          · have H := cond_f hc323 H
            refine Eo.val (x := a1) rfl rfl rfl rfl ?_
            refine Eo.val (x := (.v (.int .i64 y127))) rfl rfl rfl rfl ?_
            obtain ⟨x324, hvx324, H⟩ := bind_some H
            refine Eo.idx h2 hvx324 rfl rfl rfl Tryd.underlying23 rfl rfl rfl rfl ?_
            rintro cs325 p326 _ hat327 ⟨a328, a330, rfl, h329, h331⟩
            refine Eo.val (x := (.sp cs325 (p326 + 1) .no)) rfl rfl rfl rfl ?_
            refine Eo.val (x := a328) (op_loadSp hat327 1 rfl rfl rfl rfl rfl) rfl rfl rfl ?_
            refine Eo.val (x := a3) rfl rfl rfl rfl ?_
            refine Eo.val (x := (.v (.int .i64 y127))) rfl rfl rfl rfl ?_
            obtain ⟨x332, hvx332, H⟩ := bind_some H
            refine Eo.idx h4 hvx332 rfl rfl rfl Tryd.underlying23 rfl rfl rfl rfl ?_
            rintro cs333 p334 _ hat335 ⟨a336, a338, rfl, h337, h339⟩
            refine Eo.val (x := (.sp cs333 (p334 + 1) .no)) rfl rfl rfl rfl ?_
            refine Eo.val (x := a336) (op_loadSp hat335 1 rfl rfl rfl rfl rfl) rfl rfl rfl ?_
            obtain ⟨r340, hvr340, H⟩ := bind_some H
            refine Eo.call rfl rfl rfl rfl (gdovetailref13_SameTexts_ok h329 h337 hp0 hvr340) ?_
            rintro _ σ342 ⟨rfl, hp341⟩
            refine Eo.val (x := (.v (.bool (!r340)))) rfl rfl rfl rfl ?_
            refine Eo.val (x := (.v (.bool (!r340)))) rfl rfl rfl rfl ?_
            refine Eo.val (x := (.v (.bool (!r340)))) rfl rfl rfl rfl ?_
            cases hc343 : (!r340)
            · have H := cond_f hc343 H
              refine Eo.val (x := a1) rfl rfl rfl rfl ?_
              refine Eo.val (x := (.v (.int .i64 y127))) rfl rfl rfl rfl ?_
              obtain ⟨x344, hvx344, H⟩ := bind_some H
              refine Eo.idx h2 hvx344 rfl rfl rfl Tryd.underlying23 rfl rfl rfl rfl ?_
              rintro cs345 p346 _ hat347 ⟨a348, a350, rfl, h349, h351⟩
              refine Eo.val (x := (.sp cs345 (p346 + 2) .no)) rfl rfl rfl rfl ?_
              refine Eo.val (x := a350) (op_loadSp hat347 2 rfl rfl rfl rfl rfl) rfl rfl rfl ?_
              refine Eo.val (x := a3) rfl rfl rfl rfl ?_
              refine Eo.val (x := (.v (.int .i64 y127))) rfl rfl rfl rfl ?_
              obtain ⟨x352, hvx352, H⟩ := bind_some H
              refine Eo.idx h4 hvx352 rfl rfl rfl Tryd.underlying23 rfl rfl rfl rfl ?_
              rintro cs353 p354 _ hat355 ⟨a356, a358, rfl, h357, h359⟩
              refine Eo.val (x := (.sp cs353 (p354 + 2) .no)) rfl rfl rfl rfl ?_
              refine Eo.val (x := a358) (op_loadSp hat355 2 rfl rfl rfl rfl rfl) rfl rfl rfl ?_
              obtain ⟨r360, hvr360, H⟩ := bind_some H
              refine Eo.call rfl rfl rfl rfl (gdovetailref13_SameToks_ok h351 h359 hp341 hvr360) ?_
              rintro _ σ362 ⟨rfl, hp361⟩
              refine Eo.val (x := (.v (.bool (!r360)))) rfl rfl rfl rfl ?_
              refine Eo.val (x := (.v (.bool (!r360)))) rfl rfl rfl rfl ?_
              refine Eo.nil ?_
              obtain rfl := Option.some.inj H
              exact And.intro rfl (And.intro rfl ⟨hp361, (.cons rfl (.cons rfl (.cons rfl (.cons rfl (.cons rfl (.nil'))))))⟩)
            · have H := cond_t hc343 H
              refine Eo.off rfl rfl rfl ?_
              refine Eo.off rfl rfl rfl ?_
              refine Eo.off rfl rfl rfl ?_
              refine Eo.off rfl rfl rfl ?_
              refine Eo.off rfl rfl rfl ?_
              refine Eo.off rfl rfl rfl ?_
              refine Eo.off rfl rfl rfl ?_
              refine Eo.off rfl rfl rfl ?_
              refine Eo.off rfl rfl rfl ?_
              refine Eo.off rfl rfl rfl ?_
              refine Eo.off rfl rfl rfl ?_
              refine Eo.off rfl rfl rfl ?_
              refine Eo.val (x := (.v (.bool true))) rfl rfl rfl rfl ?_
              refine Eo.nil ?_
              obtain rfl := Option.some.inj H
              exact And.intro rfl (And.intro rfl ⟨hp341, (.cons rfl (.cons rfl (.cons rfl (.cons rfl (.cons rfl (.nil'))))))⟩)
          · have H := cond_t hc323 H
            refine Eo.off rfl rfl rfl ?_
            refine Eo.off rfl rfl rfl ?_
            refine Eo.off rfl rfl rfl ?_
            refine Eo.off rfl rfl rfl ?_
            refine Eo.off rfl rfl rfl ?_
            refine Eo.off rfl rfl rfl ?_
            refine Eo.off rfl rfl rfl ?_
            refine Eo.off rfl rfl rfl ?_
            refine Eo.off rfl rfl rfl ?_
            refine Eo.off rfl rfl rfl ?_
            refine Eo.off rfl rfl rfl ?_
            refine Eo.off rfl rfl rfl ?_
            refine Eo.val (x := (.v (.bool true))) rfl rfl rfl rfl ?_
            refine Eo.val (x := (.v (.bool true))) rfl rfl rfl rfl ?_
            refine Eo.off rfl rfl rfl ?_
            refine Eo.off rfl rfl rfl ?_
            refine Eo.off rfl rfl rfl ?_
            refine Eo.off rfl rfl rfl ?_
            refine Eo.off rfl rfl rfl ?_
            refine Eo.off rfl rfl rfl ?_
            refine Eo.off rfl rfl rfl ?_
            refine Eo.off rfl rfl rfl ?_
            refine Eo.off rfl rfl rfl ?_
            refine Eo.off rfl rfl rfl ?_
            refine Eo.off rfl rfl rfl ?_
            refine Eo.off rfl rfl rfl ?_
            refine Eo.val (x := (.v (.bool true))) rfl rfl rfl rfl ?_
            refine Eo.nil ?_
            obtain rfl := Option.some.inj H
            exact And.intro rfl (And.intro rfl ⟨hp0, (.cons rfl (.cons rfl (.cons rfl (.cons rfl (.cons rfl (.nil'))))))⟩)
        · skip
          intro x φ365 σ364 hJ
          obtain ⟨rfl, hp363, hf366⟩ := hJ
          refine Ec.of (F := [(0, a1), (1, a3), (12, (.v (.int .i64 ((p0.length : Nat) : Int)))), (13, (.v (.int .i64 y127))), (54, (.v (.bool x306)))]) hf366 ?_
          refine Ec.cond (t := x306) rfl (fun hc367 => ?_) (fun hc367 => ?_)
          · have H := cond_t hc367 H
            refine Ec.seq ?_
            refine Ec.region ?_
            refine Eo.val (x := (.v (.bool false))) rfl rfl rfl rfl ?_
            refine Eo.nil ?_
            obtain rfl := Option.some.inj H
            refine Ec.ret ?_
            refine And.intro rfl (Ret.mk rfl ?_)
            exact ⟨rfl, hp363⟩
          · have H := cond_f hc367 H
            refine Ec.skip ?_
            refine Ec.region ?_
            refine Eo.val (x := (.v (.int .i64 (IntKind.wrap .i64 (y127 + 1))))) rfl rfl rfl rfl ?_
            refine Eo.val (x := (.v (.int .i64 (IntKind.wrap .i64 (y127 + 1))))) rfl rfl rfl rfl ?_
            refine Eo.nil ?_
            exact Ec.of (.cons rfl (.cons rfl (.cons rfl (.cons rfl (.nil'))))) (ih ((IntKind.wrap .i64 (y127 + 1)), ()) _ hp363 H)
      · have H := cond_f hc249 H
        refine Ec.exit ?_
        obtain rfl := Option.some.inj H
        exact And.intro rfl ⟨hp0, (.nil')⟩
    · rcases v370 with _ | r376
      · intro x φ374 σ373 hJ
        obtain ⟨rfl, hp372, hf375⟩ := hJ
        refine Ec.of (F := []) hf375 ?_
        refine Ec.seq ?_
        refine Ec.region ?_
        refine Eo.val (x := (.v (.bool true))) rfl rfl rfl rfl ?_
        refine Eo.nil ?_
        obtain rfl := Option.some.inj H
        refine Ec.ret ?_
        refine Ret.mk rfl ?_
        exact ⟨rfl, hp372⟩
      · intro x φ377 σ378 hJ
        obtain rfl := Option.some.inj H
        obtain ⟨rfl, hr⟩ := hJ
        exact hr

def gdovetailref13_Parse_L2 (N : Nat) : Nat → (List TTok) → (List ByteArray) → Option (((List TTok) × (List ByteArray)))
  | 0, _, _ => none
  | m + 1, y1036, y1039 => ((gdovetailref13_Labelled N y1036).bind fun r1094 => (cond r1094 (((((atL y1036 0).bind fun x1116 => ((appL 16 y1039 ([x1116.f_Text] : List ByteArray)).bind fun l1124 => some l1124)) : Option ((List ByteArray))).bind fun x1113 => ((subL y1036 2 ((y1036.length : Nat) : Int)).bind fun l1135 => gdovetailref13_Parse_L2 N m l1135 x1113))) (some (y1036, y1039))))

def gdovetailref13_Parse_L1 (N : Nat) (r2 : (List ByteArray)) : Nat → (List TLine) → Int → Option (LR (List TLine) ((List TLine) × Int × Int))
  | 0, _, _ => none
  | m + 1, y394, y397 => (cond (decide (y397 < ((r2.length : Nat) : Int))) (((((atL r2 y397).bind fun x973 => ((gdovetailref13_Words N x973).bind fun v => match v with | (r978, r979) => (cond (r979 != 0) (some (.ret (([] : List TLine), (IntKind.wrap .i64 (y397 + 1)), r979))) (((gdovetailref13_Parse_L2 N N r978 ([] : List ByteArray)).bind fun v => match v with | (x1088, x1091) => (cond (decide ((IntKind.wrap .i64 (((x1091.length : Nat) : Int) + ((x1088.length : Nat) : Int))) > 0)) (((appL 56 y394 ([(TLine.mk (IntKind.wrap .i64 (y397 + 1)) x1091 x1088)] : List TLine)).bind fun l1153 => some (.out l1153))) (some (.out y394)))))))) : Option (LR (List TLine) ((List TLine) × Int × Int))).bind fun v => match v with | .out x970 => gdovetailref13_Parse_L1 N r2 m x970 (IntKind.wrap .i64 (y397 + 1)) | .ret r1162 => some (.ret r1162))) (some (.out y394)))

def gdovetailref13_Parse (n : Nat) (p0 : ByteArray) : Option (((List TLine) × Int × Int)) := (cond (decide (((p0.size : Nat) : Int) > 262144)) (some (([] : List TLine), 0, 133)) (((gdovetailref13_Split n p0).bind fun r2 => (cond (decide (((r2.length : Nat) : Int) > 16384)) (some (([] : List TLine), 0, 133)) (((gdovetailref13_Parse_L1 n r2 n ([] : List TLine) 0).bind fun v => match v with | .out x781 => some (x781, 0, 0) | .ret r1173 => some r1173))))))

def gdovetailref13_Parse_post (R : List Res) (r : ((List TLine) × Int × Int)) (x : A) (s : St) : Prop := ∃ (a1176 : A), x = (.tup [a1176, (.v (.int .i64 r.2.1)), (.v (.int .i64 r.2.2))]) ∧ Sl rTLine a1176 r.1 ∧ Hp s (.app a1176 46 :: R)
end Go.DM
