/- Typed functions of the program's functions, and the walks that show that the calls come to them. No condition. -/
import Derived.Test.YtamnkpmfnphjlaaDoorRuleT
import Derived.Test.YtamnkpmfnphjlaaDoorProg
namespace Go.DM
open Go Go.Proofs
set_option maxRecDepth 100000
set_option maxHeartbeats 1000000
noncomputable def cfg : Cfg := { P := Tryd.prog, glob := fun _ => none, prim := fun f => if f = 28 then some containsG else if f = 29 then some trimLeftG else if f = 32 then some joinG else if f = 42 then some repeatG else if f = 47 then some splitG else if f = 57 then some indexByteG else none }
theorem prim28_ok {p0 : ByteArray} {p1 : ByteArray} {R : List Res} {σ : St} (hp : Hp σ R) {r : Bool} (H : containsT p0 p1 = some r) : Ca cfg 28 [(.v (.string p0)), (.v (.string p1))] σ (fun x σ' => x = (.v (.bool r)) ∧ Hp σ' (R)) := containsT_ok (C := cfg) (f := 28) rfl hp H
theorem prim29_ok {p0 : ByteArray} {p1 : ByteArray} {R : List Res} {σ : St} (hp : Hp σ R) {r : ByteArray} (H : trimLeftT p0 p1 = some r) : Ca cfg 29 [(.v (.string p0)), (.v (.string p1))] σ (fun x σ' => x = (.v (.string r)) ∧ Hp σ' (R)) := trimLeftT_ok (C := cfg) (f := 29) rfl hp H
theorem prim32_ok {p0 : (List ByteArray)} {p1 : ByteArray} {a1 : A} {R : List Res} {σ : St} (h2 : Sl rS a1 p0) (hp : Hp σ R) {r : ByteArray} (H : joinT p0 p1 = some r) : Ca cfg 32 [a1, (.v (.string p1))] σ (fun x σ' => x = (.v (.string r)) ∧ Hp σ' (R)) := joinT_ok (C := cfg) (f := 32) rfl h2 hp H
theorem prim42_ok {p0 : ByteArray} {p1 : Int} {R : List Res} {σ : St} (hp : Hp σ R) {r : ByteArray} (H : repeatT p0 p1 = some r) : Ca cfg 42 [(.v (.string p0)), (.v (.int .i64 p1))] σ (fun x σ' => x = (.v (.string r)) ∧ Hp σ' (R)) := repeatT_ok (C := cfg) (f := 42) rfl hp H
theorem prim47_ok {p0 : ByteArray} {p1 : ByteArray} {R : List Res} {σ : St} (hp : Hp σ R) {r : (List ByteArray)} (H : splitT p0 p1 = some r) : Ca cfg 47 [(.v (.string p0)), (.v (.string p1))] σ (fun x σ' => ∃ (a3 : A), x = a3 ∧ Sl rS a3 r ∧ Hp σ' (R)) := splitT_ok (C := cfg) (f := 47) rfl hp H
theorem prim57_ok {p0 : ByteArray} {p1 : Int} {R : List Res} {σ : St} (hp : Hp σ R) {r : Int} (H : indexByteT p0 p1 = some r) : Ca cfg 57 [(.v (.string p0)), (.v (.int .u8 p1))] σ (fun x σ' => x = (.v (.int .i64 r)) ∧ Hp σ' (R)) := indexByteT_ok (C := cfg) (f := 57) rfl hp H
/-! strings.Builder -/
theorem bld_copyCheck {b : Nat} {a0 a : A} {R : List Res} {σ : St} (h0 : AddrOk a0 b) (hp : Hp σ (.blk b (.cells [a0, a] 67) :: R)) :
    Ca cfg 65 [.ptr b 0] σ (fun x σ' => x = .tup [] ∧ Hp σ' (.blk b (.cells [.ptr b 0, a] 67) :: R)) := by
  refine Ca.enterL (G := [(0, .ptr b 0)]) Tryd.func65 rfl rfl rfl rfl ?_
  refine Ec.seq (Ec.region ?_)
  refine Eo.val (x := .ptr b 0) rfl rfl rfl rfl ?_
  refine Eo.val (x := .ptr b 0) rfl rfl rfl rfl ?_
  refine Eo.val (x := .ptr b 0) rfl rfl rfl rfl ?_
  refine Eo.val (x := a0) (op_loadB hp 0 rfl rfl rfl rfl) rfl rfl rfl ?_
  rcases h0 with rfl | rfl
  · refine Eo.val (x := .v (.bool true)) rfl rfl rfl rfl ?_
    refine Eo.nil ?_
    refine Ec.cond (t := true) rfl (fun _ => ?_) (fun h => nomatch h)
    refine Ec.region ?_
    refine Eo.val (x := .ptr b 0) rfl rfl rfl rfl ?_
    refine Eo.val (x := .ptr b 0) rfl rfl rfl rfl ?_
    refine Eo.val (x := .ptr b 0) (op_toUnsafe hp 0 rfl rfl rfl rfl rfl rfl (by decide) (Nat.zero_lt_succ _)) rfl rfl rfl ?_
    refine Eo.val (x := .ptr b 0) rfl rfl rfl rfl ?_
    refine Eo.val (x := .ptr b 0) (op_fromUnsafe hp 0 rfl rfl rfl rfl rfl rfl (by decide) (by kernel_rfl)) rfl rfl rfl ?_
    refine Eo.val (x := .ptr b 0) rfl rfl rfl rfl ?_
    refine Eo.val (x := .ptr b 0) rfl rfl rfl rfl ?_
    refine Eo.store hp 0 rfl (storeCells_mk rfl rfl rfl rfl rfl rfl) rfl rfl rfl rfl rfl ?_
    intro σ1 hp1
    refine Eo.nil ?_
    exact Ret.mkN rfl ⟨rfl, hp1⟩
  · refine Eo.val (x := .v (.bool false)) rfl rfl rfl rfl ?_
    refine Eo.nil ?_
    refine Ec.cond (t := false) rfl (fun h => nomatch h) (fun _ => ?_)
    refine Ec.seq (Ec.region ?_)
    refine Eo.val (x := .ptr b 0) rfl rfl rfl rfl ?_
    refine Eo.val (x := .ptr b 0) rfl rfl rfl rfl ?_
    refine Eo.val (x := .ptr b 0) rfl rfl rfl rfl ?_
    refine Eo.val (x := .ptr b 0) (op_loadB hp 0 rfl rfl rfl rfl) rfl rfl rfl ?_
    refine Eo.val (x := .ptr b 0) rfl rfl rfl rfl ?_
    refine Eo.val (x := .v (.bool false)) (op_ptrNe rfl rfl rfl rfl rfl) rfl rfl rfl ?_
    refine Eo.nil ?_
    refine Ec.cond (t := false) rfl (fun h => nomatch h) (fun _ => ?_)
    refine Ec.skip ?_
    exact Ret.mkN rfl ⟨rfl, hp⟩
theorem bld_WriteByte {b : Nat} {a0 a : A} {l l' : List Int} {c : Int} {R : List Res} {σ : St} (h0 : AddrOk a0 b) (hb : BufIs a l) (hp : Hp σ (.blk b (.cells [a0, a] 67) :: .app a 5 :: R)) (H : appL 1 l [c] = some l') :
    Ca cfg 43 [.ptr b 0, .v (.int .u8 c)] σ (fun x σ' => ∃ a0' a', x = .v .nilIface ∧ AddrOk a0' b ∧ BufIs a' l' ∧ Hp σ' (.blk b (.cells [a0', a'] 67) :: .app a' 5 :: R)) := by
  refine Ca.enterL (G := [(0, .ptr b 0), (1, .v (.int .u8 c))]) Tryd.func43 rfl rfl rfl rfl ?_
  refine Ec.seq (Ec.region ?_)
  refine Eo.val (x := .v .nilIface) rfl rfl rfl rfl ?_
  refine Eo.nil ?_
  refine Ec.seq (Ec.region ?_)
  refine Eo.val (x := .ptr b 0) rfl rfl rfl rfl ?_
  refine Eo.call rfl rfl rfl rfl (bld_copyCheck h0 hp) ?_
  rintro _ σ1 ⟨rfl, hp1⟩
  refine Eo.nil ?_
  refine Ec.seq (Ec.region ?_)
  refine Eo.val (x := .ptr b 0) rfl rfl rfl rfl ?_
  refine Eo.val (x := .ptr b 0) rfl rfl rfl rfl ?_
  refine Eo.val (x := .ptr b 0) rfl rfl rfl rfl ?_
  refine Eo.val (x := .ptr b (0 + 1)) rfl rfl rfl rfl ?_
  refine Eo.val (x := a) (op_loadB hp1 0 rfl rfl rfl rfl) rfl rfl rfl ?_
  refine Eo.val (x := .v (.int .u8 c)) rfl rfl rfl rfl ?_
  refine Eo.val (x := .sl 1 [.v (.int .u8 c)] .ex) rfl rfl rfl rfl ?_
  have hs : Sl (rI .u8) (.sl 1 [.v (.int .u8 c)] .ex) [c] := .inr ⟨_, _, rfl, .cons (c := [.v (.int .u8 c)]) rfl .nil⟩
  refine Eo.append' hp1 1 rfl hb.1 hb.2 (New.of hs) H rfl rfl rfl rfl rfl rfl rfl Tryd.underlying61 rfl Tryd.underlying61 rfl rfl rfl rfl rfl rfl rfl rfl ?_
  intro a' σ2 h2 h2n hp2
  change Hp σ2 (.blk b (.cells [.ptr b 0, a] 67) :: .app a' 5 :: R) at hp2
  refine Eo.val (x := .ptr b 0) rfl rfl rfl rfl ?_
  refine Eo.val (x := .ptr b (0 + 1)) rfl rfl rfl rfl ?_
  refine Eo.store hp2 0 rfl (storeCells_mk h2.cells rfl rfl (by simp [allOne, h2.isOne]) rfl rfl) rfl rfl rfl rfl rfl ?_
  intro σ3 hp3
  change Hp σ3 (.blk b (.cells [.ptr b 0, a'] 67) :: .app a' 5 :: R) at hp3
  refine Eo.nil ?_
  refine Ec.seq (Ec.region ?_)
  refine Eo.val (x := .v .nilIface) rfl rfl rfl rfl ?_
  refine Eo.nil ?_
  exact Ec.ret (Ret.mk rfl ⟨_, _, rfl, .inr rfl, ⟨h2, h2n⟩, hp3⟩)
theorem bld_WriteString {b : Nat} {a0 a : A} {l l' : List Int} {s : ByteArray} {R : List Res} {σ : St} (h0 : AddrOk a0 b) (hb : BufIs a l) (hp : Hp σ (.blk b (.cells [a0, a] 67) :: .app a 5 :: R)) (H : appL 1 l (bs s) = some l') :
    Ca cfg 41 [.ptr b 0, .v (.string s)] σ (fun x σ' => ∃ a0' a', x = .tup [.v (.int .i64 ((s.size : Nat) : Int)), .v .nilIface] ∧ AddrOk a0' b ∧ BufIs a' l' ∧ Hp σ' (.blk b (.cells [a0', a'] 67) :: .app a' 5 :: R)) := by
  refine Ca.enterL (G := [(0, .ptr b 0), (1, .v (.string s))]) Tryd.func41 rfl rfl rfl rfl ?_
  refine Ec.seq (Ec.region ?_)
  refine Eo.val (x := .v (.int .i64 0)) rfl rfl rfl rfl ?_
  refine Eo.val (x := .v .nilIface) rfl rfl rfl rfl ?_
  refine Eo.nil ?_
  refine Ec.seq (Ec.region ?_)
  refine Eo.val (x := .ptr b 0) rfl rfl rfl rfl ?_
  refine Eo.call rfl rfl rfl rfl (bld_copyCheck h0 hp) ?_
  rintro _ σ1 ⟨rfl, hp1⟩
  refine Eo.nil ?_
  refine Ec.seq (Ec.region ?_)
  refine Eo.val (x := .ptr b 0) rfl rfl rfl rfl ?_
  refine Eo.val (x := .ptr b 0) rfl rfl rfl rfl ?_
  refine Eo.val (x := .ptr b 0) rfl rfl rfl rfl ?_
  refine Eo.val (x := .ptr b (0 + 1)) rfl rfl rfl rfl ?_
  refine Eo.val (x := a) (op_loadB hp1 0 rfl rfl rfl rfl) rfl rfl rfl ?_
  refine Eo.val (x := .v (.string s)) rfl rfl rfl rfl ?_
  refine Eo.append' hp1 1 rfl hb.1 hb.2 New.str H rfl rfl rfl rfl rfl rfl rfl Tryd.underlying9 rfl Tryd.underlying61 rfl rfl rfl rfl rfl rfl rfl rfl ?_
  intro a' σ2 h2 h2n hp2
  change Hp σ2 (.blk b (.cells [.ptr b 0, a] 67) :: .app a' 5 :: R) at hp2
  refine Eo.val (x := .ptr b 0) rfl rfl rfl rfl ?_
  refine Eo.val (x := .ptr b (0 + 1)) rfl rfl rfl rfl ?_
  refine Eo.store hp2 0 rfl (storeCells_mk h2.cells rfl rfl (by simp [allOne, h2.isOne]) rfl rfl) rfl rfl rfl rfl rfl ?_
  intro σ3 hp3
  change Hp σ3 (.blk b (.cells [.ptr b 0, a'] 67) :: .app a' 5 :: R) at hp3
  refine Eo.nil ?_
  refine Ec.seq (Ec.region ?_)
  refine Eo.val (x := .v (.string s)) rfl rfl rfl rfl ?_
  refine Eo.val (x := .v (.int .i64 ((s.size : Nat) : Int))) (op_len rfl rfl rfl rfl rfl Tryd.underlying9) rfl rfl rfl ?_
  refine Eo.val (x := .v (.int .i64 ((s.size : Nat) : Int))) rfl rfl rfl rfl ?_
  refine Eo.val (x := .v .nilIface) rfl rfl rfl rfl ?_
  refine Eo.nil ?_
  exact Ec.ret (Ret.mk rfl ⟨_, _, rfl, .inr rfl, ⟨h2, h2n⟩, hp3⟩)
theorem bld_String {b : Nat} {a0 a : A} {l : List Int} {r : ByteArray} {R : List Res} {σ : St} (_ : AddrOk a0 b) (hb : BufIs a l) (hp : Hp σ (.blk b (.cells [a0, a] 67) :: .app a 5 :: R)) (H : strT l = some r) :
    Ca cfg 45 [.ptr b 0] σ (fun x σ' => x = .v (.string r) ∧ Hp σ' (.blk b (.cells [a0, a] 67) :: .app a 5 :: R)) := by
  refine Ca.enterL (G := [(0, .ptr b 0)]) Tryd.func45 rfl rfl rfl rfl ?_
  obtain ⟨hl, rfl⟩ := strT_some H
  refine Ec.seq (Ec.region ?_)
  refine Eo.val (x := .v (.string (ByteArray.mk #[]))) rfl rfl rfl rfl ?_
  refine Eo.nil ?_
  refine Ec.seq ?_
  refine Ec.cut (J := fun x φ s => x = .normal ∧ (Hp s (.blk b (.cells [a0, a] 67) :: .app a 5 :: R) ∧ Fl [(2, .v (.string (ofB l)))] φ)) ?_ ?_
  · refine Ec.drawn (by kernel_rfl) ?_
    refine Eo.val (x := .ptr b 0) rfl rfl rfl rfl ?_
    refine Eo.val (x := .ptr b 0) rfl rfl rfl rfl ?_
    refine Eo.val (x := .ptr b (0 + 1)) rfl rfl rfl rfl ?_
    refine Eo.val (x := a) (op_loadB hp 0 rfl rfl rfl rfl) rfl rfl rfl ?_
    rcases hb.str hp with ⟨rfl, rfl⟩ | ⟨cs, id, rfl, hcs, hne, hlv⟩
    · refine Eo.val (x := .v (.pointer none)) (op_sliceDataNil rfl rfl rfl rfl) rfl rfl rfl ?_
      refine Eo.val (x := .ptr b 0) rfl rfl rfl rfl ?_
      refine Eo.val (x := .ptr b 0) rfl rfl rfl rfl ?_
      refine Eo.val (x := .ptr b (0 + 1)) rfl rfl rfl rfl ?_
      refine Eo.val (x := nilS) (op_loadB hp 0 rfl rfl rfl rfl) rfl rfl rfl ?_
      refine Eo.val (x := .v (.int .i64 0)) (op_lenNil rfl rfl rfl rfl rfl Tryd.underlying61) rfl rfl rfl ?_
      refine Eo.val (x := .v (.string (ofB []))) (op_unsafeStringNil rfl rfl rfl rfl rfl rfl) rfl rfl rfl ?_
      refine Eo.val (x := .v (.string (ofB []))) rfl rfl rfl rfl ?_
      exact Eo.nil (And.intro rfl (And.intro rfl ⟨hp, .cons rfl .nil'⟩))
    · refine Eo.val (x := .sp cs 0 (.gr id)) (op_sliceData rfl rfl rfl rfl hne) rfl rfl rfl ?_
      refine Eo.val (x := .ptr b 0) rfl rfl rfl rfl ?_
      refine Eo.val (x := .ptr b 0) rfl rfl rfl rfl ?_
      refine Eo.val (x := .ptr b (0 + 1)) rfl rfl rfl rfl ?_
      refine Eo.val (x := .sl 1 cs (.gr id)) (op_loadB hp 0 rfl rfl rfl rfl) rfl rfl rfl ?_
      refine Eo.val (x := .v (.int .i64 ((l.length : Nat) : Int))) (op_lenL hb.1 rfl rfl rfl rfl rfl Tryd.underlying61) rfl rfl rfl ?_
      refine Eo.val (x := .v (.string (ofB l))) (op_unsafeString hcs hne hl hlv rfl rfl rfl rfl rfl rfl Tryd.underlying96 Tryd.underlying5 rfl rfl) rfl rfl rfl ?_
      refine Eo.val (x := .v (.string (ofB l))) rfl rfl rfl rfl ?_
      exact Eo.nil (And.intro rfl (And.intro rfl ⟨hp, .cons rfl .nil'⟩))
  · intro x φ s hJ
    obtain ⟨rfl, hp1, hf⟩ := hJ
    refine Ec.of hf ?_
    exact Ec.ret (Ret.mk rfl ⟨rfl, hp1⟩)
theorem bld_Len {b : Nat} {a0 a : A} {l : List Int} {L : List Res} {σ : St} (hb : BufIs a l) (hp : Hp σ L) (i : Nat) (hi : L[i]? = some (.blk b (.cells [a0, a] 67))) :
    Ca cfg 44 [.ptr b 0] σ (fun x σ' => x = .v (.int .i64 ((l.length : Nat) : Int)) ∧ σ' = σ) := by
  refine Ca.enterL (G := [(0, .ptr b 0)]) Tryd.func44 rfl rfl rfl rfl ?_
  refine Ec.seq (Ec.region ?_)
  refine Eo.val (x := .v (.int .i64 0)) rfl rfl rfl rfl ?_
  refine Eo.nil ?_
  refine Ec.seq (Ec.region ?_)
  refine Eo.val (x := .ptr b 0) rfl rfl rfl rfl ?_
  refine Eo.val (x := .ptr b 0) rfl rfl rfl rfl ?_
  refine Eo.val (x := .ptr b (0 + 1)) rfl rfl rfl rfl ?_
  refine Eo.val (x := a) (op_loadB hp i hi rfl rfl rfl) rfl rfl rfl ?_
  refine Eo.val (x := .v (.int .i64 ((l.length : Nat) : Int))) (op_lenL hb.1 rfl rfl rfl rfl rfl Tryd.underlying61) rfl rfl rfl ?_
  refine Eo.val (x := .v (.int .i64 ((l.length : Nat) : Int))) rfl rfl rfl rfl ?_
  refine Eo.nil ?_
  exact Ec.ret (Ret.mk rfl ⟨rfl, rfl⟩)

structure TTok where
  f_Kind : Int
  f_Text : ByteArray
  deriving DecidableEq

def rTTok : RepT TTok := ⟨2, fun x c => c = [.v (.int .i64 x.f_Kind), .v (.string x.f_Text)], by rintro x c rfl; rfl, by decide, by rintro x c rfl; simp [allOne]⟩

structure TLine where
  f_No : Int
  f_Labels : (List ByteArray)
  f_Toks : (List TTok)
  deriving DecidableEq

def rTLine : RepT TLine := ⟨3, fun x c => ∃ (a0 a1 : A), c = [.v (.int .i64 x.f_No), a0, a1] ∧ Sl rS a0 x.f_Labels ∧ Sl rTTok a1 x.f_Toks, by rintro x c ⟨a0, a1, rfl, _, _⟩; rfl, by decide, by rintro x c ⟨a0, a1, rfl, h0, h1⟩; simp [allOne, h0.isOne, h1.isOne]⟩


def gasmtext_lines (n : Nat) (p0 : ByteArray) : Option ((List ByteArray)) := ((splitT p0 (ByteArray.mk #[10])).bind fun r3 => ((atL r3 (IntKind.wrap .i64 (((r3.length : Nat) : Int) - 1))).bind fun x8 => (((cond (decide (x8 = (ByteArray.mk #[]))) (((subL r3 0 (IntKind.wrap .i64 (((r3.length : Nat) : Int) - 1))).bind fun l20 => some l20)) (some r3)) : Option ((List ByteArray))).bind fun x16 => some x16)))

def gasmtext_lines_post (R : List Res) (r : (List ByteArray)) (x : A) (s : St) : Prop := ∃ (a1 : A), x = a1 ∧ Sl rS a1 r ∧ Hp s (R)

theorem gasmtext_lines_ok {n : Nat} {p0 : ByteArray} {R : List Res} {σ : St} (hp : Hp σ R) {r : (List ByteArray)} (H : gasmtext_lines n p0 = some r) : Ca cfg 22 [(.v (.string p0))] σ (gasmtext_lines_post R r) := by
  unfold gasmtext_lines at H
  refine Ca.enterL (G := [(0, (.v (.string p0)))]) Tryd.func22 rfl rfl rfl rfl ?_
  refine Ec.seq ?_
  refine Ec.region ?_
  refine Eo.val (x := nilS) rfl rfl rfl rfl ?_
  refine Eo.nil ?_
  refine Ec.seq ?_
  refine Ec.region ?_
  refine Eo.val (x := (.v (.string p0))) rfl rfl rfl rfl ?_
  obtain ⟨r3, hvr3, H⟩ := bind_some H
  refine Eo.call rfl rfl rfl rfl (prim47_ok hp hvr3) ?_
  rintro a4 σ7 ⟨_, rfl, h5, hp6⟩
  refine Eo.val (x := a4) rfl rfl rfl rfl ?_
  refine Eo.nil ?_
  refine Ec.seq ?_
  refine Ec.seq ?_
  refine Ec.region ?_
  refine Eo.val (x := a4) rfl rfl rfl rfl ?_
  refine Eo.val (x := a4) rfl rfl rfl rfl ?_
  refine Eo.val (x := (.v (.int .i64 ((r3.length : Nat) : Int)))) (op_lenL h5 rfl rfl rfl rfl rfl Tryd.underlying44) rfl rfl rfl ?_
  refine Eo.val (x := (.v (.int .i64 (IntKind.wrap .i64 (((r3.length : Nat) : Int) - 1))))) rfl rfl rfl rfl ?_
  obtain ⟨x8, hvx8, H⟩ := bind_some H
  refine Eo.idx h5 hvx8 rfl rfl rfl Tryd.underlying44 rfl rfl rfl rfl ?_
  rintro cs9 p10 _ hat11 rfl
  refine Eo.val (x := (.v (.string x8))) (op_loadSp hat11 0 rfl rfl rfl rfl rfl) rfl rfl rfl ?_
  refine Eo.val (x := (.v (.bool (decide (x8 = (ByteArray.mk #[])))))) (val_b rfl (seq_eq _ _)) rfl rfl rfl ?_
  refine Eo.nil ?_
  obtain ⟨x16, hv28, H⟩ := bind_some H
  refine Ec.cut (J := (fun (x16 : (List ByteArray)) (x : X) (φ : Fr) (s : St) => x = .normal ∧ (∃ (a17 : A), Sl rS a17 x16 ∧ Hp s (R) ∧ Fl [(3, a17)] φ)) x16) ?_ ?_
  · have H := hv28
    refine Ec.cond (t := (decide (x8 = (ByteArray.mk #[])))) rfl (fun hc19 => ?_) (fun hc19 => ?_)
    · have H := cond_t hc19 H
      refine Ec.region ?_
      refine Eo.val (x := a4) rfl rfl rfl rfl ?_
      refine Eo.val (x := a4) rfl rfl rfl rfl ?_
      refine Eo.val (x := (.v (.int .i64 ((r3.length : Nat) : Int)))) (op_lenL h5 rfl rfl rfl rfl rfl Tryd.underlying44) rfl rfl rfl ?_
      refine Eo.val (x := (.v (.int .i64 (IntKind.wrap .i64 (((r3.length : Nat) : Int) - 1))))) rfl rfl rfl rfl ?_
      obtain ⟨l20, hvl20, H⟩ := bind_some H
      refine Eo.subL h5 hvl20 rfl rfl Tryd.underlying44 rfl (.inl ⟨rfl, rfl⟩) (.inr ⟨_, _, rfl, rfl⟩) rfl rfl rfl ?_
      intro a21 h22
      refine Eo.val (x := a21) rfl rfl rfl rfl ?_
      refine Eo.nil ?_
      obtain rfl := Option.some.inj H
      exact And.intro rfl ⟨a21, h22, hp6, (.cons rfl (.nil'))⟩
    · have H := cond_f hc19 H
      refine Ec.skip ?_
      obtain rfl := Option.some.inj H
      exact And.intro rfl ⟨a4, h5, hp6, (.cons rfl (.nil'))⟩
  · skip
    intro x φ25 σ24 hJ
    obtain ⟨rfl, a17, h18, hp23, hf26⟩ := hJ
    refine Ec.of (F := [(3, a17)]) hf26 ?_
    refine Ec.seq ?_
    refine Ec.region ?_
    refine Eo.val (x := a17) rfl rfl rfl rfl ?_
    refine Eo.val (x := a17) rfl rfl rfl rfl ?_
    refine Eo.nil ?_
    obtain rfl := Option.some.inj H
    refine Ec.ret ?_
    refine Ret.mk rfl ?_
    exact ⟨a17, rfl, h18, hp23⟩

def gasmtext_escaped (n : Nat) (p0 : ByteArray) : Option ((Int × Int)) := (cond (decide (p0 = (ByteArray.mk #[]))) (some (0, 0)) (((atS p0 0).bind fun b2 => ((indexByteT (ByteArray.mk #[110, 116, 48, 92, 34]) b2).bind fun r3 => (cond (decide (r3 ≥ 0)) (((atS (ByteArray.mk #[10, 9, 0, 92, 34]) r3).bind fun b7 => some (b7, 1))) (((atS p0 0).bind fun b8 => (cond ((b8 != 120) || (decide (((p0.size : Nat) : Int) < 3))) (some (0, 0)) (((((atS p0 1).bind fun b25 => ((indexByteT (ByteArray.mk #[48, 49, 50, 51, 52, 53, 54, 55, 56, 57, 97, 98, 99, 100, 101, 102]) b25).bind fun r26 => ((atS p0 2).bind fun b29 => ((indexByteT (ByteArray.mk #[48, 49, 50, 51, 52, 53, 54, 55, 56, 57, 97, 98, 99, 100, 101, 102]) b29).bind fun r30 => some (r26, r30))))) : Option ((Int × Int))).bind fun v => match v with | (x23, x24) => (cond ((decide (x23 < 0)) || (decide (x24 < 0))) (some (0, 0)) (some ((IntKind.wrap .u8 (IntKind.wrap .i64 ((IntKind.wrap .i64 (16 * x23)) + x24))), 3)))))))))))))

def gasmtext_escaped_post (R : List Res) (r : (Int × Int)) (x : A) (s : St) : Prop := x = (.tup [(.v (.int .u8 r.1)), (.v (.int .i64 r.2))]) ∧ Hp s (R)

theorem gasmtext_escaped_ok {n : Nat} {p0 : ByteArray} {R : List Res} {σ : St} (hp : Hp σ R) {r : (Int × Int)} (H : gasmtext_escaped n p0 = some r) : Ca cfg 73 [(.v (.string p0))] σ (gasmtext_escaped_post R r) := by
  unfold gasmtext_escaped at H
  refine Ca.enterL (G := [(0, (.v (.string p0)))]) Tryd.func73 rfl rfl rfl rfl ?_
  refine Ec.seq ?_
  refine Ec.region ?_
  refine Eo.val (x := (.v (.int .u8 0))) rfl rfl rfl rfl ?_
  refine Eo.val (x := (.v (.int .i64 0))) rfl rfl rfl rfl ?_
  refine Eo.nil ?_
  refine Ec.seq ?_
  refine Ec.seq ?_
  refine Ec.region ?_
  refine Eo.val (x := (.v (.string p0))) rfl rfl rfl rfl ?_
  refine Eo.val (x := (.v (.bool (decide (p0 = (ByteArray.mk #[])))))) (val_b rfl (seq_eq _ _)) rfl rfl rfl ?_
  refine Eo.nil ?_
  refine Ec.cond (t := (decide (p0 = (ByteArray.mk #[])))) rfl (fun hc1 => ?_) (fun hc1 => ?_)
  · have H := cond_t hc1 H
    refine Ec.seq ?_
    refine Ec.region ?_
    refine Eo.val (x := (.v (.int .u8 0))) rfl rfl rfl rfl ?_
    refine Eo.val (x := (.v (.int .i64 0))) rfl rfl rfl rfl ?_
    refine Eo.nil ?_
    obtain rfl := Option.some.inj H
    refine Ec.ret ?_
    refine Ret.mk rfl ?_
    exact ⟨rfl, hp⟩
  · have H := cond_f hc1 H
    refine Ec.skip ?_
    refine Ec.seq ?_
    refine Ec.seq ?_
    refine Ec.region ?_
    refine Eo.val (x := (.v (.string p0))) rfl rfl rfl rfl ?_
    obtain ⟨b2, hvb2, H⟩ := bind_some H
    refine Eo.val (op_byteS hvb2 rfl rfl rfl Tryd.underlying9) rfl rfl rfl ?_
    obtain ⟨r3, hvr3, H⟩ := bind_some H
    refine Eo.call rfl rfl rfl rfl (prim57_ok hp hvr3) ?_
    rintro _ σ5 ⟨rfl, hp4⟩
    refine Eo.val (x := (.v (.int .i64 r3))) rfl rfl rfl rfl ?_
    refine Eo.nil ?_
    refine Ec.seq ?_
    refine Ec.region ?_
    refine Eo.val (x := (.v (.int .i64 r3))) rfl rfl rfl rfl ?_
    refine Eo.val (x := (.v (.bool (decide (r3 ≥ 0))))) rfl rfl rfl rfl ?_
    refine Eo.nil ?_
    refine Ec.cond (t := (decide (r3 ≥ 0))) rfl (fun hc6 => ?_) (fun hc6 => ?_)
    · have H := cond_t hc6 H
      refine Ec.seq ?_
      refine Ec.region ?_
      refine Eo.val (x := (.v (.int .i64 r3))) rfl rfl rfl rfl ?_
      obtain ⟨b7, hvb7, H⟩ := bind_some H
      refine Eo.val (op_byteS hvb7 rfl rfl rfl Tryd.underlying9) rfl rfl rfl ?_
      refine Eo.val (x := (.v (.int .u8 b7))) rfl rfl rfl rfl ?_
      refine Eo.val (x := (.v (.int .i64 1))) rfl rfl rfl rfl ?_
      refine Eo.nil ?_
      obtain rfl := Option.some.inj H
      refine Ec.ret ?_
      refine Ret.mk rfl ?_
      exact ⟨rfl, hp4⟩
    · have H := cond_f hc6 H
      refine Ec.skip ?_
      refine Ec.seq ?_
      refine Ec.seq ?_
      refine Ec.region ?_
      refine Eo.val (x := (.v (.string p0))) rfl rfl rfl rfl ?_
      obtain ⟨b8, hvb8, H⟩ := bind_some H
      refine Eo.val (op_byteS hvb8 rfl rfl rfl Tryd.underlying9) rfl rfl rfl ?_
      refine Eo.val (x := (.v (.bool (b8 != 120)))) rfl rfl rfl rfl ?_
      refine Eo.val (x := (.v (.bool (b8 != 120)))) rfl rfl rfl rfl ?_
      refine Eo.cutF 4 [(0, (.v (.string p0))), (23, (.v (.bool ((b8 != 120) || (decide (((p0.size : Nat) : Int) < 3))))))] ?_ ?_
      · skip
        cases hc11 : (b8 != 120)
        · skip
          refine Eo.val (x := (.v (.string p0))) rfl rfl rfl rfl ?_
          refine Eo.val (x := (.v (.int .i64 ((p0.size : Nat) : Int)))) (op_len rfl rfl rfl rfl rfl Tryd.underlying9) rfl rfl rfl ?_
          refine Eo.val (x := (.v (.bool (decide (((p0.size : Nat) : Int) < 3))))) rfl rfl rfl rfl ?_
          refine Eo.val (x := (.v (.bool (decide (((p0.size : Nat) : Int) < 3))))) rfl rfl rfl rfl ?_
          exact Eo.nil (And.intro rfl (And.intro rfl (.cons rfl (.cons rfl (.nil')))))
        · skip
          refine Eo.off rfl rfl rfl ?_
          refine Eo.off rfl rfl rfl ?_
          refine Eo.off rfl rfl rfl ?_
          refine Eo.val (x := (.v (.bool true))) rfl rfl rfl rfl ?_
          exact Eo.nil (And.intro rfl (And.intro rfl (.cons rfl (.cons rfl (.nil')))))
      · skip
        refine Eo.nil ?_
        refine Ec.cond (t := ((b8 != 120) || (decide (((p0.size : Nat) : Int) < 3)))) rfl (fun hc14 => ?_) (fun hc14 => ?_)
        · have H := cond_t hc14 H
          refine Ec.seq ?_
          refine Ec.region ?_
          refine Eo.val (x := (.v (.int .u8 0))) rfl rfl rfl rfl ?_
          refine Eo.val (x := (.v (.int .i64 0))) rfl rfl rfl rfl ?_
          refine Eo.nil ?_
          obtain rfl := Option.some.inj H
          refine Ec.ret ?_
          refine Ret.mk rfl ?_
          exact ⟨rfl, hp4⟩
        · have H := cond_f hc14 H
          refine Ec.skip ?_
          refine Ec.seq ?_
          obtain ⟨v43, hv44, H⟩ := bind_some H
          refine Ec.cut (J := (fun (v : (Int × Int)) (x : X) (φ : Fr) (s : St) => match v with | (x23, x24) => x = .normal ∧ (Hp s (R) ∧ Fl [(5, (.v (.int .i64 x23))), (6, (.v (.int .i64 x24)))] φ)) v43) ?_ ?_
          · have H := hv44
            refine Ec.drawn2 (by kernel_rfl) ?_
            refine Eo.val (x := (.v (.string p0))) rfl rfl rfl rfl ?_
            obtain ⟨b25, hvb25, H⟩ := bind_some H
            refine Eo.val (op_byteS hvb25 rfl rfl rfl Tryd.underlying9) rfl rfl rfl ?_
            obtain ⟨r26, hvr26, H⟩ := bind_some H
            refine Eo.call rfl rfl rfl rfl (prim57_ok hp4 hvr26) ?_
            rintro _ σ28 ⟨rfl, hp27⟩
            refine Eo.val (x := (.v (.string p0))) rfl rfl rfl rfl ?_
            obtain ⟨b29, hvb29, H⟩ := bind_some H
            refine Eo.val (op_byteS hvb29 rfl rfl rfl Tryd.underlying9) rfl rfl rfl ?_
            obtain ⟨r30, hvr30, H⟩ := bind_some H
            refine Eo.call rfl rfl rfl rfl (prim57_ok hp27 hvr30) ?_
            rintro _ σ32 ⟨rfl, hp31⟩
            refine Eo.val (x := (.v (.int .i64 r26))) rfl rfl rfl rfl ?_
            refine Eo.val (x := (.v (.int .i64 r30))) rfl rfl rfl rfl ?_
            refine Eo.nil ?_
            obtain rfl := Option.some.inj H
            exact And.intro rfl (And.intro rfl ⟨hp31, (.cons rfl (.cons rfl (.nil')))⟩)
          · skip
            intro x φ35 σ34 hJ
            obtain ⟨x23, x24⟩ := v43
            obtain ⟨rfl, hp33, hf36⟩ := hJ
            refine Ec.of (F := [(5, (.v (.int .i64 x23))), (6, (.v (.int .i64 x24)))]) hf36 ?_
            refine Ec.seq ?_
            refine Ec.seq ?_
            refine Ec.region ?_
            refine Eo.val (x := (.v (.int .i64 x23))) rfl rfl rfl rfl ?_
            refine Eo.val (x := (.v (.bool (decide (x23 < 0))))) rfl rfl rfl rfl ?_
            refine Eo.val (x := (.v (.bool (decide (x23 < 0))))) rfl rfl rfl rfl ?_
            refine Eo.cutF 3 [(5, (.v (.int .i64 x23))), (6, (.v (.int .i64 x24))), (35, (.v (.bool ((decide (x23 < 0)) || (decide (x24 < 0))))))] ?_ ?_
            · skip
              cases hc39 : (decide (x23 < 0))
              · skip
                refine Eo.val (x := (.v (.int .i64 x24))) rfl rfl rfl rfl ?_
                refine Eo.val (x := (.v (.bool (decide (x24 < 0))))) rfl rfl rfl rfl ?_
                refine Eo.val (x := (.v (.bool (decide (x24 < 0))))) rfl rfl rfl rfl ?_
                exact Eo.nil (And.intro rfl (And.intro rfl (.cons rfl (.cons rfl (.cons rfl (.nil'))))))
              · skip
                refine Eo.off rfl rfl rfl ?_
                refine Eo.off rfl rfl rfl ?_
                refine Eo.val (x := (.v (.bool true))) rfl rfl rfl rfl ?_
                exact Eo.nil (And.intro rfl (And.intro rfl (.cons rfl (.cons rfl (.cons rfl (.nil'))))))
            · skip
              refine Eo.nil ?_
              refine Ec.cond (t := ((decide (x23 < 0)) || (decide (x24 < 0)))) rfl (fun hc42 => ?_) (fun hc42 => ?_)
              · have H := cond_t hc42 H
                refine Ec.seq ?_
                refine Ec.region ?_
                refine Eo.val (x := (.v (.int .u8 0))) rfl rfl rfl rfl ?_
                refine Eo.val (x := (.v (.int .i64 0))) rfl rfl rfl rfl ?_
                refine Eo.nil ?_
                obtain rfl := Option.some.inj H
                refine Ec.ret ?_
                refine Ret.mk rfl ?_
                exact ⟨rfl, hp33⟩
              · have H := cond_f hc42 H
                refine Ec.skip ?_
                refine Ec.seq ?_
                refine Ec.region ?_
                refine Eo.val (x := (.v (.int .i64 x23))) rfl rfl rfl rfl ?_
                refine Eo.val (x := (.v (.int .i64 (IntKind.wrap .i64 (16 * x23))))) rfl rfl rfl rfl ?_
                refine Eo.val (x := (.v (.int .i64 x24))) rfl rfl rfl rfl ?_
                refine Eo.val (x := (.v (.int .i64 (IntKind.wrap .i64 ((IntKind.wrap .i64 (16 * x23)) + x24))))) rfl rfl rfl rfl ?_
                refine Eo.val (x := (.v (.int .u8 (IntKind.wrap .u8 (IntKind.wrap .i64 ((IntKind.wrap .i64 (16 * x23)) + x24)))))) rfl rfl rfl rfl ?_
                refine Eo.val (x := (.v (.int .u8 (IntKind.wrap .u8 (IntKind.wrap .i64 ((IntKind.wrap .i64 (16 * x23)) + x24)))))) rfl rfl rfl rfl ?_
                refine Eo.val (x := (.v (.int .i64 3))) rfl rfl rfl rfl ?_
                refine Eo.nil ?_
                obtain rfl := Option.some.inj H
                refine Ec.ret ?_
                refine Ret.mk rfl ?_
                exact ⟨rfl, hp33⟩

def gasmtext_quoted_L1 (N : Nat) (p0 : ByteArray) : Nat → (List Int) → Int → Option (LR Unit (ByteArray × Int))
  | 0, _, _ => none
  | m + 1, y83, y86 => (cond (decide (y86 < ((p0.size : Nat) : Int))) (((((atS p0 y86).bind fun b208 => (cond (b208 == 34) (some (.ret ((ofB y83), (IntKind.wrap .i64 (y86 + 1))))) ((cond (b208 == 92) (((subS p0 (IntKind.wrap .i64 (y86 + 1)) ((p0.size : Nat) : Int)).bind fun s211 => ((gasmtext_escaped N s211).bind fun v => match v with | (r213, r214) => (cond (r214 == 0) (some (.ret ((ByteArray.mk #[]), 0))) (((appL 1 y83 ([r213] : List Int)).bind fun l222 => some (.out (l222, (IntKind.wrap .i64 (y86 + r214)))))))))) ((cond ((decide (b208 < 32)) || (decide (b208 > 126))) (some (.ret ((ByteArray.mk #[]), 0))) (((appL 1 y83 ([b208] : List Int)).bind fun l237 => some (.out (l237, y86)))))))))) : Option (LR ((List Int) × Int) (ByteArray × Int))).bind fun v => match v with | .out (x204, x207) => gasmtext_quoted_L1 N p0 m x204 (IntKind.wrap .i64 (x207 + 1)) | .ret r246 => some (.ret r246))) (some (.out ())))

def gasmtext_quoted (n : Nat) (p0 : ByteArray) : Option ((ByteArray × Int)) := ((gasmtext_quoted_L1 n p0 n ([] : List Int) 1).bind fun v => match v with | .out _ => some ((ByteArray.mk #[]), 0) | .ret r257 => some r257)

def gasmtext_quoted_post (R : List Res) (r : (ByteArray × Int)) (x : A) (s : St) : Prop := x = (.tup [(.v (.string r.1)), (.v (.int .i64 r.2))]) ∧ Hp s (R)

theorem gasmtext_quoted_ok {n : Nat} {p0 : ByteArray} {R : List Res} {σ : St} (hp : Hp σ R) {r : (ByteArray × Int)} (H : gasmtext_quoted n p0 = some r) : Ca cfg 56 [(.v (.string p0))] σ (gasmtext_quoted_post R r) := by
  unfold gasmtext_quoted at H
  refine Ca.enterL (G := [(0, (.v (.string p0)))]) Tryd.func56 rfl rfl rfl rfl ?_
  refine Ec.seq ?_
  refine Ec.region ?_
  refine Eo.val (x := (.v (.string (ByteArray.mk #[])))) rfl rfl rfl rfl ?_
  refine Eo.val (x := (.v (.int .i64 0))) rfl rfl rfl rfl ?_
  refine Eo.nil ?_
  refine Ec.seq ?_
  refine Ec.region ?_
  refine Eo.val (x := nilS) rfl rfl rfl rfl ?_
  refine Eo.nil ?_
  refine Ec.seq ?_
  refine Ec.seq ?_
  refine Ec.region ?_
  refine Eo.val (x := (.v (.int .i64 1))) rfl rfl rfl rfl ?_
  refine Eo.nil ?_
  refine Ec.block ?_
  obtain ⟨v251, hv252, H⟩ := bind_some H
  refine Ec.cut (J := (fun (v : LR Unit (ByteArray × Int)) (x : X) (φ : Fr) (s : St) => match v with | .out _ => x = (.exit 0) ∧ (Hp s (R) ∧ Fl [] φ) | .ret r => x = .ret ∧ Ret cfg Tryd.f56 (gasmtext_quoted_post R r) .ret φ s) v251) (Ec.weak (.cons rfl (.cons rfl (.cons rfl (.nil')))) (Ec.loopF (f := (fun m (i : ((List Int) × Int) × A) => gasmtext_quoted_L1 n p0 m i.1.1 i.1.2)) (G := (fun (i : ((List Int) × Int) × A) => ([(0, (.v (.string p0))), (4, i.2), (5, (.v (.int .i64 i.1.2)))] : List (Nat × A)))) (I := (fun (i : ((List Int) × Int) × A) (s : St) => Sl (rI .u8) i.2 i.1.1 ∧ Hp s (.app i.2 5 :: R))) (J := (fun (v : LR Unit (ByteArray × Int)) (x : X) (φ : Fr) (s : St) => match v with | .out _ => x = (.exit 0) ∧ (Hp s (R) ∧ Fl [] φ) | .ret r => x = .ret ∧ Ret cfg Tryd.f56 (gasmtext_quoted_post R r) .ret φ s)) (fun _ => rfl) ?_ n ((([] : List Int), 1), nilS) _ v251 ⟨Sl.nil, (Hp.appNil hp 5)⟩ hv252)) ?_
  · rintro m ⟨⟨y83, y86⟩, a84⟩ σ0 v ⟨h85, hp0⟩ H ih
    change gasmtext_quoted_L1 n p0 (m + 1) y83 y86 = some v at H
    rw [gasmtext_quoted_L1] at H
    change Ec _ _ _ [(0, (.v (.string p0))), (4, a84), (5, (.v (.int .i64 y86)))] σ0 _
    refine Ec.seq ?_
    refine Ec.seq ?_
    refine Ec.region ?_
    refine Eo.val (x := (.v (.int .i64 y86))) rfl rfl rfl rfl ?_
    refine Eo.val (x := (.v (.string p0))) rfl rfl rfl rfl ?_
    refine Eo.val (x := (.v (.int .i64 ((p0.size : Nat) : Int)))) (op_len rfl rfl rfl rfl rfl Tryd.underlying9) rfl rfl rfl ?_
    refine Eo.val (x := (.v (.bool (decide (y86 < ((p0.size : Nat) : Int)))))) rfl rfl rfl rfl ?_
    refine Eo.nil ?_
    refine Ec.cond (t := (decide (y86 < ((p0.size : Nat) : Int)))) rfl (fun hc169 => ?_) (fun hc169 => ?_)
    · have H := cond_t hc169 H
      refine Ec.skip ?_
      refine Ec.seq ?_
      obtain ⟨v249, hv250, H⟩ := bind_some H
      refine Ec.cut (J := (fun (v : LR ((List Int) × Int) (ByteArray × Int)) (x : X) (φ : Fr) (s : St) => match v with | .out (x204, x207) => x = .normal ∧ (∃ (a205 : A), Sl (rI .u8) a205 x204 ∧ Hp s (.app a205 5 :: R) ∧ Fl [(0, (.v (.string p0))), (4, a205), (5, (.v (.int .i64 x207)))] φ) | .ret r => x = .ret ∧ Ret cfg Tryd.f56 (gasmtext_quoted_post R r) .ret φ s) v249) ?_ ?_
      · have H := hv250
        refine Ec.block ?_
        refine Ec.seq ?_
        refine Ec.region ?_
        refine Eo.val (x := (.v (.string p0))) rfl rfl rfl rfl ?_
        refine Eo.val (x := (.v (.int .i64 y86))) rfl rfl rfl rfl ?_
        obtain ⟨b208, hvb208, H⟩ := bind_some H
        refine Eo.val (op_byteS hvb208 rfl rfl rfl Tryd.underlying9) rfl rfl rfl ?_
        refine Eo.val (x := (.v (.int .u8 b208))) rfl rfl rfl rfl ?_
        refine Eo.nil ?_
        refine Ec.block ?_
        refine Ec.seq ?_
        refine Ec.region ?_
        refine Eo.val (x := (.v (.int .u8 b208))) rfl rfl rfl rfl ?_
        refine Eo.val (x := (.v (.bool (b208 == 34)))) rfl rfl rfl rfl ?_
        refine Eo.val (x := (.v (.bool (b208 == 34)))) rfl rfl rfl rfl ?_
        refine Eo.nil ?_
        refine Ec.cond (t := (b208 == 34)) rfl (fun hc209 => ?_) (fun hc209 => ?_)
        · have H := cond_t hc209 H
          refine Ec.seq ?_
          refine Ec.region ?_
          refine Eo.val (x := a84) rfl rfl rfl rfl ?_
          refine Eo.val (op_b2s h85 rfl rfl Tryd.underlying61 Tryd.underlying9 Tryd.underlying5 (fun h => by subst h; rfl)) rfl rfl rfl ?_
          refine Eo.val (x := (.v (.int .i64 y86))) rfl rfl rfl rfl ?_
          refine Eo.val (x := (.v (.int .i64 (IntKind.wrap .i64 (y86 + 1))))) rfl rfl rfl rfl ?_
          refine Eo.val (x := (.v (.string (ofB y83)))) rfl rfl rfl rfl ?_
          refine Eo.val (x := (.v (.int .i64 (IntKind.wrap .i64 (y86 + 1))))) rfl rfl rfl rfl ?_
          refine Eo.nil ?_
          obtain rfl := Option.some.inj H
          refine Ec.ret ?_
          refine And.intro rfl (Ret.mk rfl ?_)
          exact ⟨rfl, (Hp.drop hp0 0)⟩
        · have H := cond_f hc209 H
          refine Ec.seq ?_
          refine Ec.region ?_
          refine Eo.val (x := (.v (.int .u8 b208))) rfl rfl rfl rfl ?_
          refine Eo.val (x := (.v (.bool (b208 == 92)))) rfl rfl rfl rfl ?_
          refine Eo.val (x := (.v (.bool (b208 == 92)))) rfl rfl rfl rfl ?_
          refine Eo.nil ?_
          refine Ec.cond (t := (b208 == 92)) rfl (fun hc210 => ?_) (fun hc210 => ?_)
          · have H := cond_t hc210 H
            refine Ec.seq ?_
            refine Ec.region ?_
            refine Eo.val (x := (.v (.string p0))) rfl rfl rfl rfl ?_
            refine Eo.val (x := (.v (.int .i64 y86))) rfl rfl rfl rfl ?_
            refine Eo.val (x := (.v (.int .i64 (IntKind.wrap .i64 (y86 + 1))))) rfl rfl rfl rfl ?_
            obtain ⟨s211, hvs211, H⟩ := bind_some H
            refine Eo.val (op_partS hvs211 rfl rfl Tryd.underlying9 (.inr ⟨_, _, rfl, rfl⟩) (.inl ⟨rfl, rfl⟩)) rfl rfl rfl ?_
            obtain ⟨r212, hvr212, H⟩ := bind_some H
            refine Eo.call rfl rfl rfl rfl (gasmtext_escaped_ok hp0 hvr212) ?_
            obtain ⟨r213, r214⟩ := r212
            rintro _ σ216 ⟨rfl, hp215⟩
            refine Eo.val (x := (.tup [(.v (.int .u8 r213)), (.v (.int .i64 r214))])) rfl rfl rfl rfl ?_
            refine Eo.val (x := (.v (.int .u8 r213))) rfl rfl rfl rfl ?_
            refine Eo.val (x := (.v (.int .i64 r214))) rfl rfl rfl rfl ?_
            refine Eo.val (x := (.v (.int .u8 r213))) rfl rfl rfl rfl ?_
            refine Eo.val (x := (.v (.int .i64 r214))) rfl rfl rfl rfl ?_
            refine Eo.nil ?_
            refine Ec.seq ?_
            refine Ec.seq ?_
            refine Ec.region ?_
            refine Eo.val (x := (.v (.int .i64 r214))) rfl rfl rfl rfl ?_
            refine Eo.val (x := (.v (.bool (r214 == 0)))) rfl rfl rfl rfl ?_
            refine Eo.nil ?_
            refine Ec.cond (t := (r214 == 0)) rfl (fun hc217 => ?_) (fun hc217 => ?_)
            · have H := cond_t hc217 H
              refine Ec.seq ?_
              refine Ec.region ?_
              refine Eo.val (x := (.v (.string (ByteArray.mk #[])))) rfl rfl rfl rfl ?_
              refine Eo.val (x := (.v (.int .i64 0))) rfl rfl rfl rfl ?_
              refine Eo.nil ?_
              obtain rfl := Option.some.inj H
              refine Ec.ret ?_
              refine And.intro rfl (Ret.mk rfl ?_)
              exact ⟨rfl, (Hp.drop hp215 0)⟩
            · have H := cond_f hc217 H
              refine Ec.skip ?_
              refine Ec.seq ?_
              refine Ec.region ?_
              refine Eo.val (x := a84) rfl rfl rfl rfl ?_
              refine Eo.val (x := (.v (.int .u8 r213))) rfl rfl rfl rfl ?_
              refine Eo.val (x := (.sl 1 [(.v (.int .u8 r213))] .ex)) (op_buildS (lay_cons rfl rfl rfl rfl rfl lay_nil) rfl (parts_cons rfl rfl rfl) Tryd.underlying61 rfl rfl rfl rfl (by decide) rfl) rfl rfl rfl ?_
              have h221 : Sl (rI .u8) (.sl 1 [(.v (.int .u8 r213))] .ex) ([r213] : List Int) := .inr ⟨_, _, rfl, (.cons (c := [(.v (.int .u8 r213))]) rfl .nil)⟩
              have hp220 := Hp.appEx hp215 5 1 [(.v (.int .u8 r213))]
              obtain ⟨l222, hvl222, H⟩ := bind_some H
              refine Eo.append hp220 1 rfl h85 (New.of h221) hvl222 rfl rfl rfl rfl rfl rfl rfl Tryd.underlying61 rfl Tryd.underlying61 rfl rfl rfl rfl rfl rfl rfl rfl ?_
              intro a223 σ226 h224 hp225
              change Hp σ226 (.app (.sl 1 [(.v (.int .u8 r213))] .ex) 5 :: .app a223 5 :: R) at hp225
              refine Eo.val (x := a223) rfl rfl rfl rfl ?_
              refine Eo.nil ?_
              refine Ec.region ?_
              refine Eo.val (x := (.v (.int .i64 y86))) rfl rfl rfl rfl ?_
              refine Eo.val (x := (.v (.int .i64 r214))) rfl rfl rfl rfl ?_
              refine Eo.val (x := (.v (.int .i64 (IntKind.wrap .i64 (y86 + r214))))) rfl rfl rfl rfl ?_
              refine Eo.val (x := (.v (.int .i64 (IntKind.wrap .i64 (y86 + r214))))) rfl rfl rfl rfl ?_
              refine Eo.nil ?_
              obtain rfl := Option.some.inj H
              exact And.intro rfl ⟨a223, h224, (Hp.drop hp225 0), (.cons rfl (.cons rfl (.cons rfl (.nil'))))⟩
          · have H := cond_f hc210 H
            refine Ec.seq ?_
            refine Ec.region ?_
            refine Eo.val (x := (.v (.int .u8 b208))) rfl rfl rfl rfl ?_
            refine Eo.val (x := (.v (.bool (decide (b208 < 32))))) rfl rfl rfl rfl ?_
            refine Eo.val (x := (.v (.bool (decide (b208 < 32))))) rfl rfl rfl rfl ?_
            refine Eo.cutF 3 [(0, (.v (.string p0))), (4, a84), (5, (.v (.int .i64 y86))), (6, (.v (.int .u8 b208))), (55, (.v (.bool ((decide (b208 < 32)) || (decide (b208 > 126))))))] ?_ ?_
            · skip
              cases hc229 : (decide (b208 < 32))
              · skip
                refine Eo.val (x := (.v (.int .u8 b208))) rfl rfl rfl rfl ?_
                refine Eo.val (x := (.v (.bool (decide (b208 > 126))))) rfl rfl rfl rfl ?_
                refine Eo.val (x := (.v (.bool (decide (b208 > 126))))) rfl rfl rfl rfl ?_
                exact Eo.nil (And.intro rfl (And.intro rfl (.cons rfl (.cons rfl (.cons rfl (.cons rfl (.cons rfl (.nil'))))))))
              · skip
                refine Eo.off rfl rfl rfl ?_
                refine Eo.off rfl rfl rfl ?_
                refine Eo.val (x := (.v (.bool true))) rfl rfl rfl rfl ?_
                exact Eo.nil (And.intro rfl (And.intro rfl (.cons rfl (.cons rfl (.cons rfl (.cons rfl (.cons rfl (.nil'))))))))
            · skip
              refine Eo.val (x := (.v (.bool ((decide (b208 < 32)) || (decide (b208 > 126)))))) rfl rfl rfl rfl ?_
              refine Eo.nil ?_
              refine Ec.cond (t := ((decide (b208 < 32)) || (decide (b208 > 126)))) rfl (fun hc232 => ?_) (fun hc232 => ?_)
              · have H := cond_t hc232 H
                refine Ec.seq ?_
                refine Ec.region ?_
                refine Eo.val (x := (.v (.string (ByteArray.mk #[])))) rfl rfl rfl rfl ?_
                refine Eo.val (x := (.v (.int .i64 0))) rfl rfl rfl rfl ?_
                refine Eo.nil ?_
                obtain rfl := Option.some.inj H
                refine Ec.ret ?_
                refine And.intro rfl (Ret.mk rfl ?_)
                exact ⟨rfl, (Hp.drop hp0 0)⟩
              · have H := cond_f hc232 H
                refine Ec.region ?_
                refine Eo.val (x := a84) rfl rfl rfl rfl ?_
                refine Eo.val (x := (.v (.int .u8 b208))) rfl rfl rfl rfl ?_
                refine Eo.val (x := (.sl 1 [(.v (.int .u8 b208))] .ex)) (op_buildS (lay_cons rfl rfl rfl rfl rfl lay_nil) rfl (parts_cons rfl rfl rfl) Tryd.underlying61 rfl rfl rfl rfl (by decide) rfl) rfl rfl rfl ?_
                have h236 : Sl (rI .u8) (.sl 1 [(.v (.int .u8 b208))] .ex) ([b208] : List Int) := .inr ⟨_, _, rfl, (.cons (c := [(.v (.int .u8 b208))]) rfl .nil)⟩
                have hp235 := Hp.appEx hp0 5 1 [(.v (.int .u8 b208))]
                obtain ⟨l237, hvl237, H⟩ := bind_some H
                refine Eo.append hp235 1 rfl h85 (New.of h236) hvl237 rfl rfl rfl rfl rfl rfl rfl Tryd.underlying61 rfl Tryd.underlying61 rfl rfl rfl rfl rfl rfl rfl rfl ?_
                intro a238 σ241 h239 hp240
                change Hp σ241 (.app (.sl 1 [(.v (.int .u8 b208))] .ex) 5 :: .app a238 5 :: R) at hp240
                refine Eo.val (x := a238) rfl rfl rfl rfl ?_
                refine Eo.nil ?_
                obtain rfl := Option.some.inj H
                exact And.intro rfl ⟨a238, h239, (Hp.drop hp240 0), (.cons rfl (.cons rfl (.cons rfl (.nil'))))⟩
      · rcases v249 with ⟨x204, x207⟩ | r246
        · intro x φ244 σ243 hJ
          obtain ⟨rfl, a205, h206, hp242, hf245⟩ := hJ
          refine Ec.of (F := [(0, (.v (.string p0))), (4, a205), (5, (.v (.int .i64 x207)))]) hf245 ?_
          refine Ec.region ?_
          refine Eo.val (x := (.v (.int .i64 x207))) rfl rfl rfl rfl ?_
          refine Eo.val (x := (.v (.int .i64 (IntKind.wrap .i64 (x207 + 1))))) rfl rfl rfl rfl ?_
          refine Eo.val (x := (.v (.int .i64 (IntKind.wrap .i64 (x207 + 1))))) rfl rfl rfl rfl ?_
          refine Eo.nil ?_
          exact Ec.of (.cons rfl (.cons rfl (.cons rfl (.nil')))) (ih ((x204, (IntKind.wrap .i64 (x207 + 1))), a205) _ ⟨h206, hp242⟩ H)
        · intro x φ247 σ248 hJ
          obtain rfl := Option.some.inj H
          obtain ⟨rfl, hr⟩ := hJ
          exact And.intro rfl hr
    · have H := cond_f hc169 H
      refine Ec.exit ?_
      obtain rfl := Option.some.inj H
      exact And.intro rfl ⟨(Hp.drop hp0 0), (.nil')⟩
  · rcases v251 with _ | r257
    · intro x φ255 σ254 hJ
      obtain ⟨rfl, hp253, hf256⟩ := hJ
      refine Ec.of (F := []) hf256 ?_
      refine Ec.seq ?_
      refine Ec.region ?_
      refine Eo.val (x := (.v (.string (ByteArray.mk #[])))) rfl rfl rfl rfl ?_
      refine Eo.val (x := (.v (.int .i64 0))) rfl rfl rfl rfl ?_
      refine Eo.nil ?_
      obtain rfl := Option.some.inj H
      refine Ec.ret ?_
      refine Ret.mk rfl ?_
      exact ⟨rfl, hp253⟩
    · intro x φ258 σ259 hJ
      obtain rfl := Option.some.inj H
      obtain ⟨rfl, hr⟩ := hJ
      exact hr

def gasmtext_word (n : Nat) (p0 : Int) : Option (Bool) := some (((((((decide (p0 ≥ 65)) && (decide (p0 ≤ 90))) || ((decide (p0 ≥ 97)) && (decide (p0 ≤ 122)))) || ((decide (p0 ≥ 48)) && (decide (p0 ≤ 57)))) || (p0 == 95)) || (p0 == 46)) || (p0 == 36))

def gasmtext_word_post (R : List Res) (r : Bool) (x : A) (s : St) : Prop := x = (.v (.bool r)) ∧ Hp s (R)

theorem gasmtext_word_ok {n : Nat} {p0 : Int} {R : List Res} {σ : St} (hp : Hp σ R) {r : Bool} (H : gasmtext_word n p0 = some r) : Ca cfg 58 [(.v (.int .u8 p0))] σ (gasmtext_word_post R r) := by
  unfold gasmtext_word at H
  refine Ca.enterL (G := [(0, (.v (.int .u8 p0)))]) Tryd.func58 rfl rfl rfl rfl ?_
  refine Ec.seq ?_
  refine Ec.region ?_
  refine Eo.val (x := (.v (.bool false))) rfl rfl rfl rfl ?_
  refine Eo.nil ?_
  refine Ec.seq ?_
  refine Ec.region ?_
  refine Eo.val (x := (.v (.int .u8 p0))) rfl rfl rfl rfl ?_
  refine Eo.val (x := (.v (.bool (decide (p0 ≥ 65))))) rfl rfl rfl rfl ?_
  refine Eo.val (x := (.v (.bool (decide (p0 ≥ 65))))) rfl rfl rfl rfl ?_
  refine Eo.cutF 3 [(0, (.v (.int .u8 p0))), (2, (.v (.bool false))), (8, (.v (.bool ((decide (p0 ≥ 65)) && (decide (p0 ≤ 90))))))] ?_ ?_
  · skip
    cases hc3 : (decide (p0 ≥ 65))
    · skip
      refine Eo.off rfl rfl rfl ?_
      refine Eo.off rfl rfl rfl ?_
      refine Eo.val (x := (.v (.bool false))) rfl rfl rfl rfl ?_
      exact Eo.nil (And.intro rfl (And.intro rfl (.cons rfl (.cons rfl (.cons rfl (.nil'))))))
    · skip
      refine Eo.val (x := (.v (.int .u8 p0))) rfl rfl rfl rfl ?_
      refine Eo.val (x := (.v (.bool (decide (p0 ≤ 90))))) rfl rfl rfl rfl ?_
      refine Eo.val (x := (.v (.bool (decide (p0 ≤ 90))))) rfl rfl rfl rfl ?_
      exact Eo.nil (And.intro rfl (And.intro rfl (.cons rfl (.cons rfl (.cons rfl (.nil'))))))
  · skip
    refine Eo.val (x := (.v (.bool ((decide (p0 ≥ 65)) && (decide (p0 ≤ 90)))))) rfl rfl rfl rfl ?_
    refine Eo.cutF 7 [(0, (.v (.int .u8 p0))), (2, (.v (.bool false))), (16, (.v (.bool (((decide (p0 ≥ 65)) && (decide (p0 ≤ 90))) || ((decide (p0 ≥ 97)) && (decide (p0 ≤ 122)))))))] ?_ ?_
    · skip
      cases hc10 : ((decide (p0 ≥ 65)) && (decide (p0 ≤ 90)))
      · skip
        refine Eo.val (x := (.v (.int .u8 p0))) rfl rfl rfl rfl ?_
        refine Eo.val (x := (.v (.bool (decide (p0 ≥ 97))))) rfl rfl rfl rfl ?_
        refine Eo.val (x := (.v (.bool (decide (p0 ≥ 97))))) rfl rfl rfl rfl ?_
        cases hc11 : (decide (p0 ≥ 97))
        · skip
          refine Eo.off rfl rfl rfl ?_
          refine Eo.off rfl rfl rfl ?_
          refine Eo.val (x := (.v (.bool false))) rfl rfl rfl rfl ?_
          refine Eo.val (x := (.v (.bool false))) rfl rfl rfl rfl ?_
          exact Eo.nil (And.intro rfl (And.intro rfl (.cons rfl (.cons rfl (.cons rfl (.nil'))))))
        · skip
          refine Eo.val (x := (.v (.int .u8 p0))) rfl rfl rfl rfl ?_
          refine Eo.val (x := (.v (.bool (decide (p0 ≤ 122))))) rfl rfl rfl rfl ?_
          refine Eo.val (x := (.v (.bool (decide (p0 ≤ 122))))) rfl rfl rfl rfl ?_
          refine Eo.val (x := (.v (.bool (decide (p0 ≤ 122))))) rfl rfl rfl rfl ?_
          exact Eo.nil (And.intro rfl (And.intro rfl (.cons rfl (.cons rfl (.cons rfl (.nil'))))))
      · skip
        refine Eo.off rfl rfl rfl ?_
        refine Eo.off rfl rfl rfl ?_
        refine Eo.off rfl rfl rfl ?_
        refine Eo.off rfl rfl rfl ?_
        refine Eo.off rfl rfl rfl ?_
        refine Eo.off rfl rfl rfl ?_
        refine Eo.val (x := (.v (.bool true))) rfl rfl rfl rfl ?_
        exact Eo.nil (And.intro rfl (And.intro rfl (.cons rfl (.cons rfl (.cons rfl (.nil'))))))
    · skip
      refine Eo.val (x := (.v (.bool (((decide (p0 ≥ 65)) && (decide (p0 ≤ 90))) || ((decide (p0 ≥ 97)) && (decide (p0 ≤ 122))))))) rfl rfl rfl rfl ?_
      refine Eo.cutF 7 [(0, (.v (.int .u8 p0))), (2, (.v (.bool false))), (24, (.v (.bool ((((decide (p0 ≥ 65)) && (decide (p0 ≤ 90))) || ((decide (p0 ≥ 97)) && (decide (p0 ≤ 122)))) || ((decide (p0 ≥ 48)) && (decide (p0 ≤ 57)))))))] ?_ ?_
      · skip
        cases hc18 : (((decide (p0 ≥ 65)) && (decide (p0 ≤ 90))) || ((decide (p0 ≥ 97)) && (decide (p0 ≤ 122))))
        · skip
          refine Eo.val (x := (.v (.int .u8 p0))) rfl rfl rfl rfl ?_
          refine Eo.val (x := (.v (.bool (decide (p0 ≥ 48))))) rfl rfl rfl rfl ?_
          refine Eo.val (x := (.v (.bool (decide (p0 ≥ 48))))) rfl rfl rfl rfl ?_
          cases hc19 : (decide (p0 ≥ 48))
          · skip
            refine Eo.off rfl rfl rfl ?_
            refine Eo.off rfl rfl rfl ?_
            refine Eo.val (x := (.v (.bool false))) rfl rfl rfl rfl ?_
            refine Eo.val (x := (.v (.bool false))) rfl rfl rfl rfl ?_
            exact Eo.nil (And.intro rfl (And.intro rfl (.cons rfl (.cons rfl (.cons rfl (.nil'))))))
          · skip
            refine Eo.val (x := (.v (.int .u8 p0))) rfl rfl rfl rfl ?_
            refine Eo.val (x := (.v (.bool (decide (p0 ≤ 57))))) rfl rfl rfl rfl ?_
            refine Eo.val (x := (.v (.bool (decide (p0 ≤ 57))))) rfl rfl rfl rfl ?_
            refine Eo.val (x := (.v (.bool (decide (p0 ≤ 57))))) rfl rfl rfl rfl ?_
            exact Eo.nil (And.intro rfl (And.intro rfl (.cons rfl (.cons rfl (.cons rfl (.nil'))))))
        · skip
          refine Eo.off rfl rfl rfl ?_
          refine Eo.off rfl rfl rfl ?_
          refine Eo.off rfl rfl rfl ?_
          refine Eo.off rfl rfl rfl ?_
          refine Eo.off rfl rfl rfl ?_
          refine Eo.off rfl rfl rfl ?_
          refine Eo.val (x := (.v (.bool true))) rfl rfl rfl rfl ?_
          exact Eo.nil (And.intro rfl (And.intro rfl (.cons rfl (.cons rfl (.cons rfl (.nil'))))))
      · skip
        refine Eo.val (x := (.v (.bool ((((decide (p0 ≥ 65)) && (decide (p0 ≤ 90))) || ((decide (p0 ≥ 97)) && (decide (p0 ≤ 122)))) || ((decide (p0 ≥ 48)) && (decide (p0 ≤ 57))))))) rfl rfl rfl rfl ?_
        refine Eo.cutF 3 [(0, (.v (.int .u8 p0))), (2, (.v (.bool false))), (28, (.v (.bool (((((decide (p0 ≥ 65)) && (decide (p0 ≤ 90))) || ((decide (p0 ≥ 97)) && (decide (p0 ≤ 122)))) || ((decide (p0 ≥ 48)) && (decide (p0 ≤ 57)))) || (p0 == 95)))))] ?_ ?_
        · skip
          cases hc24 : ((((decide (p0 ≥ 65)) && (decide (p0 ≤ 90))) || ((decide (p0 ≥ 97)) && (decide (p0 ≤ 122)))) || ((decide (p0 ≥ 48)) && (decide (p0 ≤ 57))))
          · skip
            refine Eo.val (x := (.v (.int .u8 p0))) rfl rfl rfl rfl ?_
            refine Eo.val (x := (.v (.bool (p0 == 95)))) rfl rfl rfl rfl ?_
            refine Eo.val (x := (.v (.bool (p0 == 95)))) rfl rfl rfl rfl ?_
            exact Eo.nil (And.intro rfl (And.intro rfl (.cons rfl (.cons rfl (.cons rfl (.nil'))))))
          · skip
            refine Eo.off rfl rfl rfl ?_
            refine Eo.off rfl rfl rfl ?_
            refine Eo.val (x := (.v (.bool true))) rfl rfl rfl rfl ?_
            exact Eo.nil (And.intro rfl (And.intro rfl (.cons rfl (.cons rfl (.cons rfl (.nil'))))))
        · skip
          refine Eo.val (x := (.v (.bool (((((decide (p0 ≥ 65)) && (decide (p0 ≤ 90))) || ((decide (p0 ≥ 97)) && (decide (p0 ≤ 122)))) || ((decide (p0 ≥ 48)) && (decide (p0 ≤ 57)))) || (p0 == 95))))) rfl rfl rfl rfl ?_
          refine Eo.cutF 3 [(0, (.v (.int .u8 p0))), (2, (.v (.bool false))), (32, (.v (.bool ((((((decide (p0 ≥ 65)) && (decide (p0 ≤ 90))) || ((decide (p0 ≥ 97)) && (decide (p0 ≤ 122)))) || ((decide (p0 ≥ 48)) && (decide (p0 ≤ 57)))) || (p0 == 95)) || (p0 == 46)))))] ?_ ?_
          · skip
            cases hc29 : (((((decide (p0 ≥ 65)) && (decide (p0 ≤ 90))) || ((decide (p0 ≥ 97)) && (decide (p0 ≤ 122)))) || ((decide (p0 ≥ 48)) && (decide (p0 ≤ 57)))) || (p0 == 95))
            · skip
              refine Eo.val (x := (.v (.int .u8 p0))) rfl rfl rfl rfl ?_
              refine Eo.val (x := (.v (.bool (p0 == 46)))) rfl rfl rfl rfl ?_
              refine Eo.val (x := (.v (.bool (p0 == 46)))) rfl rfl rfl rfl ?_
              exact Eo.nil (And.intro rfl (And.intro rfl (.cons rfl (.cons rfl (.cons rfl (.nil'))))))
            · skip
              refine Eo.off rfl rfl rfl ?_
              refine Eo.off rfl rfl rfl ?_
              refine Eo.val (x := (.v (.bool true))) rfl rfl rfl rfl ?_
              exact Eo.nil (And.intro rfl (And.intro rfl (.cons rfl (.cons rfl (.cons rfl (.nil'))))))
          · skip
            refine Eo.val (x := (.v (.bool ((((((decide (p0 ≥ 65)) && (decide (p0 ≤ 90))) || ((decide (p0 ≥ 97)) && (decide (p0 ≤ 122)))) || ((decide (p0 ≥ 48)) && (decide (p0 ≤ 57)))) || (p0 == 95)) || (p0 == 46))))) rfl rfl rfl rfl ?_
            refine Eo.cutF 3 [(2, (.v (.bool false))), (36, (.v (.bool (((((((decide (p0 ≥ 65)) && (decide (p0 ≤ 90))) || ((decide (p0 ≥ 97)) && (decide (p0 ≤ 122)))) || ((decide (p0 ≥ 48)) && (decide (p0 ≤ 57)))) || (p0 == 95)) || (p0 == 46)) || (p0 == 36)))))] ?_ ?_
            · skip
              cases hc34 : ((((((decide (p0 ≥ 65)) && (decide (p0 ≤ 90))) || ((decide (p0 ≥ 97)) && (decide (p0 ≤ 122)))) || ((decide (p0 ≥ 48)) && (decide (p0 ≤ 57)))) || (p0 == 95)) || (p0 == 46))
              · skip
                refine Eo.val (x := (.v (.int .u8 p0))) rfl rfl rfl rfl ?_
                refine Eo.val (x := (.v (.bool (p0 == 36)))) rfl rfl rfl rfl ?_
                refine Eo.val (x := (.v (.bool (p0 == 36)))) rfl rfl rfl rfl ?_
                exact Eo.nil (And.intro rfl (And.intro rfl (.cons rfl (.cons rfl (.nil')))))
              · skip
                refine Eo.off rfl rfl rfl ?_
                refine Eo.off rfl rfl rfl ?_
                refine Eo.val (x := (.v (.bool true))) rfl rfl rfl rfl ?_
                exact Eo.nil (And.intro rfl (And.intro rfl (.cons rfl (.cons rfl (.nil')))))
            · skip
              refine Eo.val (x := (.v (.bool (((((((decide (p0 ≥ 65)) && (decide (p0 ≤ 90))) || ((decide (p0 ≥ 97)) && (decide (p0 ≤ 122)))) || ((decide (p0 ≥ 48)) && (decide (p0 ≤ 57)))) || (p0 == 95)) || (p0 == 46)) || (p0 == 36))))) rfl rfl rfl rfl ?_
              refine Eo.nil ?_
              obtain rfl := Option.some.inj H
              refine Ec.ret ?_
              refine Ret.mk rfl ?_
              exact ⟨rfl, hp⟩

def gasmtext_one_L1 (N : Nat) (p0 : ByteArray) : Nat → Int → Option (Int)
  | 0, _ => none
  | m + 1, y39 => (((cond (decide (y39 < ((p0.size : Nat) : Int))) (((atS p0 y39).bind fun b66 => ((gasmtext_word N b66).bind fun r67 => some r67))) (some false)) : Option (Bool)).bind fun x64 => (cond x64 (gasmtext_one_L1 N p0 m (IntKind.wrap .i64 (y39 + 1))) (some y39)))

def gasmtext_one (n : Nat) (p0 : ByteArray) : Option ((TTok × Int)) := ((atS p0 0).bind fun b4 => (cond (b4 == 34) (((gasmtext_quoted n p0).bind fun v => match v with | (r7, r8) => some ((TTok.mk 3 r7), r8))) (((atS p0 0).bind fun b13 => ((indexByteT (ByteArray.mk #[40, 41, 91, 93, 43, 45, 42, 44, 58, 37]) b13).bind fun r14 => (cond (decide (r14 ≥ 0)) (((subS p0 0 1).bind fun s18 => some ((TTok.mk 2 s18), 1))) (((gasmtext_one_L1 n p0 n 0).bind fun x58 => ((subS p0 0 x58).bind fun s83 => some ((TTok.mk 1 s83), x58))))))))))

def gasmtext_one_post (R : List Res) (r : (TTok × Int)) (x : A) (s : St) : Prop := x = (.tup [(.agg [(.v (.int .i64 r.1.f_Kind)), (.v (.string r.1.f_Text))]), (.v (.int .i64 r.2))]) ∧ Hp s (R)

theorem gasmtext_one_ok {n : Nat} {p0 : ByteArray} {R : List Res} {σ : St} (hp : Hp σ R) {r : (TTok × Int)} (H : gasmtext_one n p0 = some r) : Ca cfg 30 [(.v (.string p0))] σ (gasmtext_one_post R r) := by
  unfold gasmtext_one at H
  refine Ca.enterL (G := [(0, (.v (.string p0)))]) Tryd.func30 rfl rfl rfl rfl ?_
  refine Ec.seq ?_
  refine Ec.region ?_
  refine Eo.alloc (z := [(.v (.int .i64 0)), (.v (.string (ByteArray.mk #[])))]) hp rfl rfl rfl rfl rfl ?_
  intro b1 σ3 hp2
  refine Eo.val (x := (.v (.int .i64 0))) rfl rfl rfl rfl ?_
  refine Eo.nil ?_
  refine Ec.seq ?_
  refine Ec.seq ?_
  refine Ec.region ?_
  refine Eo.val (x := (.v (.string p0))) rfl rfl rfl rfl ?_
  obtain ⟨b4, hvb4, H⟩ := bind_some H
  refine Eo.val (op_byteS hvb4 rfl rfl rfl Tryd.underlying9) rfl rfl rfl ?_
  refine Eo.val (x := (.v (.bool (b4 == 34)))) rfl rfl rfl rfl ?_
  refine Eo.nil ?_
  refine Ec.cond (t := (b4 == 34)) rfl (fun hc5 => ?_) (fun hc5 => ?_)
  · have H := cond_t hc5 H
    refine Ec.seq ?_
    refine Ec.region ?_
    refine Eo.val (x := (.v (.string p0))) rfl rfl rfl rfl ?_
    obtain ⟨r6, hvr6, H⟩ := bind_some H
    refine Eo.call rfl rfl rfl rfl (gasmtext_quoted_ok hp2 hvr6) ?_
    obtain ⟨r7, r8⟩ := r6
    rintro _ σ10 ⟨rfl, hp9⟩
    refine Eo.val (x := (.tup [(.v (.string r7)), (.v (.int .i64 r8))])) rfl rfl rfl rfl ?_
    refine Eo.val (x := (.v (.string r7))) rfl rfl rfl rfl ?_
    refine Eo.val (x := (.v (.int .i64 r8))) rfl rfl rfl rfl ?_
    refine Eo.val (x := (.v (.string r7))) rfl rfl rfl rfl ?_
    refine Eo.val (x := (.v (.int .i64 r8))) rfl rfl rfl rfl ?_
    refine Eo.nil ?_
    refine Ec.seq ?_
    refine Ec.region ?_
    refine Eo.val (x := (.v (.string r7))) rfl rfl rfl rfl ?_
    refine Eo.val (x := (.agg [(.v (.int .i64 3)), (.v (.string r7))])) (op_build (lay_cons rfl rfl rfl rfl rfl (lay_cons rfl rfl rfl rfl rfl lay_nil)) rfl (parts_cons rfl rfl (parts_cons rfl rfl rfl)) Tryd.underlying48 rfl rfl) rfl rfl rfl ?_
    refine Eo.val (x := (.v (.int .i64 r8))) rfl rfl rfl rfl ?_
    refine Eo.store hp9 0 rfl (storeCells_mk rfl rfl rfl rfl rfl rfl) rfl rfl rfl rfl rfl ?_
    intro σ12 hp11
    change Hp σ12 (.blk b1 (.cells [(.v (.int .i64 3)), (.v (.string r7))] 48) :: R) at hp11
    refine Eo.val (x := (.v (.int .i64 r8))) rfl rfl rfl rfl ?_
    refine Eo.nil ?_
    obtain rfl := Option.some.inj H
    refine Ec.ret ?_
    refine Ret.mk' (resA_cell hp11 0 rfl rfl rfl (resA_tmp rfl rfl)) ?_
    exact ⟨rfl, (Hp.drop hp11 0)⟩
  · have H := cond_f hc5 H
    refine Ec.skip ?_
    refine Ec.seq ?_
    refine Ec.seq ?_
    refine Ec.region ?_
    refine Eo.val (x := (.v (.string p0))) rfl rfl rfl rfl ?_
    obtain ⟨b13, hvb13, H⟩ := bind_some H
    refine Eo.val (op_byteS hvb13 rfl rfl rfl Tryd.underlying9) rfl rfl rfl ?_
    obtain ⟨r14, hvr14, H⟩ := bind_some H
    refine Eo.call rfl rfl rfl rfl (prim57_ok hp2 hvr14) ?_
    rintro _ σ16 ⟨rfl, hp15⟩
    refine Eo.val (x := (.v (.bool (decide (r14 ≥ 0))))) rfl rfl rfl rfl ?_
    refine Eo.nil ?_
    refine Ec.cond (t := (decide (r14 ≥ 0))) rfl (fun hc17 => ?_) (fun hc17 => ?_)
    · have H := cond_t hc17 H
      refine Ec.seq ?_
      refine Ec.region ?_
      refine Eo.val (x := (.v (.string p0))) rfl rfl rfl rfl ?_
      obtain ⟨s18, hvs18, H⟩ := bind_some H
      refine Eo.val (op_partS hvs18 rfl rfl Tryd.underlying9 (.inl ⟨rfl, rfl⟩) (.inr ⟨_, _, rfl, rfl⟩)) rfl rfl rfl ?_
      refine Eo.val (x := (.agg [(.v (.int .i64 2)), (.v (.string s18))])) (op_build (lay_cons rfl rfl rfl rfl rfl (lay_cons rfl rfl rfl rfl rfl lay_nil)) rfl (parts_cons rfl rfl (parts_cons rfl rfl rfl)) Tryd.underlying48 rfl rfl) rfl rfl rfl ?_
      refine Eo.store hp15 0 rfl (storeCells_mk rfl rfl rfl rfl rfl rfl) rfl rfl rfl rfl rfl ?_
      intro σ20 hp19
      change Hp σ20 (.blk b1 (.cells [(.v (.int .i64 2)), (.v (.string s18))] 48) :: R) at hp19
      refine Eo.val (x := (.v (.int .i64 1))) rfl rfl rfl rfl ?_
      refine Eo.nil ?_
      obtain rfl := Option.some.inj H
      refine Ec.ret ?_
      refine Ret.mk' (resA_cell hp19 0 rfl rfl rfl (resA_tmp rfl rfl)) ?_
      exact ⟨rfl, (Hp.drop hp19 0)⟩
    · have H := cond_f hc17 H
      refine Ec.skip ?_
      refine Ec.seq ?_
      refine Ec.region ?_
      refine Eo.val (x := (.v (.int .i64 0))) rfl rfl rfl rfl ?_
      refine Eo.nil ?_
      refine Ec.seq ?_
      refine Ec.block ?_
      obtain ⟨x58, hv78, H⟩ := bind_some H
      refine Ec.cut (J := (fun (x58 : Int) (x : X) (φ : Fr) (s : St) => x = (.exit 0) ∧ (Hp s (.blk b1 (.cells [(.v (.int .i64 0)), (.v (.string (ByteArray.mk #[])))] 48) :: R) ∧ Fl [(0, (.v (.string p0))), (2, (.ptr b1 0)), (6, (.v (.int .i64 x58)))] φ)) x58) (Ec.weak (.cons rfl (.cons rfl (.cons rfl (.nil')))) (Ec.loopF (f := (fun m (i : Int × Unit) => gasmtext_one_L1 n p0 m i.1)) (G := (fun (i : Int × Unit) => ([(0, (.v (.string p0))), (2, (.ptr b1 0)), (6, (.v (.int .i64 i.1)))] : List (Nat × A)))) (I := (fun (i : Int × Unit) (s : St) => Hp s (.blk b1 (.cells [(.v (.int .i64 0)), (.v (.string (ByteArray.mk #[])))] 48) :: R))) (J := (fun (x58 : Int) (x : X) (φ : Fr) (s : St) => x = (.exit 0) ∧ (Hp s (.blk b1 (.cells [(.v (.int .i64 0)), (.v (.string (ByteArray.mk #[])))] 48) :: R) ∧ Fl [(0, (.v (.string p0))), (2, (.ptr b1 0)), (6, (.v (.int .i64 x58)))] φ))) (fun _ => rfl) ?_ n (0, ()) _ x58 hp15 hv78)) ?_
      · rintro m ⟨y39, _⟩ σ0 v hp0 H ih
        change gasmtext_one_L1 n p0 (m + 1) y39 = some v at H
        rw [gasmtext_one_L1] at H
        change Ec _ _ _ [(0, (.v (.string p0))), (2, (.ptr b1 0)), (6, (.v (.int .i64 y39)))] σ0 _
        refine Ec.seq ?_
        refine Ec.seq ?_
        refine Ec.region ?_
        refine Eo.val (x := (.v (.int .i64 y39))) rfl rfl rfl rfl ?_
        refine Eo.val (x := (.v (.string p0))) rfl rfl rfl rfl ?_
        refine Eo.val (x := (.v (.int .i64 ((p0.size : Nat) : Int)))) (op_len rfl rfl rfl rfl rfl Tryd.underlying9) rfl rfl rfl ?_
        refine Eo.val (x := (.v (.bool (decide (y39 < ((p0.size : Nat) : Int)))))) rfl rfl rfl rfl ?_
        refine Eo.val (x := (.v (.bool (decide (y39 < ((p0.size : Nat) : Int)))))) rfl rfl rfl rfl ?_
        obtain ⟨x64, hv76, H⟩ := bind_some H
        refine Eo.cutN 5 (J := (fun (x64 : Bool) (x : X) (φ : Fr) (s : St) => x = .normal ∧ (Hp s (.blk b1 (.cells [(.v (.int .i64 0)), (.v (.string (ByteArray.mk #[])))] 48) :: R) ∧ Fl [(0, (.v (.string p0))), (2, (.ptr b1 0)), (6, (.v (.int .i64 y39))), (34, (.v (.bool x64)))] φ)) x64) ?_ ?_
        · have H := hv76
          cases hc65 : (decide (y39 < ((p0.size : Nat) : Int)))
          · have H := cond_f hc65 H
            refine Eo.off rfl rfl rfl ?_
            refine Eo.off rfl rfl rfl ?_
            refine Eo.off rfl rfl rfl ?_
            refine Eo.off rfl rfl rfl ?_
            refine Eo.val (x := (.v (.bool false))) rfl rfl rfl rfl ?_
            refine Eo.nil ?_
            obtain rfl := Option.some.inj H
            exact And.intro rfl ⟨hp0, (.cons rfl (.cons rfl (.cons rfl (.cons rfl (.nil')))))⟩
          · have H := cond_t hc65 H
            refine Eo.val (x := (.v (.string p0))) rfl rfl rfl rfl ?_
            refine Eo.val (x := (.v (.int .i64 y39))) rfl rfl rfl rfl ?_
            obtain ⟨b66, hvb66, H⟩ := bind_some H
            refine Eo.val (op_byteS hvb66 rfl rfl rfl Tryd.underlying9) rfl rfl rfl ?_
            obtain ⟨r67, hvr67, H⟩ := bind_some H
            refine Eo.call rfl rfl rfl rfl (gasmtext_word_ok hp0 hvr67) ?_
            rintro _ σ69 ⟨rfl, hp68⟩
            refine Eo.val (x := (.v (.bool r67))) rfl rfl rfl rfl ?_
            refine Eo.nil ?_
            obtain rfl := Option.some.inj H
            exact And.intro rfl ⟨hp68, (.cons rfl (.cons rfl (.cons rfl (.cons rfl (.nil')))))⟩
        · skip
          intro x φ72 σ71 hJ
          obtain ⟨rfl, hp70, hf73⟩ := hJ
          refine ⟨rfl, Eo.of (F := [(0, (.v (.string p0))), (2, (.ptr b1 0)), (6, (.v (.int .i64 y39))), (34, (.v (.bool x64)))]) hf73 ?_⟩
          refine Eo.nil ?_
          refine Ec.cond (t := x64) rfl (fun hc74 => ?_) (fun hc74 => ?_)
          · have H := cond_t hc74 H
            refine Ec.skip ?_
            refine Ec.block ?_
            refine Ec.region ?_
            refine Eo.val (x := (.v (.int .i64 y39))) rfl rfl rfl rfl ?_
            refine Eo.val (x := (.v (.int .i64 (IntKind.wrap .i64 (y39 + 1))))) rfl rfl rfl rfl ?_
            refine Eo.val (x := (.v (.int .i64 (IntKind.wrap .i64 (y39 + 1))))) rfl rfl rfl rfl ?_
            refine Eo.nil ?_
            exact Ec.of (.cons rfl (.cons rfl (.cons rfl (.nil')))) (ih ((IntKind.wrap .i64 (y39 + 1)), ()) _ hp70 H)
          · have H := cond_f hc74 H
            refine Ec.exit ?_
            obtain rfl := Option.some.inj H
            exact And.intro rfl ⟨hp70, (.cons rfl (.cons rfl (.cons rfl (.nil'))))⟩
      · skip
        intro x φ81 σ80 hJ
        obtain ⟨rfl, hp79, hf82⟩ := hJ
        refine Ec.of (F := [(0, (.v (.string p0))), (2, (.ptr b1 0)), (6, (.v (.int .i64 x58)))]) hf82 ?_
        refine Ec.seq ?_
        refine Ec.region ?_
        refine Eo.val (x := (.v (.string p0))) rfl rfl rfl rfl ?_
        refine Eo.val (x := (.v (.int .i64 x58))) rfl rfl rfl rfl ?_
        obtain ⟨s83, hvs83, H⟩ := bind_some H
        refine Eo.val (op_partS hvs83 rfl rfl Tryd.underlying9 (.inl ⟨rfl, rfl⟩) (.inr ⟨_, _, rfl, rfl⟩)) rfl rfl rfl ?_
        refine Eo.val (x := (.agg [(.v (.int .i64 1)), (.v (.string s83))])) (op_build (lay_cons rfl rfl rfl rfl rfl (lay_cons rfl rfl rfl rfl rfl lay_nil)) rfl (parts_cons rfl rfl (parts_cons rfl rfl rfl)) Tryd.underlying48 rfl rfl) rfl rfl rfl ?_
        refine Eo.val (x := (.v (.int .i64 x58))) rfl rfl rfl rfl ?_
        refine Eo.store hp79 0 rfl (storeCells_mk rfl rfl rfl rfl rfl rfl) rfl rfl rfl rfl rfl ?_
        intro σ85 hp84
        change Hp σ85 (.blk b1 (.cells [(.v (.int .i64 1)), (.v (.string s83))] 48) :: R) at hp84
        refine Eo.val (x := (.v (.int .i64 x58))) rfl rfl rfl rfl ?_
        refine Eo.nil ?_
        obtain rfl := Option.some.inj H
        refine Ec.ret ?_
        refine Ret.mk' (resA_cell hp84 0 rfl rfl rfl (resA_tmp rfl rfl)) ?_
        exact ⟨rfl, (Hp.drop hp84 0)⟩

def gasmtext_Words_L1 (N : Nat) : Nat → ByteArray → (List TTok) → Option (LR (List TTok) ((List TTok) × Int))
  | 0, _, _ => none
  | m + 1, y43, y44 => ((trimLeftT y43 (ByteArray.mk #[32, 9])).bind fun r86 => (((cond (decide (r86 = (ByteArray.mk #[]))) (some true) (((atS r86 0).bind fun b93 => some (b93 == 35)))) : Option (Bool)).bind fun x91 => (cond x91 (some (.out y44)) (((gasmtext_one N r86).bind fun v => match v with | (r100, r101) => (cond (r101 == 0) (some (.ret (([] : List TTok), 131))) (((appL 24 y44 ([r100] : List TTok)).bind fun l114 => ((subS r86 r101 ((r86.size : Nat) : Int)).bind fun s119 => gasmtext_Words_L1 N m s119 l114)))))))))

def gasmtext_Words (n : Nat) (p0 : ByteArray) : Option (((List TTok) × Int)) := ((containsT p0 (ByteArray.mk #[10])).bind fun r3 => (cond r3 (some (([] : List TTok), 131)) (((gasmtext_Words_L1 n n p0 ([] : List TTok)).bind fun v => match v with | .out x83 => (cond (decide (((x83.length : Nat) : Int) > 64)) (some (([] : List TTok), 133)) (some (x83, 0))) | .ret r129 => some r129))))

def gasmtext_Words_post (R : List Res) (r : ((List TTok) × Int)) (x : A) (s : St) : Prop := ∃ (a1 : A), x = (.tup [a1, (.v (.int .i64 r.2))]) ∧ Sl rTTok a1 r.1 ∧ Hp s (.app a1 48 :: R)

theorem gasmtext_Words_ok {n : Nat} {p0 : ByteArray} {R : List Res} {σ : St} (hp : Hp σ R) {r : ((List TTok) × Int)} (H : gasmtext_Words n p0 = some r) : Ca cfg 13 [(.v (.string p0))] σ (gasmtext_Words_post R r) := by
  unfold gasmtext_Words at H
  refine Ca.enterL (G := [(0, (.v (.string p0)))]) Tryd.func13 rfl rfl rfl rfl ?_
  refine Ec.seq ?_
  refine Ec.region ?_
  refine Eo.val (x := nilS) rfl rfl rfl rfl ?_
  refine Eo.val (x := (.v (.int .i64 0))) rfl rfl rfl rfl ?_
  refine Eo.nil ?_
  refine Ec.seq ?_
  refine Ec.seq ?_
  refine Ec.region ?_
  refine Eo.val (x := (.v (.string p0))) rfl rfl rfl rfl ?_
  obtain ⟨r3, hvr3, H⟩ := bind_some H
  refine Eo.call rfl rfl rfl rfl (prim28_ok hp hvr3) ?_
  rintro _ σ5 ⟨rfl, hp4⟩
  refine Eo.nil ?_
  refine Ec.cond (t := r3) rfl (fun hc6 => ?_) (fun hc6 => ?_)
  · have H := cond_t hc6 H
    refine Ec.seq ?_
    refine Ec.region ?_
    refine Eo.val (x := nilS) rfl rfl rfl rfl ?_
    refine Eo.val (x := (.v (.int .i64 131))) rfl rfl rfl rfl ?_
    refine Eo.nil ?_
    obtain rfl := Option.some.inj H
    refine Ec.ret ?_
    refine Ret.mk rfl ?_
    exact ⟨nilS, rfl, Sl.nil, (Hp.appNil hp4 48)⟩
  · have H := cond_f hc6 H
    refine Ec.skip ?_
    refine Ec.seq ?_
    refine Ec.region ?_
    refine Eo.val (x := nilS) rfl rfl rfl rfl ?_
    refine Eo.nil ?_
    refine Ec.seq ?_
    refine Ec.block ?_
    obtain ⟨v122, hv123, H⟩ := bind_some H
    refine Ec.cut (J := (fun (v : LR (List TTok) ((List TTok) × Int)) (x : X) (φ : Fr) (s : St) => match v with | .out x83 => x = (.exit 0) ∧ (∃ (a84 : A), Sl rTTok a84 x83 ∧ Hp s (.app a84 48 :: R) ∧ Fl [(4, a84)] φ) | .ret r => x = .ret ∧ Ret cfg Tryd.f13 (gasmtext_Words_post R r) .ret φ s) v122) (Ec.weak (.cons rfl (.cons rfl (.nil'))) (Ec.loopF (f := (fun m (i : (ByteArray × (List TTok)) × A) => gasmtext_Words_L1 n m i.1.1 i.1.2)) (G := (fun (i : (ByteArray × (List TTok)) × A) => ([(0, (.v (.string i.1.1))), (4, i.2)] : List (Nat × A)))) (I := (fun (i : (ByteArray × (List TTok)) × A) (s : St) => Sl rTTok i.2 i.1.2 ∧ Hp s (.app i.2 48 :: R))) (J := (fun (v : LR (List TTok) ((List TTok) × Int)) (x : X) (φ : Fr) (s : St) => match v with | .out x83 => x = (.exit 0) ∧ (∃ (a84 : A), Sl rTTok a84 x83 ∧ Hp s (.app a84 48 :: R) ∧ Fl [(4, a84)] φ) | .ret r => x = .ret ∧ Ret cfg Tryd.f13 (gasmtext_Words_post R r) .ret φ s)) (fun _ => rfl) ?_ n ((p0, ([] : List TTok)), nilS) _ v122 ⟨Sl.nil, (Hp.appNil hp4 48)⟩ hv123)) ?_
    · rintro m ⟨⟨y43, y44⟩, a45⟩ σ0 v ⟨h46, hp0⟩ H ih
      change gasmtext_Words_L1 n (m + 1) y43 y44 = some v at H
      rw [gasmtext_Words_L1] at H
      change Ec _ _ _ [(0, (.v (.string y43))), (4, a45)] σ0 _
      refine Ec.block ?_
      refine Ec.seq ?_
      refine Ec.region ?_
      refine Eo.val (x := (.v (.string y43))) rfl rfl rfl rfl ?_
      obtain ⟨r86, hvr86, H⟩ := bind_some H
      refine Eo.call rfl rfl rfl rfl (prim29_ok hp0 hvr86) ?_
      rintro _ σ88 ⟨rfl, hp87⟩
      refine Eo.val (x := (.v (.string r86))) rfl rfl rfl rfl ?_
      refine Eo.nil ?_
      refine Ec.seq ?_
      refine Ec.seq ?_
      refine Ec.region ?_
      refine Eo.val (x := (.v (.string r86))) rfl rfl rfl rfl ?_
      refine Eo.val (x := (.v (.bool (decide (r86 = (ByteArray.mk #[])))))) (val_b rfl (seq_eq _ _)) rfl rfl rfl ?_
      refine Eo.val (x := (.v (.bool (decide (r86 = (ByteArray.mk #[])))))) rfl rfl rfl rfl ?_
      obtain ⟨x91, hv121, H⟩ := bind_some H
      refine Eo.cutN 4 (J := (fun (x91 : Bool) (x : X) (φ : Fr) (s : St) => x = .normal ∧ (Hp s (.app a45 48 :: R) ∧ Fl [(0, (.v (.string r86))), (4, a45), (17, (.v (.bool x91)))] φ)) x91) ?_ ?_
      · have H := hv121
        cases hc92 : (decide (r86 = (ByteArray.mk #[])))
        · have H := cond_f hc92 H
          refine Eo.val (x := (.v (.string r86))) rfl rfl rfl rfl ?_
          obtain ⟨b93, hvb93, H⟩ := bind_some H
          refine Eo.val (op_byteS hvb93 rfl rfl rfl Tryd.underlying9) rfl rfl rfl ?_
          refine Eo.val (x := (.v (.bool (b93 == 35)))) rfl rfl rfl rfl ?_
          refine Eo.val (x := (.v (.bool (b93 == 35)))) rfl rfl rfl rfl ?_
          refine Eo.nil ?_
          obtain rfl := Option.some.inj H
          exact And.intro rfl ⟨hp87, (.cons rfl (.cons rfl (.cons rfl (.nil'))))⟩
        · have H := cond_t hc92 H
          refine Eo.off rfl rfl rfl ?_
          refine Eo.off rfl rfl rfl ?_
          refine Eo.off rfl rfl rfl ?_
          refine Eo.val (x := (.v (.bool true))) rfl rfl rfl rfl ?_
          refine Eo.nil ?_
          obtain rfl := Option.some.inj H
          exact And.intro rfl ⟨hp87, (.cons rfl (.cons rfl (.cons rfl (.nil'))))⟩
      · skip
        intro x φ96 σ95 hJ
        obtain ⟨rfl, hp94, hf97⟩ := hJ
        refine ⟨rfl, Eo.of (F := [(0, (.v (.string r86))), (4, a45), (17, (.v (.bool x91)))]) hf97 ?_⟩
        refine Eo.nil ?_
        refine Ec.cond (t := x91) rfl (fun hc98 => ?_) (fun hc98 => ?_)
        · have H := cond_t hc98 H
          refine Ec.exit ?_
          obtain rfl := Option.some.inj H
          exact And.intro rfl ⟨a45, h46, hp94, (.cons rfl (.nil'))⟩
        · have H := cond_f hc98 H
          refine Ec.skip ?_
          refine Ec.seq ?_
          refine Ec.region ?_
          refine Eo.val (x := (.v (.string r86))) rfl rfl rfl rfl ?_
          obtain ⟨r99, hvr99, H⟩ := bind_some H
          refine Eo.call rfl rfl rfl rfl (gasmtext_one_ok hp94 hvr99) ?_
          obtain ⟨r100, r101⟩ := r99
          rintro _ σ103 ⟨rfl, hp102⟩
          refine Eo.val (x := (.tup [(.agg [(.v (.int .i64 r100.f_Kind)), (.v (.string r100.f_Text))]), (.v (.int .i64 r101))])) rfl rfl rfl rfl ?_
          refine Eo.val (x := (.agg [(.v (.int .i64 r100.f_Kind)), (.v (.string r100.f_Text))])) rfl rfl rfl rfl ?_
          refine Eo.val (x := (.v (.int .i64 r101))) rfl rfl rfl rfl ?_
          refine Eo.alloc (z := [(.v (.int .i64 0)), (.v (.string (ByteArray.mk #[])))]) hp102 rfl rfl rfl rfl rfl ?_
          intro b104 σ106 hp105
          refine Eo.store hp105 0 rfl (storeCells_mk rfl rfl rfl rfl rfl rfl) rfl rfl rfl rfl rfl ?_
          intro σ108 hp107
          change Hp σ108 (.blk b104 (.cells [(.v (.int .i64 r100.f_Kind)), (.v (.string r100.f_Text))] 48) :: .app a45 48 :: R) at hp107
          refine Eo.val (x := (.v (.int .i64 r101))) rfl rfl rfl rfl ?_
          refine Eo.nil ?_
          refine Ec.seq ?_
          refine Ec.seq ?_
          refine Ec.region ?_
          refine Eo.val (x := (.v (.int .i64 r101))) rfl rfl rfl rfl ?_
          refine Eo.val (x := (.v (.bool (r101 == 0)))) rfl rfl rfl rfl ?_
          refine Eo.nil ?_
          refine Ec.cond (t := (r101 == 0)) rfl (fun hc109 => ?_) (fun hc109 => ?_)
          · have H := cond_t hc109 H
            refine Ec.seq ?_
            refine Ec.region ?_
            refine Eo.val (x := nilS) rfl rfl rfl rfl ?_
            refine Eo.val (x := (.v (.int .i64 131))) rfl rfl rfl rfl ?_
            refine Eo.nil ?_
            obtain rfl := Option.some.inj H
            refine Ec.ret ?_
            refine And.intro rfl (Ret.mk rfl ?_)
            exact ⟨nilS, rfl, Sl.nil, (Hp.appNil (Hp.drop (Hp.drop hp107 0) 0) 48)⟩
          · have H := cond_f hc109 H
            refine Ec.skip ?_
            refine Ec.seq ?_
            refine Ec.region ?_
            refine Eo.val (x := a45) rfl rfl rfl rfl ?_
            refine Eo.val (x := (.agg [(.v (.int .i64 r100.f_Kind)), (.v (.string r100.f_Text))])) (op_loadB hp107 0 rfl rfl rfl rfl) rfl rfl rfl ?_
            refine Eo.val (x := (.sl 2 [(.v (.int .i64 r100.f_Kind)), (.v (.string r100.f_Text))] .ex)) (op_buildS (lay_cons rfl rfl rfl rfl rfl lay_nil) rfl (parts_cons rfl rfl rfl) Tryd.underlying31 rfl rfl rfl rfl (by decide) rfl) rfl rfl rfl ?_
            have h113 : Sl rTTok (.sl 2 [(.v (.int .i64 r100.f_Kind)), (.v (.string r100.f_Text))] .ex) ([r100] : List TTok) := .inr ⟨_, _, rfl, (.cons (c := [(.v (.int .i64 r100.f_Kind)), (.v (.string r100.f_Text))]) rfl .nil)⟩
            have hp112 := Hp.appEx hp107 48 2 [(.v (.int .i64 r100.f_Kind)), (.v (.string r100.f_Text))]
            obtain ⟨l114, hvl114, H⟩ := bind_some H
            refine Eo.append hp112 2 rfl h46 (New.of h113) hvl114 rfl rfl rfl rfl rfl rfl rfl Tryd.underlying31 rfl Tryd.underlying31 rfl rfl rfl rfl rfl rfl rfl rfl ?_
            intro a115 σ118 h116 hp117
            change Hp σ118 (.app (.sl 2 [(.v (.int .i64 r100.f_Kind)), (.v (.string r100.f_Text))] .ex) 48 :: .blk b104 (.cells [(.v (.int .i64 r100.f_Kind)), (.v (.string r100.f_Text))] 48) :: .app a115 48 :: R) at hp117
            refine Eo.val (x := a115) rfl rfl rfl rfl ?_
            refine Eo.nil ?_
            refine Ec.region ?_
            refine Eo.val (x := (.v (.string r86))) rfl rfl rfl rfl ?_
            refine Eo.val (x := (.v (.int .i64 r101))) rfl rfl rfl rfl ?_
            obtain ⟨s119, hvs119, H⟩ := bind_some H
            refine Eo.val (op_partS hvs119 rfl rfl Tryd.underlying9 (.inr ⟨_, _, rfl, rfl⟩) (.inl ⟨rfl, rfl⟩)) rfl rfl rfl ?_
            refine Eo.val (x := (.v (.string s119))) rfl rfl rfl rfl ?_
            refine Eo.nil ?_
            exact Ec.of (.cons rfl (.cons rfl (.nil'))) (ih ((s119, l114), a115) _ ⟨h116, (Hp.drop (Hp.drop hp117 0) 0)⟩ H)
    · rcases v122 with x83 | r129
      · intro x φ126 σ125 hJ
        obtain ⟨rfl, a84, h85, hp124, hf127⟩ := hJ
        refine Ec.of (F := [(4, a84)]) hf127 ?_
        refine Ec.seq ?_
        refine Ec.seq ?_
        refine Ec.region ?_
        refine Eo.val (x := a84) rfl rfl rfl rfl ?_
        refine Eo.val (x := (.v (.int .i64 ((x83.length : Nat) : Int)))) (op_lenL h85 rfl rfl rfl rfl rfl Tryd.underlying31) rfl rfl rfl ?_
        refine Eo.val (x := (.v (.bool (decide (((x83.length : Nat) : Int) > 64))))) rfl rfl rfl rfl ?_
        refine Eo.nil ?_
        refine Ec.cond (t := (decide (((x83.length : Nat) : Int) > 64))) rfl (fun hc128 => ?_) (fun hc128 => ?_)
        · have H := cond_t hc128 H
          refine Ec.seq ?_
          refine Ec.region ?_
          refine Eo.val (x := nilS) rfl rfl rfl rfl ?_
          refine Eo.val (x := (.v (.int .i64 133))) rfl rfl rfl rfl ?_
          refine Eo.nil ?_
          obtain rfl := Option.some.inj H
          refine Ec.ret ?_
          refine Ret.mk rfl ?_
          exact ⟨nilS, rfl, Sl.nil, (Hp.appNil (Hp.drop hp124 0) 48)⟩
        · have H := cond_f hc128 H
          refine Ec.skip ?_
          refine Ec.seq ?_
          refine Ec.region ?_
          refine Eo.val (x := a84) rfl rfl rfl rfl ?_
          refine Eo.val (x := a84) rfl rfl rfl rfl ?_
          refine Eo.val (x := (.v (.int .i64 0))) rfl rfl rfl rfl ?_
          refine Eo.nil ?_
          obtain rfl := Option.some.inj H
          refine Ec.ret ?_
          refine Ret.mk rfl ?_
          exact ⟨a84, rfl, h85, hp124⟩
      · intro x φ130 σ131 hJ
        obtain rfl := Option.some.inj H
        obtain ⟨rfl, hr⟩ := hJ
        exact hr

def gasmtext_isName (n : Nat) (p0 : TTok) : Option (Bool) := (((cond (p0.f_Kind == 1) (((atS p0.f_Text 0).bind fun b10 => (cond (decide (b10 < 48)) (some true) (((atS p0.f_Text 0).bind fun b12 => some (decide (b12 > 57))))))) (some false)) : Option (Bool)).bind fun x8 => some x8)

def gasmtext_isName_post (R : List Res) (r : Bool) (x : A) (s : St) : Prop := x = (.v (.bool r)) ∧ Hp s (R)

theorem gasmtext_isName_ok {n : Nat} {p0 : TTok} {R : List Res} {σ : St} (hp : Hp σ R) {r : Bool} (H : gasmtext_isName n p0 = some r) : Ca cfg 36 [(.agg [(.v (.int .i64 p0.f_Kind)), (.v (.string p0.f_Text))])] σ (gasmtext_isName_post R r) := by
  unfold gasmtext_isName at H
  refine Ca.enterL (G := [(0, (.agg [(.v (.int .i64 p0.f_Kind)), (.v (.string p0.f_Text))]))]) Tryd.func36 rfl rfl rfl rfl ?_
  refine Ec.seq ?_
  refine Ec.region ?_
  refine Eo.box hp rfl rfl rfl rfl rfl rfl rfl ?_
  intro b1 σ3 hp2
  refine Eo.val (x := (.v (.bool false))) rfl rfl rfl rfl ?_
  refine Eo.nil ?_
  refine Ec.seq ?_
  refine Ec.region ?_
  refine Eo.val (x := (.ptr b1 0)) rfl rfl rfl rfl ?_
  refine Eo.val (x := (.v (.int .i64 p0.f_Kind))) (op_loadB hp2 0 rfl rfl rfl rfl) rfl rfl rfl ?_
  refine Eo.val (x := (.v (.bool (p0.f_Kind == 1)))) rfl rfl rfl rfl ?_
  refine Eo.val (x := (.v (.bool (p0.f_Kind == 1)))) rfl rfl rfl rfl ?_
  obtain ⟨x8, hv18, H⟩ := bind_some H
  refine Eo.cutN 11 (J := (fun (x8 : Bool) (x : X) (φ : Fr) (s : St) => x = .normal ∧ (Hp s (R) ∧ Fl [(2, (.v (.bool false))), (17, (.v (.bool x8)))] φ)) x8) ?_ ?_
  · have H := hv18
    cases hc9 : (p0.f_Kind == 1)
    · have H := cond_f hc9 H
      refine Eo.off rfl rfl rfl ?_
      refine Eo.off rfl rfl rfl ?_
      refine Eo.off rfl rfl rfl ?_
      refine Eo.off rfl rfl rfl ?_
      refine Eo.off rfl rfl rfl ?_
      refine Eo.off rfl rfl rfl ?_
      refine Eo.off rfl rfl rfl ?_
      refine Eo.off rfl rfl rfl ?_
      refine Eo.off rfl rfl rfl ?_
      refine Eo.off rfl rfl rfl ?_
      refine Eo.val (x := (.v (.bool false))) rfl rfl rfl rfl ?_
      refine Eo.nil ?_
      obtain rfl := Option.some.inj H
      exact And.intro rfl ⟨(Hp.drop hp2 0), (.cons rfl (.cons rfl (.nil')))⟩
    · have H := cond_t hc9 H
      refine Eo.val (x := (.ptr b1 1)) rfl rfl rfl rfl ?_
      refine Eo.val (x := (.v (.string p0.f_Text))) (op_loadB hp2 0 rfl rfl rfl rfl) rfl rfl rfl ?_
      obtain ⟨b10, hvb10, H⟩ := bind_some H
      refine Eo.val (op_byteS hvb10 rfl rfl rfl Tryd.underlying9) rfl rfl rfl ?_
      refine Eo.val (x := (.v (.bool (decide (b10 < 48))))) rfl rfl rfl rfl ?_
      refine Eo.val (x := (.v (.bool (decide (b10 < 48))))) rfl rfl rfl rfl ?_
      cases hc11 : (decide (b10 < 48))
      · have H := cond_f hc11 H
        refine Eo.val (x := (.ptr b1 1)) rfl rfl rfl rfl ?_
        refine Eo.val (x := (.v (.string p0.f_Text))) (op_loadB hp2 0 rfl rfl rfl rfl) rfl rfl rfl ?_
        obtain ⟨b12, hvb12, H⟩ := bind_some H
        refine Eo.val (op_byteS hvb12 rfl rfl rfl Tryd.underlying9) rfl rfl rfl ?_
        refine Eo.val (x := (.v (.bool (decide (b12 > 57))))) rfl rfl rfl rfl ?_
        refine Eo.val (x := (.v (.bool (decide (b12 > 57))))) rfl rfl rfl rfl ?_
        refine Eo.val (x := (.v (.bool (decide (b12 > 57))))) rfl rfl rfl rfl ?_
        refine Eo.nil ?_
        obtain rfl := Option.some.inj H
        exact And.intro rfl ⟨(Hp.drop hp2 0), (.cons rfl (.cons rfl (.nil')))⟩
      · have H := cond_t hc11 H
        refine Eo.off rfl rfl rfl ?_
        refine Eo.off rfl rfl rfl ?_
        refine Eo.off rfl rfl rfl ?_
        refine Eo.off rfl rfl rfl ?_
        refine Eo.val (x := (.v (.bool true))) rfl rfl rfl rfl ?_
        refine Eo.val (x := (.v (.bool true))) rfl rfl rfl rfl ?_
        refine Eo.nil ?_
        obtain rfl := Option.some.inj H
        exact And.intro rfl ⟨(Hp.drop hp2 0), (.cons rfl (.cons rfl (.nil')))⟩
  · skip
    intro x φ15 σ14 hJ
    obtain ⟨rfl, hp13, hf16⟩ := hJ
    refine ⟨rfl, Eo.of (F := [(2, (.v (.bool false))), (17, (.v (.bool x8)))]) hf16 ?_⟩
    refine Eo.val (x := (.v (.bool x8))) rfl rfl rfl rfl ?_
    refine Eo.nil ?_
    obtain rfl := Option.some.inj H
    refine Ec.ret ?_
    refine Ret.mk rfl ?_
    exact ⟨rfl, hp13⟩

def gasmtext_labelled (n : Nat) (p0 : (List TTok)) : Option (Bool) := (((cond (decide (((p0.length : Nat) : Int) > 1)) (((atL p0 0).bind fun x13 => ((gasmtext_isName n x13).bind fun r17 => some r17))) (some false)) : Option (Bool)).bind fun x11 => (((cond x11 (((atL p0 1).bind fun x31 => some ((x31.f_Kind == 2) && ((decide (x31.f_Text = (ByteArray.mk #[58]))) && true)))) (some false)) : Option (Bool)).bind fun x29 => some x29))

def gasmtext_labelled_post (R : List Res) (r : Bool) (x : A) (s : St) : Prop := x = (.v (.bool r)) ∧ Hp s (R)

theorem gasmtext_labelled_ok {n : Nat} {p0 : (List TTok)} {a1 : A} {R : List Res} {σ : St} (h2 : Sl rTTok a1 p0) (hp : Hp σ R) {r : Bool} (H : gasmtext_labelled n p0 = some r) : Ca cfg 23 [a1] σ (gasmtext_labelled_post R r) := by
  unfold gasmtext_labelled at H
  refine Ca.enterL (G := [(0, a1)]) Tryd.func23 rfl rfl rfl rfl ?_
  refine Ec.seq ?_
  refine Ec.region ?_
  refine Eo.val (x := (.v (.bool false))) rfl rfl rfl rfl ?_
  refine Eo.nil ?_
  refine Ec.seq ?_
  refine Ec.region ?_
  refine Eo.val (x := a1) rfl rfl rfl rfl ?_
  refine Eo.val (x := (.v (.int .i64 ((p0.length : Nat) : Int)))) (op_lenL h2 rfl rfl rfl rfl rfl Tryd.underlying31) rfl rfl rfl ?_
  refine Eo.val (x := (.v (.bool (decide (((p0.length : Nat) : Int) > 1))))) rfl rfl rfl rfl ?_
  refine Eo.val (x := (.v (.bool (decide (((p0.length : Nat) : Int) > 1))))) rfl rfl rfl rfl ?_
  obtain ⟨x11, hv42, H⟩ := bind_some H
  refine Eo.cutN 5 (J := (fun (x11 : Bool) (x : X) (φ : Fr) (s : St) => x = .normal ∧ (Hp s (R) ∧ Fl [(0, a1), (2, (.v (.bool false))), (11, (.v (.bool x11)))] φ)) x11) ?_ ?_
  · have H := hv42
    cases hc12 : (decide (((p0.length : Nat) : Int) > 1))
    · have H := cond_f hc12 H
      refine Eo.off rfl rfl rfl ?_
      refine Eo.off rfl rfl rfl ?_
      refine Eo.off rfl rfl rfl ?_
      refine Eo.off rfl rfl rfl ?_
      refine Eo.val (x := (.v (.bool false))) rfl rfl rfl rfl ?_
      refine Eo.nil ?_
      obtain rfl := Option.some.inj H
      exact And.intro rfl ⟨hp, (.cons rfl (.cons rfl (.cons rfl (.nil'))))⟩
    · have H := cond_t hc12 H
      refine Eo.val (x := a1) rfl rfl rfl rfl ?_
      obtain ⟨x13, hvx13, H⟩ := bind_some H
      refine Eo.idx h2 hvx13 rfl rfl rfl Tryd.underlying31 rfl rfl rfl rfl ?_
      rintro cs14 p15 _ hat16 rfl
      refine Eo.val (x := (.agg [(.v (.int .i64 x13.f_Kind)), (.v (.string x13.f_Text))])) (op_loadSpAgg hat16 0 rfl rfl rfl rfl rfl rfl) rfl rfl rfl ?_
      obtain ⟨r17, hvr17, H⟩ := bind_some H
      refine Eo.call rfl rfl rfl rfl (gasmtext_isName_ok hp hvr17) ?_
      rintro _ σ19 ⟨rfl, hp18⟩
      refine Eo.val (x := (.v (.bool r17))) rfl rfl rfl rfl ?_
      refine Eo.nil ?_
      obtain rfl := Option.some.inj H
      exact And.intro rfl ⟨hp18, (.cons rfl (.cons rfl (.cons rfl (.nil'))))⟩
  · skip
    intro x φ22 σ21 hJ
    obtain ⟨rfl, hp20, hf23⟩ := hJ
    refine ⟨rfl, Eo.of (F := [(0, a1), (2, (.v (.bool false))), (11, (.v (.bool x11)))]) hf23 ?_⟩
    refine Eo.val (x := (.v (.bool x11))) rfl rfl rfl rfl ?_
    obtain ⟨x29, hv40, H⟩ := bind_some H
    refine Eo.cutN 6 (J := (fun (x29 : Bool) (x : X) (φ : Fr) (s : St) => x = .normal ∧ (Hp s (R) ∧ Fl [(2, (.v (.bool false))), (18, (.v (.bool x29)))] φ)) x29) ?_ ?_
    · have H := hv40
      cases hc30 : x11
      · have H := cond_f hc30 H
        refine Eo.off rfl rfl rfl ?_
        refine Eo.off rfl rfl rfl ?_
        refine Eo.off rfl rfl rfl ?_
        refine Eo.off rfl rfl rfl ?_
        refine Eo.off rfl rfl rfl ?_
        refine Eo.val (x := (.v (.bool false))) rfl rfl rfl rfl ?_
        refine Eo.nil ?_
        obtain rfl := Option.some.inj H
        exact And.intro rfl ⟨hp20, (.cons rfl (.cons rfl (.nil')))⟩
      · have H := cond_t hc30 H
        refine Eo.val (x := a1) rfl rfl rfl rfl ?_
        obtain ⟨x31, hvx31, H⟩ := bind_some H
        refine Eo.idx h2 hvx31 rfl rfl rfl Tryd.underlying31 rfl rfl rfl rfl ?_
        rintro cs32 p33 _ hat34 rfl
        refine Eo.val (x := (.agg [(.v (.int .i64 x31.f_Kind)), (.v (.string x31.f_Text))])) (op_loadSpAgg hat34 0 rfl rfl rfl rfl rfl rfl) rfl rfl rfl ?_
        refine Eo.val (x := (.agg [(.v (.int .i64 2)), (.v (.string (ByteArray.mk #[58])))])) (op_build (lay_cons rfl rfl rfl rfl rfl (lay_cons rfl rfl rfl rfl rfl lay_nil)) rfl (parts_cons rfl rfl (parts_cons rfl rfl rfl)) Tryd.underlying48 rfl rfl) rfl rfl rfl ?_
        refine Eo.val (x := (.v (.bool ((x31.f_Kind == 2) && ((decide (x31.f_Text = (ByteArray.mk #[58]))) && true))))) (op_eqSt rfl rfl rfl rfl rfl Tryd.underlying48 (by kernel_rfl) (by kernel_rfl) (fun d => (det_eqF_cons rfl rfl rfl (det_eqI Tryd.underlying3) (det_eqF_cons rfl rfl rfl (det_eqS Tryd.underlying9) det_eqF_nil)))) rfl rfl rfl ?_
        refine Eo.val (x := (.v (.bool ((x31.f_Kind == 2) && ((decide (x31.f_Text = (ByteArray.mk #[58]))) && true))))) rfl rfl rfl rfl ?_
        refine Eo.nil ?_
        obtain rfl := Option.some.inj H
        exact And.intro rfl ⟨hp20, (.cons rfl (.cons rfl (.nil')))⟩
    · skip
      intro x φ37 σ36 hJ
      obtain ⟨rfl, hp35, hf38⟩ := hJ
      refine ⟨rfl, Eo.of (F := [(2, (.v (.bool false))), (18, (.v (.bool x29)))]) hf38 ?_⟩
      refine Eo.val (x := (.v (.bool x29))) rfl rfl rfl rfl ?_
      refine Eo.nil ?_
      obtain rfl := Option.some.inj H
      refine Ec.ret ?_
      refine Ret.mk rfl ?_
      exact ⟨rfl, hp35⟩

def gasmtext_Parse_L2 (N : Nat) : Nat → (List TTok) → (List ByteArray) → Option (((List TTok) × (List ByteArray)))
  | 0, _, _ => none
  | m + 1, y1060, y1063 => ((gasmtext_labelled N y1060).bind fun r1118 => (cond r1118 (((((atL y1060 0).bind fun x1140 => ((appL 16 y1063 ([x1140.f_Text] : List ByteArray)).bind fun l1148 => some l1148)) : Option ((List ByteArray))).bind fun x1137 => ((subL y1060 2 ((y1060.length : Nat) : Int)).bind fun l1159 => gasmtext_Parse_L2 N m l1159 x1137))) (some (y1060, y1063))))

def gasmtext_Parse_L1 (N : Nat) (r4 : (List ByteArray)) : Nat → (List TLine) → Int → Option (LR (List TLine) ((List TLine) × Int × Int))
  | 0, _, _ => none
  | m + 1, y403, y406 => (cond (decide (y406 < ((r4.length : Nat) : Int))) (((((atL r4 y406).bind fun x997 => ((gasmtext_Words N x997).bind fun v => match v with | (r1002, r1003) => (cond (r1003 != 0) (some (.ret (([] : List TLine), (IntKind.wrap .i64 (y406 + 1)), r1003))) (((gasmtext_Parse_L2 N N r1002 ([] : List ByteArray)).bind fun v => match v with | (x1112, x1115) => (cond ((decide (((x1115.length : Nat) : Int) > 0)) || (decide (((x1112.length : Nat) : Int) > 0))) (((appL 56 y403 ([(TLine.mk (IntKind.wrap .i64 (y406 + 1)) x1115 x1112)] : List TLine)).bind fun l1182 => some (.out l1182))) (some (.out y403)))))))) : Option (LR (List TLine) ((List TLine) × Int × Int))).bind fun v => match v with | .out x994 => gasmtext_Parse_L1 N r4 m x994 (IntKind.wrap .i64 (y406 + 1)) | .ret r1191 => some (.ret r1191))) (some (.out y403)))

def gasmtext_Parse (n : Nat) (p0 : ByteArray) : Option (((List TLine) × Int × Int)) := (cond (decide (((p0.size : Nat) : Int) > 262144)) (some (([] : List TLine), 0, 133)) (((gasmtext_lines n p0).bind fun r4 => (cond (decide (((r4.length : Nat) : Int) > 16384)) (some (([] : List TLine), 0, 133)) (((gasmtext_Parse_L1 n r4 n ([] : List TLine) 0).bind fun v => match v with | .out x800 => some (x800, 0, 0) | .ret r1202 => some r1202))))))

def gasmtext_Parse_post (R : List Res) (r : ((List TLine) × Int × Int)) (x : A) (s : St) : Prop := ∃ (a1 : A), x = (.tup [a1, (.v (.int .i64 r.2.1)), (.v (.int .i64 r.2.2))]) ∧ Sl rTLine a1 r.1 ∧ Hp s (.app a1 46 :: R)

theorem gasmtext_Parse_ok {n : Nat} {p0 : ByteArray} {R : List Res} {σ : St} (hp : Hp σ R) {r : ((List TLine) × Int × Int)} (H : gasmtext_Parse n p0 = some r) : Ca cfg 10 [(.v (.string p0))] σ (gasmtext_Parse_post R r) := by
  unfold gasmtext_Parse at H
  refine Ca.enterL (G := [(0, (.v (.string p0)))]) Tryd.func10 rfl rfl rfl rfl ?_
  refine Ec.seq ?_
  refine Ec.region ?_
  refine Eo.val (x := nilS) rfl rfl rfl rfl ?_
  refine Eo.val (x := (.v (.int .i64 0))) rfl rfl rfl rfl ?_
  refine Eo.val (x := (.v (.int .i64 0))) rfl rfl rfl rfl ?_
  refine Eo.nil ?_
  refine Ec.seq ?_
  refine Ec.seq ?_
  refine Ec.region ?_
  refine Eo.val (x := (.v (.string p0))) rfl rfl rfl rfl ?_
  refine Eo.val (x := (.v (.int .i64 ((p0.size : Nat) : Int)))) (op_len rfl rfl rfl rfl rfl Tryd.underlying9) rfl rfl rfl ?_
  refine Eo.val (x := (.v (.bool (decide (((p0.size : Nat) : Int) > 262144))))) rfl rfl rfl rfl ?_
  refine Eo.nil ?_
  refine Ec.cond (t := (decide (((p0.size : Nat) : Int) > 262144))) rfl (fun hc3 => ?_) (fun hc3 => ?_)
  · have H := cond_t hc3 H
    refine Ec.seq ?_
    refine Ec.region ?_
    refine Eo.val (x := nilS) rfl rfl rfl rfl ?_
    refine Eo.val (x := (.v (.int .i64 0))) rfl rfl rfl rfl ?_
    refine Eo.val (x := (.v (.int .i64 133))) rfl rfl rfl rfl ?_
    refine Eo.nil ?_
    obtain rfl := Option.some.inj H
    refine Ec.ret ?_
    refine Ret.mk rfl ?_
    exact ⟨nilS, rfl, Sl.nil, (Hp.appNil hp 46)⟩
  · have H := cond_f hc3 H
    refine Ec.skip ?_
    refine Ec.seq ?_
    refine Ec.region ?_
    refine Eo.val (x := (.v (.string p0))) rfl rfl rfl rfl ?_
    obtain ⟨r4, hvr4, H⟩ := bind_some H
    refine Eo.call rfl rfl rfl rfl (gasmtext_lines_ok hp hvr4) ?_
    rintro a5 σ8 ⟨_, rfl, h6, hp7⟩
    refine Eo.val (x := a5) rfl rfl rfl rfl ?_
    refine Eo.nil ?_
    refine Ec.seq ?_
    refine Ec.seq ?_
    refine Ec.region ?_
    refine Eo.val (x := a5) rfl rfl rfl rfl ?_
    refine Eo.val (x := (.v (.int .i64 ((r4.length : Nat) : Int)))) (op_lenL h6 rfl rfl rfl rfl rfl Tryd.underlying44) rfl rfl rfl ?_
    refine Eo.val (x := (.v (.bool (decide (((r4.length : Nat) : Int) > 16384))))) rfl rfl rfl rfl ?_
    refine Eo.nil ?_
    refine Ec.cond (t := (decide (((r4.length : Nat) : Int) > 16384))) rfl (fun hc9 => ?_) (fun hc9 => ?_)
    · have H := cond_t hc9 H
      refine Ec.seq ?_
      refine Ec.region ?_
      refine Eo.val (x := nilS) rfl rfl rfl rfl ?_
      refine Eo.val (x := (.v (.int .i64 0))) rfl rfl rfl rfl ?_
      refine Eo.val (x := (.v (.int .i64 133))) rfl rfl rfl rfl ?_
      refine Eo.nil ?_
      obtain rfl := Option.some.inj H
      refine Ec.ret ?_
      refine Ret.mk rfl ?_
      exact ⟨nilS, rfl, Sl.nil, (Hp.appNil hp7 46)⟩
    · have H := cond_f hc9 H
      refine Ec.skip ?_
      refine Ec.seq ?_
      refine Ec.region ?_
      refine Eo.val (x := nilS) rfl rfl rfl rfl ?_
      refine Eo.nil ?_
      refine Ec.seq ?_
      refine Ec.seq ?_
      refine Ec.region ?_
      refine Eo.val (x := a5) rfl rfl rfl rfl ?_
      refine Eo.val (x := (.v (.int .i64 ((r4.length : Nat) : Int)))) (op_lenL h6 rfl rfl rfl rfl rfl Tryd.underlying44) rfl rfl rfl ?_
      refine Eo.val (x := (.v (.int .i64 0))) rfl rfl rfl rfl ?_
      refine Eo.nil ?_
      refine Ec.block ?_
      obtain ⟨v1196, hv1197, H⟩ := bind_some H
      refine Ec.cut (J := (fun (v : LR (List TLine) ((List TLine) × Int × Int)) (x : X) (φ : Fr) (s : St) => match v with | .out x800 => x = (.exit 0) ∧ (∃ (a801 : A), Sl rTLine a801 x800 ∧ Hp s (.app a801 46 :: R) ∧ Fl [(6, a801)] φ) | .ret r => x = .ret ∧ Ret cfg Tryd.f10 (gasmtext_Parse_post R r) .ret φ s) v1196) (Ec.weak (.cons rfl (.cons rfl (.cons rfl (.cons rfl (.nil'))))) (Ec.loopF (f := (fun m (i : ((List TLine) × Int) × A) => gasmtext_Parse_L1 n r4 m i.1.1 i.1.2)) (G := (fun (i : ((List TLine) × Int) × A) => ([(6, i.2), (20, a5), (21, (.v (.int .i64 ((r4.length : Nat) : Int)))), (22, (.v (.int .i64 i.1.2)))] : List (Nat × A)))) (I := (fun (i : ((List TLine) × Int) × A) (s : St) => Sl rTLine i.2 i.1.1 ∧ Hp s (.app i.2 46 :: R))) (J := (fun (v : LR (List TLine) ((List TLine) × Int × Int)) (x : X) (φ : Fr) (s : St) => match v with | .out x800 => x = (.exit 0) ∧ (∃ (a801 : A), Sl rTLine a801 x800 ∧ Hp s (.app a801 46 :: R) ∧ Fl [(6, a801)] φ) | .ret r => x = .ret ∧ Ret cfg Tryd.f10 (gasmtext_Parse_post R r) .ret φ s)) (fun _ => rfl) ?_ n ((([] : List TLine), 0), nilS) _ v1196 ⟨Sl.nil, (Hp.appNil hp7 46)⟩ hv1197)) ?_
      · rintro m ⟨⟨y403, y406⟩, a404⟩ σ0 v ⟨h405, hp0⟩ H ih
        change gasmtext_Parse_L1 n r4 (m + 1) y403 y406 = some v at H
        rw [gasmtext_Parse_L1] at H
        change Ec _ _ _ [(6, a404), (20, a5), (21, (.v (.int .i64 ((r4.length : Nat) : Int)))), (22, (.v (.int .i64 y406)))] σ0 _
        refine Ec.seq ?_
        refine Ec.region ?_
        refine Eo.val (x := (.v (.bool (decide (y406 < ((r4.length : Nat) : Int)))))) rfl rfl rfl rfl ?_
        refine Eo.nil ?_
        refine Ec.seq ?_
        refine Ec.cond (t := (decide (y406 < ((r4.length : Nat) : Int)))) rfl (fun hc803 => ?_) (fun hc803 => ?_)
        · have H := cond_t hc803 H
          refine Ec.skip ?_
          refine Ec.seq ?_
          obtain ⟨v1194, hv1195, H⟩ := bind_some H
          refine Ec.cut (J := (fun (v : LR (List TLine) ((List TLine) × Int × Int)) (x : X) (φ : Fr) (s : St) => match v with | .out x994 => x = .normal ∧ (∃ (a995 : A), Sl rTLine a995 x994 ∧ Hp s (.app a995 46 :: R) ∧ Fl [(6, a995), (20, a5), (21, (.v (.int .i64 ((r4.length : Nat) : Int)))), (22, (.v (.int .i64 y406)))] φ) | .ret r => x = .ret ∧ Ret cfg Tryd.f10 (gasmtext_Parse_post R r) .ret φ s) v1194) ?_ ?_
          · have H := hv1195
            refine Ec.block ?_
            refine Ec.seq ?_
            refine Ec.region ?_
            refine Eo.val (x := (.v (.int .i64 y406))) rfl rfl rfl rfl ?_
            obtain ⟨x997, hvx997, H⟩ := bind_some H
            refine Eo.idx h6 hvx997 rfl rfl rfl Tryd.underlying44 rfl rfl rfl rfl ?_
            rintro cs998 p999 _ hat1000 rfl
            refine Eo.val (x := (.v (.string x997))) (op_loadSp hat1000 0 rfl rfl rfl rfl rfl) rfl rfl rfl ?_
            refine Eo.val (x := (.v (.int .i64 y406))) rfl rfl rfl rfl ?_
            refine Eo.val (x := (.v (.string x997))) rfl rfl rfl rfl ?_
            refine Eo.nil ?_
            refine Ec.seq ?_
            refine Ec.region ?_
            refine Eo.val (x := (.v (.string x997))) rfl rfl rfl rfl ?_
            obtain ⟨r1001, hvr1001, H⟩ := bind_some H
            refine Eo.call rfl rfl rfl rfl (gasmtext_Words_ok hp0 hvr1001) ?_
            obtain ⟨r1002, r1003⟩ := r1001
            rintro _ σ1007 ⟨a1004, rfl, h1005, hp1006⟩
            change Hp σ1007 (.app a1004 48 :: .app a404 46 :: R) at hp1006
            refine Eo.val (x := (.tup [a1004, (.v (.int .i64 r1003))])) rfl rfl rfl rfl ?_
            refine Eo.val (x := a1004) rfl rfl rfl rfl ?_
            refine Eo.val (x := (.v (.int .i64 r1003))) rfl rfl rfl rfl ?_
            refine Eo.val (x := a1004) rfl rfl rfl rfl ?_
            refine Eo.val (x := (.v (.int .i64 r1003))) rfl rfl rfl rfl ?_
            refine Eo.nil ?_
            refine Ec.seq ?_
            refine Ec.seq ?_
            refine Ec.region ?_
            refine Eo.val (x := (.v (.int .i64 r1003))) rfl rfl rfl rfl ?_
            refine Eo.val (x := (.v (.bool (r1003 != 0)))) rfl rfl rfl rfl ?_
            refine Eo.nil ?_
            refine Ec.cond (t := (r1003 != 0)) rfl (fun hc1008 => ?_) (fun hc1008 => ?_)
            · have H := cond_t hc1008 H
              refine Ec.seq ?_
              refine Ec.region ?_
              refine Eo.val (x := (.v (.int .i64 y406))) rfl rfl rfl rfl ?_
              refine Eo.val (x := (.v (.int .i64 (IntKind.wrap .i64 (y406 + 1))))) rfl rfl rfl rfl ?_
              refine Eo.val (x := (.v (.int .i64 r1003))) rfl rfl rfl rfl ?_
              refine Eo.val (x := nilS) rfl rfl rfl rfl ?_
              refine Eo.val (x := (.v (.int .i64 (IntKind.wrap .i64 (y406 + 1))))) rfl rfl rfl rfl ?_
              refine Eo.val (x := (.v (.int .i64 r1003))) rfl rfl rfl rfl ?_
              refine Eo.nil ?_
              obtain rfl := Option.some.inj H
              refine Ec.ret ?_
              refine And.intro rfl (Ret.mk rfl ?_)
              exact ⟨nilS, rfl, Sl.nil, (Hp.appNil (Hp.drop (Hp.drop hp1006 0) 0) 46)⟩
            · have H := cond_f hc1008 H
              refine Ec.skip ?_
              refine Ec.seq ?_
              refine Ec.region ?_
              refine Eo.val (x := (.v (.int .i64 y406))) rfl rfl rfl rfl ?_
              refine Eo.val (x := (.v (.int .i64 (IntKind.wrap .i64 (y406 + 1))))) rfl rfl rfl rfl ?_
              refine Eo.val (x := (.agg [(.v (.int .i64 (IntKind.wrap .i64 (y406 + 1)))), nilS, nilS])) (op_build (lay_cons rfl rfl rfl rfl rfl lay_nil) rfl (parts_cons rfl rfl rfl) Tryd.underlying46 rfl rfl) rfl rfl rfl ?_
              refine Eo.alloc (z := [(.v (.int .i64 0)), nilS, nilS]) hp1006 rfl rfl rfl rfl rfl ?_
              intro b1009 σ1011 hp1010
              refine Eo.store hp1010 0 rfl (storeCells_mk rfl rfl rfl rfl rfl rfl) rfl rfl rfl rfl rfl ?_
              intro σ1013 hp1012
              change Hp σ1013 (.blk b1009 (.cells [(.v (.int .i64 (IntKind.wrap .i64 (y406 + 1)))), nilS, nilS] 46) :: .app a1004 48 :: .app a404 46 :: R) at hp1012
              refine Eo.nil ?_
              refine Ec.seq ?_
              refine Ec.block ?_
              obtain ⟨v1164, hv1165, H⟩ := bind_some H
              refine Ec.cut (J := (fun (v : ((List TTok) × (List ByteArray))) (x : X) (φ : Fr) (s : St) => match v with | (x1112, x1115) => x = (.exit 2) ∧ (∃ (a1113 a1116 : A), Sl rTTok a1113 x1112 ∧ Sl rS a1116 x1115 ∧ Hp s (.blk b1009 (.cells [(.v (.int .i64 (IntKind.wrap .i64 (y406 + 1)))), a1116, nilS] 46) :: .app a404 46 :: .app a1116 9 :: R) ∧ Fl [(6, a404), (9, a1113), (11, (.ptr b1009 0)), (20, a5), (21, (.v (.int .i64 ((r4.length : Nat) : Int)))), (22, (.v (.int .i64 y406)))] φ)) v1164) (Ec.weak (.cons rfl (.cons rfl (.cons rfl (.cons rfl (.cons rfl (.cons rfl (.nil'))))))) (Ec.loopF (f := (fun m (i : ((List TTok) × (List ByteArray)) × (A × A)) => gasmtext_Parse_L2 n m i.1.1 i.1.2)) (G := (fun (i : ((List TTok) × (List ByteArray)) × (A × A)) => ([(6, a404), (9, i.2.1), (11, (.ptr b1009 0)), (20, a5), (21, (.v (.int .i64 ((r4.length : Nat) : Int)))), (22, (.v (.int .i64 y406)))] : List (Nat × A)))) (I := (fun (i : ((List TTok) × (List ByteArray)) × (A × A)) (s : St) => Sl rTTok i.2.1 i.1.1 ∧ Sl rS i.2.2 i.1.2 ∧ Hp s (.blk b1009 (.cells [(.v (.int .i64 (IntKind.wrap .i64 (y406 + 1)))), i.2.2, nilS] 46) :: .app a404 46 :: .app i.2.2 9 :: R))) (J := (fun (v : ((List TTok) × (List ByteArray))) (x : X) (φ : Fr) (s : St) => match v with | (x1112, x1115) => x = (.exit 2) ∧ (∃ (a1113 a1116 : A), Sl rTTok a1113 x1112 ∧ Sl rS a1116 x1115 ∧ Hp s (.blk b1009 (.cells [(.v (.int .i64 (IntKind.wrap .i64 (y406 + 1)))), a1116, nilS] 46) :: .app a404 46 :: .app a1116 9 :: R) ∧ Fl [(6, a404), (9, a1113), (11, (.ptr b1009 0)), (20, a5), (21, (.v (.int .i64 ((r4.length : Nat) : Int)))), (22, (.v (.int .i64 y406)))] φ))) (fun _ => rfl) ?_ n ((r1002, ([] : List ByteArray)), (a1004, nilS)) _ v1164 ⟨h1005, Sl.nil, (Hp.front (Hp.front (Hp.appNil (Hp.drop hp1012 1) 9) 2) 2)⟩ hv1165)) ?_
              · rintro m ⟨⟨y1060, y1063⟩, ⟨a1061, a1064⟩⟩ σ0 v ⟨h1062, h1065, hp0⟩ H ih
                change gasmtext_Parse_L2 n (m + 1) y1060 y1063 = some v at H
                rw [gasmtext_Parse_L2] at H
                change Ec _ _ _ [(6, a404), (9, a1061), (11, (.ptr b1009 0)), (20, a5), (21, (.v (.int .i64 ((r4.length : Nat) : Int)))), (22, (.v (.int .i64 y406)))] σ0 _
                refine Ec.seq ?_
                refine Ec.seq ?_
                refine Ec.region ?_
                refine Eo.val (x := a1061) rfl rfl rfl rfl ?_
                obtain ⟨r1118, hvr1118, H⟩ := bind_some H
                refine Eo.call rfl rfl rfl rfl (gasmtext_labelled_ok h1062 hp0 hvr1118) ?_
                rintro _ σ1120 ⟨rfl, hp1119⟩
                refine Eo.nil ?_
                refine Ec.cond (t := r1118) rfl (fun hc1121 => ?_) (fun hc1121 => ?_)
                · have H := cond_t hc1121 H
                  refine Ec.skip ?_
                  refine Ec.block ?_
                  refine Ec.seq ?_
                  obtain ⟨x1137, hv1163, H⟩ := bind_some H
                  refine Ec.cut (J := (fun (x1137 : (List ByteArray)) (x : X) (φ : Fr) (s : St) => x = .normal ∧ (∃ (a1138 : A), Sl rS a1138 x1137 ∧ Hp s (.blk b1009 (.cells [(.v (.int .i64 (IntKind.wrap .i64 (y406 + 1)))), a1138, nilS] 46) :: .app a404 46 :: .app a1138 9 :: R) ∧ Fl [(6, a404), (9, a1061), (11, (.ptr b1009 0)), (20, a5), (21, (.v (.int .i64 ((r4.length : Nat) : Int)))), (22, (.v (.int .i64 y406)))] φ)) x1137) ?_ ?_
                  · have H := hv1163
                    refine Ec.drawn2 (by kernel_rfl) ?_
                    refine Eo.val (x := (.ptr b1009 1)) rfl rfl rfl rfl ?_
                    refine Eo.val (x := a1064) (op_loadB hp1119 0 rfl rfl rfl rfl) rfl rfl rfl ?_
                    refine Eo.val (x := a1061) rfl rfl rfl rfl ?_
                    obtain ⟨x1140, hvx1140, H⟩ := bind_some H
                    refine Eo.idx h1062 hvx1140 rfl rfl rfl Tryd.underlying31 rfl rfl rfl rfl ?_
                    rintro cs1141 p1142 _ hat1143 rfl
                    refine Eo.val (x := (.sp cs1141 (p1142 + 1) .no)) rfl rfl rfl rfl ?_
                    refine Eo.val (x := (.v (.string x1140.f_Text))) (op_loadSp hat1143 1 rfl rfl rfl rfl rfl) rfl rfl rfl ?_
                    refine Eo.val (x := (.sl 1 [(.v (.string x1140.f_Text))] .ex)) (op_buildS (lay_cons rfl rfl rfl rfl rfl lay_nil) rfl (parts_cons rfl rfl rfl) Tryd.underlying44 rfl rfl rfl rfl (by decide) rfl) rfl rfl rfl ?_
                    have h1147 : Sl rS (.sl 1 [(.v (.string x1140.f_Text))] .ex) ([x1140.f_Text] : List ByteArray) := .inr ⟨_, _, rfl, (.cons (c := [(.v (.string x1140.f_Text))]) rfl .nil)⟩
                    have hp1146 := Hp.appEx hp1119 9 1 [(.v (.string x1140.f_Text))]
                    obtain ⟨l1148, hvl1148, H⟩ := bind_some H
                    refine Eo.append hp1146 3 rfl h1065 (New.of h1147) hvl1148 rfl rfl rfl rfl rfl rfl rfl Tryd.underlying44 rfl Tryd.underlying44 rfl rfl rfl rfl rfl rfl rfl rfl ?_
                    intro a1149 σ1152 h1150 hp1151
                    change Hp σ1152 (.app (.sl 1 [(.v (.string x1140.f_Text))] .ex) 9 :: .blk b1009 (.cells [(.v (.int .i64 (IntKind.wrap .i64 (y406 + 1)))), a1064, nilS] 46) :: .app a404 46 :: .app a1149 9 :: R) at hp1151
                    refine Eo.val (x := (.ptr b1009 1)) rfl rfl rfl rfl ?_
                    refine Eo.store hp1151 1 rfl (storeCells_mk (h1150.cells) rfl rfl (by simp [allOne, A.cells, h1150.isOne]) rfl rfl) rfl rfl rfl rfl rfl ?_
                    intro σ1154 hp1153
                    change Hp σ1154 (.app (.sl 1 [(.v (.string x1140.f_Text))] .ex) 9 :: .blk b1009 (.cells [(.v (.int .i64 (IntKind.wrap .i64 (y406 + 1)))), a1149, nilS] 46) :: .app a404 46 :: .app a1149 9 :: R) at hp1153
                    refine Eo.nil ?_
                    obtain rfl := Option.some.inj H
                    exact And.intro rfl (And.intro rfl ⟨a1149, h1150, (Hp.front (Hp.front (Hp.front (Hp.drop hp1153 0) 2) 2) 2), (.cons rfl (.cons rfl (.cons rfl (.cons rfl (.cons rfl (.cons rfl (.nil')))))))⟩)
                  · skip
                    intro x φ1157 σ1156 hJ
                    obtain ⟨rfl, a1138, h1139, hp1155, hf1158⟩ := hJ
                    refine Ec.of (F := [(6, a404), (9, a1061), (11, (.ptr b1009 0)), (20, a5), (21, (.v (.int .i64 ((r4.length : Nat) : Int)))), (22, (.v (.int .i64 y406)))]) hf1158 ?_
                    refine Ec.region ?_
                    refine Eo.val (x := a1061) rfl rfl rfl rfl ?_
                    obtain ⟨l1159, hvl1159, H⟩ := bind_some H
                    refine Eo.subL h1062 hvl1159 rfl rfl Tryd.underlying31 rfl (.inr ⟨_, _, rfl, rfl⟩) (.inl ⟨rfl, rfl⟩) rfl rfl rfl ?_
                    intro a1160 h1161
                    refine Eo.val (x := a1160) rfl rfl rfl rfl ?_
                    refine Eo.nil ?_
                    exact Ec.of (.cons rfl (.cons rfl (.cons rfl (.cons rfl (.cons rfl (.cons rfl (.nil'))))))) (ih ((l1159, x1137), (a1160, a1138)) _ ⟨h1161, h1139, (Hp.front (Hp.front (Hp.front hp1155 2) 2) 2)⟩ H)
                · have H := cond_f hc1121 H
                  refine Ec.exit ?_
                  obtain rfl := Option.some.inj H
                  exact And.intro rfl ⟨a1061, a1064, h1062, h1065, (Hp.front (Hp.front (Hp.front hp1119 2) 2) 2), (.cons rfl (.cons rfl (.cons rfl (.cons rfl (.cons rfl (.cons rfl (.nil')))))))⟩
              · skip
                intro x φ1168 σ1167 hJ
                obtain ⟨x1112, x1115⟩ := v1164
                obtain ⟨rfl, a1113, a1116, h1114, h1117, hp1166, hf1169⟩ := hJ
                refine Ec.of (F := [(6, a404), (9, a1113), (11, (.ptr b1009 0)), (20, a5), (21, (.v (.int .i64 ((r4.length : Nat) : Int)))), (22, (.v (.int .i64 y406)))]) hf1169 ?_
                refine Ec.seq ?_
                refine Ec.region ?_
                refine Eo.val (x := a1113) rfl rfl rfl rfl ?_
                refine Eo.val (x := (.ptr b1009 2)) rfl rfl rfl rfl ?_
                refine Eo.store hp1166 0 rfl (storeCells_mk (h1114.cells) rfl rfl (by simp [allOne, A.cells, h1114.isOne]) rfl rfl) rfl rfl rfl rfl rfl ?_
                intro σ1171 hp1170
                change Hp σ1171 (.blk b1009 (.cells [(.v (.int .i64 (IntKind.wrap .i64 (y406 + 1)))), a1116, a1113] 46) :: .app a404 46 :: .app a1116 9 :: R) at hp1170
                refine Eo.nil ?_
                refine Ec.seq ?_
                refine Ec.region ?_
                refine Eo.val (x := (.ptr b1009 1)) rfl rfl rfl rfl ?_
                refine Eo.val (x := a1116) (op_loadB hp1170 0 rfl rfl rfl rfl) rfl rfl rfl ?_
                refine Eo.val (x := (.v (.int .i64 ((x1115.length : Nat) : Int)))) (op_lenL h1117 rfl rfl rfl rfl rfl Tryd.underlying44) rfl rfl rfl ?_
                refine Eo.val (x := (.v (.bool (decide (((x1115.length : Nat) : Int) > 0))))) rfl rfl rfl rfl ?_
                refine Eo.val (x := (.v (.bool (decide (((x1115.length : Nat) : Int) > 0))))) rfl rfl rfl rfl ?_
                refine Eo.cutF 5 [(6, a404), (11, (.ptr b1009 0)), (20, a5), (21, (.v (.int .i64 ((r4.length : Nat) : Int)))), (22, (.v (.int .i64 y406))), (64, (.v (.bool ((decide (((x1115.length : Nat) : Int) > 0)) || (decide (((x1112.length : Nat) : Int) > 0))))))] ?_ ?_
                · skip
                  cases hc1174 : (decide (((x1115.length : Nat) : Int) > 0))
                  · skip
                    refine Eo.val (x := (.ptr b1009 2)) rfl rfl rfl rfl ?_
                    refine Eo.val (x := a1113) (op_loadB hp1170 0 rfl rfl rfl rfl) rfl rfl rfl ?_
                    refine Eo.val (x := (.v (.int .i64 ((x1112.length : Nat) : Int)))) (op_lenL h1114 rfl rfl rfl rfl rfl Tryd.underlying31) rfl rfl rfl ?_
                    refine Eo.val (x := (.v (.bool (decide (((x1112.length : Nat) : Int) > 0))))) rfl rfl rfl rfl ?_
                    refine Eo.val (x := (.v (.bool (decide (((x1112.length : Nat) : Int) > 0))))) rfl rfl rfl rfl ?_
                    exact Eo.nil (And.intro rfl (And.intro rfl (.cons rfl (.cons rfl (.cons rfl (.cons rfl (.cons rfl (.cons rfl (.nil')))))))))
                  · skip
                    refine Eo.off rfl rfl rfl ?_
                    refine Eo.off rfl rfl rfl ?_
                    refine Eo.off rfl rfl rfl ?_
                    refine Eo.off rfl rfl rfl ?_
                    refine Eo.val (x := (.v (.bool true))) rfl rfl rfl rfl ?_
                    exact Eo.nil (And.intro rfl (And.intro rfl (.cons rfl (.cons rfl (.cons rfl (.cons rfl (.cons rfl (.cons rfl (.nil')))))))))
                · skip
                  refine Eo.nil ?_
                  refine Ec.cond (t := ((decide (((x1115.length : Nat) : Int) > 0)) || (decide (((x1112.length : Nat) : Int) > 0)))) rfl (fun hc1177 => ?_) (fun hc1177 => ?_)
                  · have H := cond_t hc1177 H
                    refine Ec.region ?_
                    refine Eo.val (x := a404) rfl rfl rfl rfl ?_
                    refine Eo.val (x := (.agg [(.v (.int .i64 (IntKind.wrap .i64 (y406 + 1)))), a1116, a1113])) (op_loadB hp1170 0 rfl rfl rfl rfl) rfl rfl rfl ?_
                    refine Eo.val (x := (.sl 3 [(.v (.int .i64 (IntKind.wrap .i64 (y406 + 1)))), a1116, a1113] .ex)) (op_buildS (lay_cons rfl rfl rfl rfl rfl lay_nil) rfl (parts_cons rfl rfl rfl) Tryd.underlying23 rfl rfl rfl rfl (by decide) rfl) rfl rfl rfl ?_
                    have h1181 : Sl rTLine (.sl 3 [(.v (.int .i64 (IntKind.wrap .i64 (y406 + 1)))), a1116, a1113] .ex) ([(TLine.mk (IntKind.wrap .i64 (y406 + 1)) x1115 x1112)] : List TLine) := .inr ⟨_, _, rfl, (.cons (c := [(.v (.int .i64 (IntKind.wrap .i64 (y406 + 1)))), a1116, a1113]) ⟨a1116, a1113, rfl, h1117, h1114⟩ .nil)⟩
                    have hp1180 := Hp.appEx hp1170 46 3 [(.v (.int .i64 (IntKind.wrap .i64 (y406 + 1)))), a1116, a1113]
                    obtain ⟨l1182, hvl1182, H⟩ := bind_some H
                    refine Eo.append hp1180 2 rfl h405 (New.of h1181) hvl1182 rfl rfl rfl rfl rfl rfl rfl Tryd.underlying23 rfl Tryd.underlying23 rfl rfl rfl rfl rfl rfl rfl rfl ?_
                    intro a1183 σ1186 h1184 hp1185
                    change Hp σ1186 (.app (.sl 3 [(.v (.int .i64 (IntKind.wrap .i64 (y406 + 1)))), a1116, a1113] .ex) 46 :: .blk b1009 (.cells [(.v (.int .i64 (IntKind.wrap .i64 (y406 + 1)))), a1116, a1113] 46) :: .app a1183 46 :: .app a1116 9 :: R) at hp1185
                    refine Eo.val (x := a1183) rfl rfl rfl rfl ?_
                    refine Eo.nil ?_
                    obtain rfl := Option.some.inj H
                    exact And.intro rfl ⟨a1183, h1184, (Hp.drop (Hp.drop (Hp.drop hp1185 0) 0) 1), (.cons rfl (.cons rfl (.cons rfl (.cons rfl (.nil')))))⟩
                  · have H := cond_f hc1177 H
                    refine Ec.skip ?_
                    obtain rfl := Option.some.inj H
                    exact And.intro rfl ⟨a404, h405, (Hp.drop (Hp.drop hp1170 0) 1), (.cons rfl (.cons rfl (.cons rfl (.cons rfl (.nil')))))⟩
          · rcases v1194 with x994 | r1191
            · intro x φ1189 σ1188 hJ
              obtain ⟨rfl, a995, h996, hp1187, hf1190⟩ := hJ
              refine Ec.of (F := [(6, a995), (20, a5), (21, (.v (.int .i64 ((r4.length : Nat) : Int)))), (22, (.v (.int .i64 y406)))]) hf1190 ?_
              refine Ec.region ?_
              refine Eo.val (x := (.v (.int .i64 (IntKind.wrap .i64 (y406 + 1))))) rfl rfl rfl rfl ?_
              refine Eo.val (x := (.v (.int .i64 (IntKind.wrap .i64 (y406 + 1))))) rfl rfl rfl rfl ?_
              refine Eo.nil ?_
              exact Ec.of (.cons rfl (.cons rfl (.cons rfl (.cons rfl (.nil'))))) (ih ((x994, (IntKind.wrap .i64 (y406 + 1))), a995) _ ⟨h996, hp1187⟩ H)
            · intro x φ1192 σ1193 hJ
              obtain rfl := Option.some.inj H
              obtain ⟨rfl, hr⟩ := hJ
              exact And.intro rfl hr
        · have H := cond_f hc803 H
          refine Ec.exit ?_
          obtain rfl := Option.some.inj H
          exact And.intro rfl ⟨a404, h405, hp0, (.cons rfl (.nil'))⟩
      · rcases v1196 with x800 | r1202
        · intro x φ1200 σ1199 hJ
          obtain ⟨rfl, a801, h802, hp1198, hf1201⟩ := hJ
          refine Ec.of (F := [(6, a801)]) hf1201 ?_
          refine Ec.seq ?_
          refine Ec.region ?_
          refine Eo.val (x := a801) rfl rfl rfl rfl ?_
          refine Eo.val (x := a801) rfl rfl rfl rfl ?_
          refine Eo.val (x := (.v (.int .i64 0))) rfl rfl rfl rfl ?_
          refine Eo.val (x := (.v (.int .i64 0))) rfl rfl rfl rfl ?_
          refine Eo.nil ?_
          obtain rfl := Option.some.inj H
          refine Ec.ret ?_
          refine Ret.mk rfl ?_
          exact ⟨a801, rfl, h802, hp1198⟩
        · intro x φ1203 σ1204 hJ
          obtain rfl := Option.some.inj H
          obtain ⟨rfl, hr⟩ := hJ
          exact hr

def gdovetaillaw13_asmtextAlive (n : Nat) : Option (Bool) := ((gasmtext_Parse n (ByteArray.mk #[108, 111, 111, 112, 58, 32, 97, 100, 100, 105, 32, 97, 48, 44, 32, 97, 48, 44, 32, 45, 49, 32, 35, 32, 100, 111, 119, 110])).bind fun v => match v with | (r2, r3, r4) => (((cond ((r4 == 0) && (((r2.length : Nat) : Int) == 1)) (((atL r2 0).bind fun x25 => some (x25.f_No == 1))) (some false)) : Option (Bool)).bind fun x23 => (((cond x23 (((atL r2 0).bind fun x48 => some (((x48.f_Labels.length : Nat) : Int) == 1))) (some false)) : Option (Bool)).bind fun x46 => (((cond x46 (((atL r2 0).bind fun x75 => ((atL x75.f_Labels 0).bind fun x83 => some (decide (x83 = (ByteArray.mk #[108, 111, 111, 112])))))) (some false)) : Option (Bool)).bind fun x73 => (((cond x73 (((atL r2 0).bind fun x102 => some (((x102.f_Toks.length : Nat) : Int) == 7))) (some false)) : Option (Bool)).bind fun x100 => (((cond x100 (((atL r2 0).bind fun x129 => ((atL x129.f_Toks 6).bind fun x137 => some (decide (x137.f_Text = (ByteArray.mk #[49])))))) (some false)) : Option (Bool)).bind fun x127 => some x127))))))

def gdovetaillaw13_asmtextAlive_post (R : List Res) (r : Bool) (x : A) (s : St) : Prop := x = (.v (.bool r)) ∧ Hp s (R)

theorem gdovetaillaw13_asmtextAlive_ok {n : Nat} {R : List Res} {σ : St} (hp : Hp σ R) {r : Bool} (H : gdovetaillaw13_asmtextAlive n = some r) : Ca cfg 8 [] σ (gdovetaillaw13_asmtextAlive_post R r) := by
  unfold gdovetaillaw13_asmtextAlive at H
  refine Ca.enterL (G := []) Tryd.func8 rfl rfl rfl rfl ?_
  refine Ec.seq ?_
  refine Ec.region ?_
  refine Eo.val (x := (.v (.bool false))) rfl rfl rfl rfl ?_
  refine Eo.nil ?_
  refine Ec.seq ?_
  refine Ec.region ?_
  obtain ⟨r1, hvr1, H⟩ := bind_some H
  refine Eo.call rfl rfl rfl rfl (gasmtext_Parse_ok hp hvr1) ?_
  obtain ⟨r2, r3, r4⟩ := r1
  rintro _ σ8 ⟨a5, rfl, h6, hp7⟩
  change Hp σ8 (.app a5 46 :: R) at hp7
  refine Eo.val (x := (.tup [a5, (.v (.int .i64 r3)), (.v (.int .i64 r4))])) rfl rfl rfl rfl ?_
  refine Eo.val (x := a5) rfl rfl rfl rfl ?_
  refine Eo.val (x := (.v (.int .i64 r3))) rfl rfl rfl rfl ?_
  refine Eo.val (x := (.v (.int .i64 r4))) rfl rfl rfl rfl ?_
  refine Eo.val (x := a5) rfl rfl rfl rfl ?_
  refine Eo.val (x := (.v (.int .i64 r3))) rfl rfl rfl rfl ?_
  refine Eo.val (x := (.v (.int .i64 r4))) rfl rfl rfl rfl ?_
  refine Eo.nil ?_
  refine Ec.seq ?_
  refine Ec.region ?_
  refine Eo.val (x := (.v (.int .i64 r4))) rfl rfl rfl rfl ?_
  refine Eo.val (x := (.v (.bool (r4 == 0)))) rfl rfl rfl rfl ?_
  refine Eo.val (x := (.v (.bool (r4 == 0)))) rfl rfl rfl rfl ?_
  refine Eo.cutF 4 [(0, (.v (.bool false))), (1, a5), (15, (.v (.bool ((r4 == 0) && (((r2.length : Nat) : Int) == 1)))))] ?_ ?_
  · skip
    cases hc11 : (r4 == 0)
    · skip
      refine Eo.off rfl rfl rfl ?_
      refine Eo.off rfl rfl rfl ?_
      refine Eo.off rfl rfl rfl ?_
      refine Eo.val (x := (.v (.bool false))) rfl rfl rfl rfl ?_
      exact Eo.nil (And.intro rfl (And.intro rfl (.cons rfl (.cons rfl (.cons rfl (.nil'))))))
    · skip
      refine Eo.val (x := a5) rfl rfl rfl rfl ?_
      refine Eo.val (x := (.v (.int .i64 ((r2.length : Nat) : Int)))) (op_lenL h6 rfl rfl rfl rfl rfl Tryd.underlying23) rfl rfl rfl ?_
      refine Eo.val (x := (.v (.bool (((r2.length : Nat) : Int) == 1)))) rfl rfl rfl rfl ?_
      refine Eo.val (x := (.v (.bool (((r2.length : Nat) : Int) == 1)))) rfl rfl rfl rfl ?_
      exact Eo.nil (And.intro rfl (And.intro rfl (.cons rfl (.cons rfl (.cons rfl (.nil'))))))
  · skip
    refine Eo.val (x := (.v (.bool ((r4 == 0) && (((r2.length : Nat) : Int) == 1))))) rfl rfl rfl rfl ?_
    obtain ⟨x23, hv154, H⟩ := bind_some H
    refine Eo.cutN 6 (J := (fun (x23 : Bool) (x : X) (φ : Fr) (s : St) => x = .normal ∧ (Hp s (.app a5 46 :: R) ∧ Fl [(0, (.v (.bool false))), (1, a5), (22, (.v (.bool x23)))] φ)) x23) ?_ ?_
    · have H := hv154
      cases hc24 : ((r4 == 0) && (((r2.length : Nat) : Int) == 1))
      · have H := cond_f hc24 H
        refine Eo.off rfl rfl rfl ?_
        refine Eo.off rfl rfl rfl ?_
        refine Eo.off rfl rfl rfl ?_
        refine Eo.off rfl rfl rfl ?_
        refine Eo.off rfl rfl rfl ?_
        refine Eo.val (x := (.v (.bool false))) rfl rfl rfl rfl ?_
        refine Eo.nil ?_
        obtain rfl := Option.some.inj H
        exact And.intro rfl ⟨hp7, (.cons rfl (.cons rfl (.cons rfl (.nil'))))⟩
      · have H := cond_t hc24 H
        refine Eo.val (x := a5) rfl rfl rfl rfl ?_
        obtain ⟨x25, hvx25, H⟩ := bind_some H
        refine Eo.idx h6 hvx25 rfl rfl rfl Tryd.underlying23 rfl rfl rfl rfl ?_
        rintro cs26 p27 _ hat28 ⟨a29, a31, rfl, h30, h32⟩
        refine Eo.val (x := (.sp cs26 p27 .no)) rfl rfl rfl rfl ?_
        refine Eo.val (x := (.v (.int .i64 x25.f_No))) (op_loadSp hat28 0 rfl rfl rfl rfl rfl) rfl rfl rfl ?_
        refine Eo.val (x := (.v (.bool (x25.f_No == 1)))) rfl rfl rfl rfl ?_
        refine Eo.val (x := (.v (.bool (x25.f_No == 1)))) rfl rfl rfl rfl ?_
        refine Eo.nil ?_
        obtain rfl := Option.some.inj H
        exact And.intro rfl ⟨hp7, (.cons rfl (.cons rfl (.cons rfl (.nil'))))⟩
    · skip
      intro x φ35 σ34 hJ
      obtain ⟨rfl, hp33, hf36⟩ := hJ
      refine ⟨rfl, Eo.of (F := [(0, (.v (.bool false))), (1, a5), (22, (.v (.bool x23)))]) hf36 ?_⟩
      refine Eo.val (x := (.v (.bool x23))) rfl rfl rfl rfl ?_
      obtain ⟨x46, hv152, H⟩ := bind_some H
      refine Eo.cutN 7 (J := (fun (x46 : Bool) (x : X) (φ : Fr) (s : St) => x = .normal ∧ (Hp s (.app a5 46 :: R) ∧ Fl [(0, (.v (.bool false))), (1, a5), (30, (.v (.bool x46)))] φ)) x46) ?_ ?_
      · have H := hv152
        cases hc47 : x23
        · have H := cond_f hc47 H
          refine Eo.off rfl rfl rfl ?_
          refine Eo.off rfl rfl rfl ?_
          refine Eo.off rfl rfl rfl ?_
          refine Eo.off rfl rfl rfl ?_
          refine Eo.off rfl rfl rfl ?_
          refine Eo.off rfl rfl rfl ?_
          refine Eo.val (x := (.v (.bool false))) rfl rfl rfl rfl ?_
          refine Eo.nil ?_
          obtain rfl := Option.some.inj H
          exact And.intro rfl ⟨hp33, (.cons rfl (.cons rfl (.cons rfl (.nil'))))⟩
        · have H := cond_t hc47 H
          refine Eo.val (x := a5) rfl rfl rfl rfl ?_
          obtain ⟨x48, hvx48, H⟩ := bind_some H
          refine Eo.idx h6 hvx48 rfl rfl rfl Tryd.underlying23 rfl rfl rfl rfl ?_
          rintro cs49 p50 _ hat51 ⟨a52, a54, rfl, h53, h55⟩
          refine Eo.val (x := (.sp cs49 (p50 + 1) .no)) rfl rfl rfl rfl ?_
          refine Eo.val (x := a52) (op_loadSp hat51 1 rfl rfl rfl rfl rfl) rfl rfl rfl ?_
          refine Eo.val (x := (.v (.int .i64 ((x48.f_Labels.length : Nat) : Int)))) (op_lenL h53 rfl rfl rfl rfl rfl Tryd.underlying44) rfl rfl rfl ?_
          refine Eo.val (x := (.v (.bool (((x48.f_Labels.length : Nat) : Int) == 1)))) rfl rfl rfl rfl ?_
          refine Eo.val (x := (.v (.bool (((x48.f_Labels.length : Nat) : Int) == 1)))) rfl rfl rfl rfl ?_
          refine Eo.nil ?_
          obtain rfl := Option.some.inj H
          exact And.intro rfl ⟨hp33, (.cons rfl (.cons rfl (.cons rfl (.nil'))))⟩
      · skip
        intro x φ58 σ57 hJ
        obtain ⟨rfl, hp56, hf59⟩ := hJ
        refine ⟨rfl, Eo.of (F := [(0, (.v (.bool false))), (1, a5), (30, (.v (.bool x46)))]) hf59 ?_⟩
        refine Eo.val (x := (.v (.bool x46))) rfl rfl rfl rfl ?_
        obtain ⟨x73, hv150, H⟩ := bind_some H
        refine Eo.cutN 8 (J := (fun (x73 : Bool) (x : X) (φ : Fr) (s : St) => x = .normal ∧ (Hp s (.app a5 46 :: R) ∧ Fl [(0, (.v (.bool false))), (1, a5), (39, (.v (.bool x73)))] φ)) x73) ?_ ?_
        · have H := hv150
          cases hc74 : x46
          · have H := cond_f hc74 H
            refine Eo.off rfl rfl rfl ?_
            refine Eo.off rfl rfl rfl ?_
            refine Eo.off rfl rfl rfl ?_
            refine Eo.off rfl rfl rfl ?_
            refine Eo.off rfl rfl rfl ?_
            refine Eo.off rfl rfl rfl ?_
            refine Eo.off rfl rfl rfl ?_
            refine Eo.val (x := (.v (.bool false))) rfl rfl rfl rfl ?_
            refine Eo.nil ?_
            obtain rfl := Option.some.inj H
            exact And.intro rfl ⟨hp56, (.cons rfl (.cons rfl (.cons rfl (.nil'))))⟩
          · have H := cond_t hc74 H
            refine Eo.val (x := a5) rfl rfl rfl rfl ?_
            obtain ⟨x75, hvx75, H⟩ := bind_some H
            refine Eo.idx h6 hvx75 rfl rfl rfl Tryd.underlying23 rfl rfl rfl rfl ?_
            rintro cs76 p77 _ hat78 ⟨a79, a81, rfl, h80, h82⟩
            refine Eo.val (x := (.sp cs76 (p77 + 1) .no)) rfl rfl rfl rfl ?_
            refine Eo.val (x := a79) (op_loadSp hat78 1 rfl rfl rfl rfl rfl) rfl rfl rfl ?_
            obtain ⟨x83, hvx83, H⟩ := bind_some H
            refine Eo.idx h80 hvx83 rfl rfl rfl Tryd.underlying44 rfl rfl rfl rfl ?_
            rintro cs84 p85 _ hat86 rfl
            refine Eo.val (x := (.v (.string x83))) (op_loadSp hat86 0 rfl rfl rfl rfl rfl) rfl rfl rfl ?_
            refine Eo.val (x := (.v (.bool (decide (x83 = (ByteArray.mk #[108, 111, 111, 112])))))) (val_b rfl (seq_eq _ _)) rfl rfl rfl ?_
            refine Eo.val (x := (.v (.bool (decide (x83 = (ByteArray.mk #[108, 111, 111, 112])))))) rfl rfl rfl rfl ?_
            refine Eo.nil ?_
            obtain rfl := Option.some.inj H
            exact And.intro rfl ⟨hp56, (.cons rfl (.cons rfl (.cons rfl (.nil'))))⟩
        · skip
          intro x φ89 σ88 hJ
          obtain ⟨rfl, hp87, hf90⟩ := hJ
          refine ⟨rfl, Eo.of (F := [(0, (.v (.bool false))), (1, a5), (39, (.v (.bool x73)))]) hf90 ?_⟩
          refine Eo.val (x := (.v (.bool x73))) rfl rfl rfl rfl ?_
          obtain ⟨x100, hv148, H⟩ := bind_some H
          refine Eo.cutN 7 (J := (fun (x100 : Bool) (x : X) (φ : Fr) (s : St) => x = .normal ∧ (Hp s (.app a5 46 :: R) ∧ Fl [(0, (.v (.bool false))), (1, a5), (47, (.v (.bool x100)))] φ)) x100) ?_ ?_
          · have H := hv148
            cases hc101 : x73
            · have H := cond_f hc101 H
              refine Eo.off rfl rfl rfl ?_
              refine Eo.off rfl rfl rfl ?_
              refine Eo.off rfl rfl rfl ?_
              refine Eo.off rfl rfl rfl ?_
              refine Eo.off rfl rfl rfl ?_
              refine Eo.off rfl rfl rfl ?_
              refine Eo.val (x := (.v (.bool false))) rfl rfl rfl rfl ?_
              refine Eo.nil ?_
              obtain rfl := Option.some.inj H
              exact And.intro rfl ⟨hp87, (.cons rfl (.cons rfl (.cons rfl (.nil'))))⟩
            · have H := cond_t hc101 H
              refine Eo.val (x := a5) rfl rfl rfl rfl ?_
              obtain ⟨x102, hvx102, H⟩ := bind_some H
              refine Eo.idx h6 hvx102 rfl rfl rfl Tryd.underlying23 rfl rfl rfl rfl ?_
              rintro cs103 p104 _ hat105 ⟨a106, a108, rfl, h107, h109⟩
              refine Eo.val (x := (.sp cs103 (p104 + 2) .no)) rfl rfl rfl rfl ?_
              refine Eo.val (x := a108) (op_loadSp hat105 2 rfl rfl rfl rfl rfl) rfl rfl rfl ?_
              refine Eo.val (x := (.v (.int .i64 ((x102.f_Toks.length : Nat) : Int)))) (op_lenL h109 rfl rfl rfl rfl rfl Tryd.underlying31) rfl rfl rfl ?_
              refine Eo.val (x := (.v (.bool (((x102.f_Toks.length : Nat) : Int) == 7)))) rfl rfl rfl rfl ?_
              refine Eo.val (x := (.v (.bool (((x102.f_Toks.length : Nat) : Int) == 7)))) rfl rfl rfl rfl ?_
              refine Eo.nil ?_
              obtain rfl := Option.some.inj H
              exact And.intro rfl ⟨hp87, (.cons rfl (.cons rfl (.cons rfl (.nil'))))⟩
          · skip
            intro x φ112 σ111 hJ
            obtain ⟨rfl, hp110, hf113⟩ := hJ
            refine ⟨rfl, Eo.of (F := [(0, (.v (.bool false))), (1, a5), (47, (.v (.bool x100)))]) hf113 ?_⟩
            refine Eo.val (x := (.v (.bool x100))) rfl rfl rfl rfl ?_
            obtain ⟨x127, hv146, H⟩ := bind_some H
            refine Eo.cutN 9 (J := (fun (x127 : Bool) (x : X) (φ : Fr) (s : St) => x = .normal ∧ (Hp s (R) ∧ Fl [(0, (.v (.bool false))), (57, (.v (.bool x127)))] φ)) x127) ?_ ?_
            · have H := hv146
              cases hc128 : x100
              · have H := cond_f hc128 H
                refine Eo.off rfl rfl rfl ?_
                refine Eo.off rfl rfl rfl ?_
                refine Eo.off rfl rfl rfl ?_
                refine Eo.off rfl rfl rfl ?_
                refine Eo.off rfl rfl rfl ?_
                refine Eo.off rfl rfl rfl ?_
                refine Eo.off rfl rfl rfl ?_
                refine Eo.off rfl rfl rfl ?_
                refine Eo.val (x := (.v (.bool false))) rfl rfl rfl rfl ?_
                refine Eo.nil ?_
                obtain rfl := Option.some.inj H
                exact And.intro rfl ⟨(Hp.drop hp110 0), (.cons rfl (.cons rfl (.nil')))⟩
              · have H := cond_t hc128 H
                refine Eo.val (x := a5) rfl rfl rfl rfl ?_
                obtain ⟨x129, hvx129, H⟩ := bind_some H
                refine Eo.idx h6 hvx129 rfl rfl rfl Tryd.underlying23 rfl rfl rfl rfl ?_
                rintro cs130 p131 _ hat132 ⟨a133, a135, rfl, h134, h136⟩
                refine Eo.val (x := (.sp cs130 (p131 + 2) .no)) rfl rfl rfl rfl ?_
                refine Eo.val (x := a135) (op_loadSp hat132 2 rfl rfl rfl rfl rfl) rfl rfl rfl ?_
                obtain ⟨x137, hvx137, H⟩ := bind_some H
                refine Eo.idx h136 hvx137 rfl rfl rfl Tryd.underlying31 rfl rfl rfl rfl ?_
                rintro cs138 p139 _ hat140 rfl
                refine Eo.val (x := (.sp cs138 (p139 + 1) .no)) rfl rfl rfl rfl ?_
                refine Eo.val (x := (.v (.string x137.f_Text))) (op_loadSp hat140 1 rfl rfl rfl rfl rfl) rfl rfl rfl ?_
                refine Eo.val (x := (.v (.bool (decide (x137.f_Text = (ByteArray.mk #[49])))))) (val_b rfl (seq_eq _ _)) rfl rfl rfl ?_
                refine Eo.val (x := (.v (.bool (decide (x137.f_Text = (ByteArray.mk #[49])))))) rfl rfl rfl rfl ?_
                refine Eo.nil ?_
                obtain rfl := Option.some.inj H
                exact And.intro rfl ⟨(Hp.drop hp110 0), (.cons rfl (.cons rfl (.nil')))⟩
            · skip
              intro x φ143 σ142 hJ
              obtain ⟨rfl, hp141, hf144⟩ := hJ
              refine ⟨rfl, Eo.of (F := [(0, (.v (.bool false))), (57, (.v (.bool x127)))]) hf144 ?_⟩
              refine Eo.val (x := (.v (.bool x127))) rfl rfl rfl rfl ?_
              refine Eo.nil ?_
              obtain rfl := Option.some.inj H
              refine Ec.ret ?_
              refine Ret.mk rfl ?_
              exact ⟨rfl, hp141⟩

def gdovetailref13_Split_L1 (N : Nat) (p0 : ByteArray) : Nat → (List ByteArray) → Int → Int → Option (((List ByteArray) × Int))
  | 0, _, _, _ => none
  | m + 1, y41, y44, y45 => (cond (decide (y45 < ((p0.size : Nat) : Int))) (((((atS p0 y45).bind fun b102 => (cond (b102 == 10) (((subS p0 y44 y45).bind fun s104 => ((appL 16 y41 ([s104] : List ByteArray)).bind fun l109 => some (l109, (IntKind.wrap .i64 (y45 + 1)))))) (some (y41, y44)))) : Option (((List ByteArray) × Int))).bind fun v => match v with | (x98, x101) => gdovetailref13_Split_L1 N p0 m x98 x101 (IntKind.wrap .i64 (y45 + 1)))) (some (y41, y44)))

def gdovetailref13_Split (n : Nat) (p0 : ByteArray) : Option ((List ByteArray)) := ((gdovetailref13_Split_L1 n p0 n ([] : List ByteArray) 0 0).bind fun v => match v with | (x81, x84) => (((cond (decide (x84 < ((p0.size : Nat) : Int))) (((subS p0 x84 ((p0.size : Nat) : Int)).bind fun s141 => ((appL 16 x81 ([s141] : List ByteArray)).bind fun l146 => some l146))) (some x81)) : Option ((List ByteArray))).bind fun x137 => some x137))

def gdovetailref13_Split_post (R : List Res) (r : (List ByteArray)) (x : A) (s : St) : Prop := ∃ (a1 : A), x = a1 ∧ Sl rS a1 r ∧ Hp s (.app a1 9 :: R)

theorem gdovetailref13_Split_ok {n : Nat} {p0 : ByteArray} {R : List Res} {σ : St} (hp : Hp σ R) {r : (List ByteArray)} (H : gdovetailref13_Split n p0 = some r) : Ca cfg 20 [(.v (.string p0))] σ (gdovetailref13_Split_post R r) := by
  unfold gdovetailref13_Split at H
  refine Ca.enterL (G := [(0, (.v (.string p0)))]) Tryd.func20 rfl rfl rfl rfl ?_
  refine Ec.seq ?_
  refine Ec.region ?_
  refine Eo.val (x := nilS) rfl rfl rfl rfl ?_
  refine Eo.nil ?_
  refine Ec.seq ?_
  refine Ec.region ?_
  refine Eo.val (x := (.sl 1 [] .ex)) rfl rfl rfl rfl ?_
  have hp5 := Hp.appEx hp 9 1 []
  refine Eo.val (x := (.sl 1 [] .ex)) rfl rfl rfl rfl ?_
  refine Eo.nil ?_
  refine Ec.seq ?_
  refine Ec.region ?_
  refine Eo.val (x := (.v (.int .i64 0))) rfl rfl rfl rfl ?_
  refine Eo.nil ?_
  refine Ec.seq ?_
  refine Ec.seq ?_
  refine Ec.region ?_
  refine Eo.val (x := (.v (.int .i64 0))) rfl rfl rfl rfl ?_
  refine Eo.nil ?_
  refine Ec.block ?_
  obtain ⟨v120, hv121, H⟩ := bind_some H
  refine Ec.cut (J := (fun (v : ((List ByteArray) × Int)) (x : X) (φ : Fr) (s : St) => match v with | (x81, x84) => x = (.exit 0) ∧ (∃ (a82 : A), Sl rS a82 x81 ∧ Hp s (.app a82 9 :: R) ∧ Fl [(0, (.v (.string p0))), (3, a82), (4, (.v (.int .i64 x84)))] φ)) v120) (Ec.weak (.cons rfl (.cons rfl (.cons rfl (.cons rfl (.nil'))))) (Ec.loopF (f := (fun m (i : ((List ByteArray) × Int × Int) × A) => gdovetailref13_Split_L1 n p0 m i.1.1 i.1.2.1 i.1.2.2)) (G := (fun (i : ((List ByteArray) × Int × Int) × A) => ([(0, (.v (.string p0))), (3, i.2), (4, (.v (.int .i64 i.1.2.1))), (5, (.v (.int .i64 i.1.2.2)))] : List (Nat × A)))) (I := (fun (i : ((List ByteArray) × Int × Int) × A) (s : St) => Sl rS i.2 i.1.1 ∧ Hp s (.app i.2 9 :: R))) (J := (fun (v : ((List ByteArray) × Int)) (x : X) (φ : Fr) (s : St) => match v with | (x81, x84) => x = (.exit 0) ∧ (∃ (a82 : A), Sl rS a82 x81 ∧ Hp s (.app a82 9 :: R) ∧ Fl [(0, (.v (.string p0))), (3, a82), (4, (.v (.int .i64 x84)))] φ))) (fun _ => rfl) ?_ n ((([] : List ByteArray), 0, 0), (.sl 1 [] .ex)) _ v120 ⟨(.inr ⟨_, _, rfl, .nil⟩ : Sl rS (.sl 1 [] .ex) ([] : List ByteArray)), hp5⟩ hv121)) ?_
  · rintro m ⟨⟨y41, y44, y45⟩, a42⟩ σ0 v ⟨h43, hp0⟩ H ih
    change gdovetailref13_Split_L1 n p0 (m + 1) y41 y44 y45 = some v at H
    rw [gdovetailref13_Split_L1] at H
    change Ec _ _ _ [(0, (.v (.string p0))), (3, a42), (4, (.v (.int .i64 y44))), (5, (.v (.int .i64 y45)))] σ0 _
    refine Ec.seq ?_
    refine Ec.seq ?_
    refine Ec.region ?_
    refine Eo.val (x := (.v (.int .i64 y45))) rfl rfl rfl rfl ?_
    refine Eo.val (x := (.v (.string p0))) rfl rfl rfl rfl ?_
    refine Eo.val (x := (.v (.int .i64 ((p0.size : Nat) : Int)))) (op_len rfl rfl rfl rfl rfl Tryd.underlying9) rfl rfl rfl ?_
    refine Eo.val (x := (.v (.bool (decide (y45 < ((p0.size : Nat) : Int)))))) rfl rfl rfl rfl ?_
    refine Eo.nil ?_
    refine Ec.cond (t := (decide (y45 < ((p0.size : Nat) : Int)))) rfl (fun hc85 => ?_) (fun hc85 => ?_)
    · have H := cond_t hc85 H
      refine Ec.skip ?_
      refine Ec.seq ?_
      obtain ⟨v118, hv119, H⟩ := bind_some H
      refine Ec.cut (J := (fun (v : ((List ByteArray) × Int)) (x : X) (φ : Fr) (s : St) => match v with | (x98, x101) => x = .normal ∧ (∃ (a99 : A), Sl rS a99 x98 ∧ Hp s (.app a99 9 :: R) ∧ Fl [(0, (.v (.string p0))), (3, a99), (4, (.v (.int .i64 x101))), (5, (.v (.int .i64 y45)))] φ)) v118) ?_ ?_
      · have H := hv119
        refine Ec.block ?_
        refine Ec.seq ?_
        refine Ec.region ?_
        refine Eo.val (x := (.v (.string p0))) rfl rfl rfl rfl ?_
        refine Eo.val (x := (.v (.int .i64 y45))) rfl rfl rfl rfl ?_
        obtain ⟨b102, hvb102, H⟩ := bind_some H
        refine Eo.val (op_byteS hvb102 rfl rfl rfl Tryd.underlying9) rfl rfl rfl ?_
        refine Eo.val (x := (.v (.bool (b102 == 10)))) rfl rfl rfl rfl ?_
        refine Eo.nil ?_
        refine Ec.cond (t := (b102 == 10)) rfl (fun hc103 => ?_) (fun hc103 => ?_)
        · have H := cond_t hc103 H
          refine Ec.seq ?_
          refine Ec.region ?_
          refine Eo.val (x := a42) rfl rfl rfl rfl ?_
          refine Eo.val (x := (.v (.string p0))) rfl rfl rfl rfl ?_
          refine Eo.val (x := (.v (.int .i64 y44))) rfl rfl rfl rfl ?_
          refine Eo.val (x := (.v (.int .i64 y45))) rfl rfl rfl rfl ?_
          obtain ⟨s104, hvs104, H⟩ := bind_some H
          refine Eo.val (op_partS hvs104 rfl rfl Tryd.underlying9 (.inr ⟨_, _, rfl, rfl⟩) (.inr ⟨_, _, rfl, rfl⟩)) rfl rfl rfl ?_
          refine Eo.val (x := (.sl 1 [(.v (.string s104))] .ex)) (op_buildS (lay_cons rfl rfl rfl rfl rfl lay_nil) rfl (parts_cons rfl rfl rfl) Tryd.underlying44 rfl rfl rfl rfl (by decide) rfl) rfl rfl rfl ?_
          have h108 : Sl rS (.sl 1 [(.v (.string s104))] .ex) ([s104] : List ByteArray) := .inr ⟨_, _, rfl, (.cons (c := [(.v (.string s104))]) rfl .nil)⟩
          have hp107 := Hp.appEx hp0 9 1 [(.v (.string s104))]
          obtain ⟨l109, hvl109, H⟩ := bind_some H
          refine Eo.append hp107 1 rfl h43 (New.of h108) hvl109 rfl rfl rfl rfl rfl rfl rfl Tryd.underlying44 rfl Tryd.underlying44 rfl rfl rfl rfl rfl rfl rfl rfl ?_
          intro a110 σ113 h111 hp112
          change Hp σ113 (.app (.sl 1 [(.v (.string s104))] .ex) 9 :: .app a110 9 :: R) at hp112
          refine Eo.val (x := a110) rfl rfl rfl rfl ?_
          refine Eo.nil ?_
          refine Ec.region ?_
          refine Eo.val (x := (.v (.int .i64 y45))) rfl rfl rfl rfl ?_
          refine Eo.val (x := (.v (.int .i64 (IntKind.wrap .i64 (y45 + 1))))) rfl rfl rfl rfl ?_
          refine Eo.val (x := (.v (.int .i64 (IntKind.wrap .i64 (y45 + 1))))) rfl rfl rfl rfl ?_
          refine Eo.nil ?_
          obtain rfl := Option.some.inj H
          exact And.intro rfl ⟨a110, h111, (Hp.drop hp112 0), (.cons rfl (.cons rfl (.cons rfl (.cons rfl (.nil')))))⟩
        · have H := cond_f hc103 H
          refine Ec.skip ?_
          obtain rfl := Option.some.inj H
          exact And.intro rfl ⟨a42, h43, hp0, (.cons rfl (.cons rfl (.cons rfl (.cons rfl (.nil')))))⟩
      · skip
        intro x φ116 σ115 hJ
        obtain ⟨x98, x101⟩ := v118
        obtain ⟨rfl, a99, h100, hp114, hf117⟩ := hJ
        refine Ec.of (F := [(0, (.v (.string p0))), (3, a99), (4, (.v (.int .i64 x101))), (5, (.v (.int .i64 y45)))]) hf117 ?_
        refine Ec.region ?_
        refine Eo.val (x := (.v (.int .i64 y45))) rfl rfl rfl rfl ?_
        refine Eo.val (x := (.v (.int .i64 (IntKind.wrap .i64 (y45 + 1))))) rfl rfl rfl rfl ?_
        refine Eo.val (x := (.v (.int .i64 (IntKind.wrap .i64 (y45 + 1))))) rfl rfl rfl rfl ?_
        refine Eo.nil ?_
        exact Ec.of (.cons rfl (.cons rfl (.cons rfl (.cons rfl (.nil'))))) (ih ((x98, x101, (IntKind.wrap .i64 (y45 + 1))), a99) _ ⟨h100, hp114⟩ H)
    · have H := cond_f hc85 H
      refine Ec.exit ?_
      obtain rfl := Option.some.inj H
      exact And.intro rfl ⟨a42, h43, hp0, (.cons rfl (.cons rfl (.cons rfl (.nil'))))⟩
  · skip
    intro x φ124 σ123 hJ
    obtain ⟨x81, x84⟩ := v120
    obtain ⟨rfl, a82, h83, hp122, hf125⟩ := hJ
    refine Ec.of (F := [(0, (.v (.string p0))), (3, a82), (4, (.v (.int .i64 x84)))]) hf125 ?_
    refine Ec.seq ?_
    refine Ec.seq ?_
    refine Ec.region ?_
    refine Eo.val (x := (.v (.int .i64 x84))) rfl rfl rfl rfl ?_
    refine Eo.val (x := (.v (.string p0))) rfl rfl rfl rfl ?_
    refine Eo.val (x := (.v (.int .i64 ((p0.size : Nat) : Int)))) (op_len rfl rfl rfl rfl rfl Tryd.underlying9) rfl rfl rfl ?_
    refine Eo.val (x := (.v (.bool (decide (x84 < ((p0.size : Nat) : Int)))))) rfl rfl rfl rfl ?_
    refine Eo.nil ?_
    obtain ⟨x137, hv156, H⟩ := bind_some H
    refine Ec.cut (J := (fun (x137 : (List ByteArray)) (x : X) (φ : Fr) (s : St) => x = .normal ∧ (∃ (a138 : A), Sl rS a138 x137 ∧ Hp s (.app a138 9 :: R) ∧ Fl [(3, a138)] φ)) x137) ?_ ?_
    · have H := hv156
      refine Ec.cond (t := (decide (x84 < ((p0.size : Nat) : Int)))) rfl (fun hc140 => ?_) (fun hc140 => ?_)
      · have H := cond_t hc140 H
        refine Ec.region ?_
        refine Eo.val (x := a82) rfl rfl rfl rfl ?_
        refine Eo.val (x := (.v (.string p0))) rfl rfl rfl rfl ?_
        refine Eo.val (x := (.v (.int .i64 x84))) rfl rfl rfl rfl ?_
        obtain ⟨s141, hvs141, H⟩ := bind_some H
        refine Eo.val (op_partS hvs141 rfl rfl Tryd.underlying9 (.inr ⟨_, _, rfl, rfl⟩) (.inl ⟨rfl, rfl⟩)) rfl rfl rfl ?_
        refine Eo.val (x := (.sl 1 [(.v (.string s141))] .ex)) (op_buildS (lay_cons rfl rfl rfl rfl rfl lay_nil) rfl (parts_cons rfl rfl rfl) Tryd.underlying44 rfl rfl rfl rfl (by decide) rfl) rfl rfl rfl ?_
        have h145 : Sl rS (.sl 1 [(.v (.string s141))] .ex) ([s141] : List ByteArray) := .inr ⟨_, _, rfl, (.cons (c := [(.v (.string s141))]) rfl .nil)⟩
        have hp144 := Hp.appEx hp122 9 1 [(.v (.string s141))]
        obtain ⟨l146, hvl146, H⟩ := bind_some H
        refine Eo.append hp144 1 rfl h83 (New.of h145) hvl146 rfl rfl rfl rfl rfl rfl rfl Tryd.underlying44 rfl Tryd.underlying44 rfl rfl rfl rfl rfl rfl rfl rfl ?_
        intro a147 σ150 h148 hp149
        change Hp σ150 (.app (.sl 1 [(.v (.string s141))] .ex) 9 :: .app a147 9 :: R) at hp149
        refine Eo.val (x := a147) rfl rfl rfl rfl ?_
        refine Eo.nil ?_
        obtain rfl := Option.some.inj H
        exact And.intro rfl ⟨a147, h148, (Hp.drop hp149 0), (.cons rfl (.nil'))⟩
      · have H := cond_f hc140 H
        refine Ec.skip ?_
        obtain rfl := Option.some.inj H
        exact And.intro rfl ⟨a82, h83, hp122, (.cons rfl (.nil'))⟩
    · skip
      intro x φ153 σ152 hJ
      obtain ⟨rfl, a138, h139, hp151, hf154⟩ := hJ
      refine Ec.of (F := [(3, a138)]) hf154 ?_
      refine Ec.seq ?_
      refine Ec.region ?_
      refine Eo.val (x := a138) rfl rfl rfl rfl ?_
      refine Eo.val (x := a138) rfl rfl rfl rfl ?_
      refine Eo.nil ?_
      obtain rfl := Option.some.inj H
      refine Ec.ret ?_
      refine Ret.mk rfl ?_
      exact ⟨a138, rfl, h139, hp151⟩

def gdovetailref13_hex (n : Nat) (p0 : Int) : Option (Int) := (cond ((decide (p0 ≥ 48)) && (decide (p0 ≤ 57))) (some (IntKind.wrap .i64 (IntKind.wrap .u8 (p0 - 48)))) ((cond ((decide (p0 ≥ 97)) && (decide (p0 ≤ 102))) (some (IntKind.wrap .i64 ((IntKind.wrap .i64 (IntKind.wrap .u8 (p0 - 97))) + 10))) (some (-1)))))

def gdovetailref13_hex_post (R : List Res) (r : Int) (x : A) (s : St) : Prop := x = (.v (.int .i64 r)) ∧ Hp s (R)

theorem gdovetailref13_hex_ok {n : Nat} {p0 : Int} {R : List Res} {σ : St} (hp : Hp σ R) {r : Int} (H : gdovetailref13_hex n p0 = some r) : Ca cfg 48 [(.v (.int .u8 p0))] σ (gdovetailref13_hex_post R r) := by
  unfold gdovetailref13_hex at H
  refine Ca.enterL (G := [(0, (.v (.int .u8 p0)))]) Tryd.func48 rfl rfl rfl rfl ?_
  refine Ec.seq ?_
  refine Ec.region ?_
  refine Eo.val (x := (.v (.int .i64 0))) rfl rfl rfl rfl ?_
  refine Eo.nil ?_
  refine Ec.seq ?_
  refine Ec.seq ?_
  refine Ec.region ?_
  refine Eo.val (x := (.v (.int .u8 p0))) rfl rfl rfl rfl ?_
  refine Eo.val (x := (.v (.bool (decide (p0 ≥ 48))))) rfl rfl rfl rfl ?_
  refine Eo.val (x := (.v (.bool (decide (p0 ≥ 48))))) rfl rfl rfl rfl ?_
  refine Eo.cutF 3 [(0, (.v (.int .u8 p0))), (8, (.v (.bool ((decide (p0 ≥ 48)) && (decide (p0 ≤ 57))))))] ?_ ?_
  · skip
    cases hc3 : (decide (p0 ≥ 48))
    · skip
      refine Eo.off rfl rfl rfl ?_
      refine Eo.off rfl rfl rfl ?_
      refine Eo.val (x := (.v (.bool false))) rfl rfl rfl rfl ?_
      exact Eo.nil (And.intro rfl (And.intro rfl (.cons rfl (.cons rfl (.nil')))))
    · skip
      refine Eo.val (x := (.v (.int .u8 p0))) rfl rfl rfl rfl ?_
      refine Eo.val (x := (.v (.bool (decide (p0 ≤ 57))))) rfl rfl rfl rfl ?_
      refine Eo.val (x := (.v (.bool (decide (p0 ≤ 57))))) rfl rfl rfl rfl ?_
      exact Eo.nil (And.intro rfl (And.intro rfl (.cons rfl (.cons rfl (.nil')))))
  · skip
    refine Eo.nil ?_
    refine Ec.cond (t := ((decide (p0 ≥ 48)) && (decide (p0 ≤ 57)))) rfl (fun hc6 => ?_) (fun hc6 => ?_)
    · have H := cond_t hc6 H
      refine Ec.seq ?_
      refine Ec.region ?_
      refine Eo.val (x := (.v (.int .u8 p0))) rfl rfl rfl rfl ?_
      refine Eo.val (x := (.v (.int .u8 (IntKind.wrap .u8 (p0 - 48))))) rfl rfl rfl rfl ?_
      refine Eo.val (x := (.v (.int .i64 (IntKind.wrap .i64 (IntKind.wrap .u8 (p0 - 48)))))) rfl rfl rfl rfl ?_
      refine Eo.val (x := (.v (.int .i64 (IntKind.wrap .i64 (IntKind.wrap .u8 (p0 - 48)))))) rfl rfl rfl rfl ?_
      refine Eo.nil ?_
      obtain rfl := Option.some.inj H
      refine Ec.ret ?_
      refine Ret.mk rfl ?_
      exact ⟨rfl, hp⟩
    · have H := cond_f hc6 H
      refine Ec.skip ?_
      refine Ec.seq ?_
      refine Ec.seq ?_
      refine Ec.region ?_
      refine Eo.val (x := (.v (.int .u8 p0))) rfl rfl rfl rfl ?_
      refine Eo.val (x := (.v (.bool (decide (p0 ≥ 97))))) rfl rfl rfl rfl ?_
      refine Eo.val (x := (.v (.bool (decide (p0 ≥ 97))))) rfl rfl rfl rfl ?_
      refine Eo.cutF 3 [(0, (.v (.int .u8 p0))), (17, (.v (.bool ((decide (p0 ≥ 97)) && (decide (p0 ≤ 102))))))] ?_ ?_
      · skip
        cases hc9 : (decide (p0 ≥ 97))
        · skip
          refine Eo.off rfl rfl rfl ?_
          refine Eo.off rfl rfl rfl ?_
          refine Eo.val (x := (.v (.bool false))) rfl rfl rfl rfl ?_
          exact Eo.nil (And.intro rfl (And.intro rfl (.cons rfl (.cons rfl (.nil')))))
        · skip
          refine Eo.val (x := (.v (.int .u8 p0))) rfl rfl rfl rfl ?_
          refine Eo.val (x := (.v (.bool (decide (p0 ≤ 102))))) rfl rfl rfl rfl ?_
          refine Eo.val (x := (.v (.bool (decide (p0 ≤ 102))))) rfl rfl rfl rfl ?_
          exact Eo.nil (And.intro rfl (And.intro rfl (.cons rfl (.cons rfl (.nil')))))
      · skip
        refine Eo.nil ?_
        refine Ec.cond (t := ((decide (p0 ≥ 97)) && (decide (p0 ≤ 102)))) rfl (fun hc12 => ?_) (fun hc12 => ?_)
        · have H := cond_t hc12 H
          refine Ec.seq ?_
          refine Ec.region ?_
          refine Eo.val (x := (.v (.int .u8 p0))) rfl rfl rfl rfl ?_
          refine Eo.val (x := (.v (.int .u8 (IntKind.wrap .u8 (p0 - 97))))) rfl rfl rfl rfl ?_
          refine Eo.val (x := (.v (.int .i64 (IntKind.wrap .i64 (IntKind.wrap .u8 (p0 - 97)))))) rfl rfl rfl rfl ?_
          refine Eo.val (x := (.v (.int .i64 (IntKind.wrap .i64 ((IntKind.wrap .i64 (IntKind.wrap .u8 (p0 - 97))) + 10))))) rfl rfl rfl rfl ?_
          refine Eo.val (x := (.v (.int .i64 (IntKind.wrap .i64 ((IntKind.wrap .i64 (IntKind.wrap .u8 (p0 - 97))) + 10))))) rfl rfl rfl rfl ?_
          refine Eo.nil ?_
          obtain rfl := Option.some.inj H
          refine Ec.ret ?_
          refine Ret.mk rfl ?_
          exact ⟨rfl, hp⟩
        · have H := cond_f hc12 H
          refine Ec.skip ?_
          refine Ec.seq ?_
          refine Ec.region ?_
          refine Eo.val (x := (.v (.int .i64 (-1)))) rfl rfl rfl rfl ?_
          refine Eo.nil ?_
          obtain rfl := Option.some.inj H
          refine Ec.ret ?_
          refine Ret.mk rfl ?_
          exact ⟨rfl, hp⟩

def gdovetailref13_text_L1 (N : Nat) (p0 : ByteArray) : Nat → (List Int) → Int → Option (LR Unit (ByteArray × Int × Bool))
  | 0, _, _ => none
  | m + 1, y296, y299 => (cond (decide (y299 < ((p0.size : Nat) : Int))) (((atS p0 y299).bind fun b593 => (cond (b593 == 34) (some (.ret ((ofB y296), (IntKind.wrap .i64 (y299 + 1)), true))) ((cond ((decide (b593 < 32)) || (decide (b593 > 126))) (some (.ret ((ByteArray.mk #[]), 0, false))) ((cond (b593 != 92) (((appL 1 y296 ([b593] : List Int)).bind fun l606 => gdovetailref13_text_L1 N p0 m l606 (IntKind.wrap .i64 (y299 + 1)))) ((cond (decide ((IntKind.wrap .i64 (y299 + 1)) ≥ ((p0.size : Nat) : Int))) (some (.ret ((ByteArray.mk #[]), 0, false))) (((atS p0 (IntKind.wrap .i64 (y299 + 1))).bind fun b612 => (((cond (b612 == 110) (((appL 1 y296 ([10] : List Int)).bind fun l751 => some (.out (l751, y299)))) ((cond (b612 == 116) (((appL 1 y296 ([9] : List Int)).bind fun l761 => some (.out (l761, y299)))) ((cond (b612 == 48) (((appL 1 y296 ([0] : List Int)).bind fun l771 => some (.out (l771, y299)))) ((((cond (b612 == 92) (some (b612 == 92)) (some (b612 == 34))) : Option (Bool)).bind fun x777 => (cond x777 (((atS p0 (IntKind.wrap .i64 (y299 + 1))).bind fun b784 => ((appL 1 y296 ([b784] : List Int)).bind fun l789 => some (.out (l789, y299))))) ((cond (b612 == 120) ((((cond (decide ((IntKind.wrap .i64 (y299 + 3)) ≥ ((p0.size : Nat) : Int))) (some true) (((atS p0 (IntKind.wrap .i64 (y299 + 2))).bind fun b802 => ((gdovetailref13_hex N b802).bind fun r803 => some (decide (r803 < 0)))))) : Option (Bool)).bind fun x800 => (((cond x800 (some true) (((atS p0 (IntKind.wrap .i64 (y299 + 3))).bind fun b817 => ((gdovetailref13_hex N b817).bind fun r818 => some (decide (r818 < 0)))))) : Option (Bool)).bind fun x815 => (cond x815 (some (.ret ((ByteArray.mk #[]), 0, false))) (((((atS p0 (IntKind.wrap .i64 (y299 + 2))).bind fun b846 => ((gdovetailref13_hex N b846).bind fun r847 => ((atS p0 (IntKind.wrap .i64 (y299 + 3))).bind fun b850 => ((gdovetailref13_hex N b850).bind fun r851 => ((appL 1 y296 ([(IntKind.wrap .u8 (IntKind.wrap .i64 ((IntKind.wrap .i64 (r847 * 16)) + r851)))] : List Int)).bind fun l858 => some l858))))) : Option ((List Int))).bind fun x843 => some (.out (x843, (IntKind.wrap .i64 (y299 + 2)))))))))) (some (.ret ((ByteArray.mk #[]), 0, false))))))))))))) : Option (LR ((List Int) × Int) (ByteArray × Int × Bool))).bind fun v => match v with | .out (x742, x745) => gdovetailref13_text_L1 N p0 m x742 (IntKind.wrap .i64 (x745 + 2)) | .ret r879 => some (.ret r879))))))))))))) (some (.out ())))

def gdovetailref13_text (n : Nat) (p0 : ByteArray) (p1 : Int) : Option ((ByteArray × Int × Bool)) := ((gdovetailref13_text_L1 n p0 n ([] : List Int) (IntKind.wrap .i64 (p1 + 1))).bind fun v => match v with | .out _ => some ((ByteArray.mk #[]), 0, false) | .ret r890 => some r890)

def gdovetailref13_text_post (R : List Res) (r : (ByteArray × Int × Bool)) (x : A) (s : St) : Prop := x = (.tup [(.v (.string r.1)), (.v (.int .i64 r.2.1)), (.v (.bool r.2.2))]) ∧ Hp s (R)

theorem gdovetailref13_text_ok {n : Nat} {p0 : ByteArray} {p1 : Int} {R : List Res} {σ : St} (hp : Hp σ R) {r : (ByteArray × Int × Bool)} (H : gdovetailref13_text n p0 p1 = some r) : Ca cfg 25 [(.v (.string p0)), (.v (.int .i64 p1))] σ (gdovetailref13_text_post R r) := by
  unfold gdovetailref13_text at H
  refine Ca.enterL (G := [(0, (.v (.string p0))), (1, (.v (.int .i64 p1)))]) Tryd.func25 rfl rfl rfl rfl ?_
  refine Ec.seq ?_
  refine Ec.region ?_
  refine Eo.val (x := (.v (.string (ByteArray.mk #[])))) rfl rfl rfl rfl ?_
  refine Eo.val (x := (.v (.int .i64 0))) rfl rfl rfl rfl ?_
  refine Eo.val (x := (.v (.bool false))) rfl rfl rfl rfl ?_
  refine Eo.nil ?_
  refine Ec.seq ?_
  refine Ec.region ?_
  refine Eo.val (x := (.sl 1 [] .ex)) rfl rfl rfl rfl ?_
  have hp3 := Hp.appEx hp 5 1 []
  refine Eo.val (x := (.sl 1 [] .ex)) rfl rfl rfl rfl ?_
  refine Eo.nil ?_
  refine Ec.seq ?_
  refine Ec.region ?_
  refine Eo.val (x := (.v (.int .i64 p1))) rfl rfl rfl rfl ?_
  refine Eo.val (x := (.v (.int .i64 (IntKind.wrap .i64 (p1 + 1))))) rfl rfl rfl rfl ?_
  refine Eo.val (x := (.v (.int .i64 (IntKind.wrap .i64 (p1 + 1))))) rfl rfl rfl rfl ?_
  refine Eo.nil ?_
  refine Ec.seq ?_
  refine Ec.block ?_
  obtain ⟨v884, hv885, H⟩ := bind_some H
  refine Ec.cut (J := (fun (v : LR Unit (ByteArray × Int × Bool)) (x : X) (φ : Fr) (s : St) => match v with | .out _ => x = (.exit 0) ∧ (Hp s (R) ∧ Fl [] φ) | .ret r => x = .ret ∧ Ret cfg Tryd.f25 (gdovetailref13_text_post R r) .ret φ s) v884) (Ec.weak (.cons rfl (.cons rfl (.cons rfl (.nil')))) (Ec.loopF (f := (fun m (i : ((List Int) × Int) × A) => gdovetailref13_text_L1 n p0 m i.1.1 i.1.2)) (G := (fun (i : ((List Int) × Int) × A) => ([(0, (.v (.string p0))), (7, i.2), (8, (.v (.int .i64 i.1.2)))] : List (Nat × A)))) (I := (fun (i : ((List Int) × Int) × A) (s : St) => Sl (rI .u8) i.2 i.1.1 ∧ Hp s (.app i.2 5 :: R))) (J := (fun (v : LR Unit (ByteArray × Int × Bool)) (x : X) (φ : Fr) (s : St) => match v with | .out _ => x = (.exit 0) ∧ (Hp s (R) ∧ Fl [] φ) | .ret r => x = .ret ∧ Ret cfg Tryd.f25 (gdovetailref13_text_post R r) .ret φ s)) (fun _ => rfl) ?_ n ((([] : List Int), (IntKind.wrap .i64 (p1 + 1))), (.sl 1 [] .ex)) _ v884 ⟨(.inr ⟨_, _, rfl, .nil⟩ : Sl (rI .u8) (.sl 1 [] .ex) ([] : List Int)), hp3⟩ hv885)) ?_
  · rintro m ⟨⟨y296, y299⟩, a297⟩ σ0 v ⟨h298, hp0⟩ H ih
    change gdovetailref13_text_L1 n p0 (m + 1) y296 y299 = some v at H
    rw [gdovetailref13_text_L1] at H
    change Ec _ _ _ [(0, (.v (.string p0))), (7, a297), (8, (.v (.int .i64 y299)))] σ0 _
    refine Ec.seq ?_
    refine Ec.seq ?_
    refine Ec.region ?_
    refine Eo.val (x := (.v (.int .i64 y299))) rfl rfl rfl rfl ?_
    refine Eo.val (x := (.v (.string p0))) rfl rfl rfl rfl ?_
    refine Eo.val (x := (.v (.int .i64 ((p0.size : Nat) : Int)))) (op_len rfl rfl rfl rfl rfl Tryd.underlying9) rfl rfl rfl ?_
    refine Eo.val (x := (.v (.bool (decide (y299 < ((p0.size : Nat) : Int)))))) rfl rfl rfl rfl ?_
    refine Eo.nil ?_
    refine Ec.cond (t := (decide (y299 < ((p0.size : Nat) : Int)))) rfl (fun hc592 => ?_) (fun hc592 => ?_)
    · have H := cond_t hc592 H
      refine Ec.skip ?_
      refine Ec.block ?_
      refine Ec.seq ?_
      refine Ec.region ?_
      refine Eo.val (x := (.v (.string p0))) rfl rfl rfl rfl ?_
      refine Eo.val (x := (.v (.int .i64 y299))) rfl rfl rfl rfl ?_
      obtain ⟨b593, hvb593, H⟩ := bind_some H
      refine Eo.val (op_byteS hvb593 rfl rfl rfl Tryd.underlying9) rfl rfl rfl ?_
      refine Eo.val (x := (.v (.int .u8 b593))) rfl rfl rfl rfl ?_
      refine Eo.nil ?_
      refine Ec.seq ?_
      refine Ec.seq ?_
      refine Ec.region ?_
      refine Eo.val (x := (.v (.int .u8 b593))) rfl rfl rfl rfl ?_
      refine Eo.val (x := (.v (.bool (b593 == 34)))) rfl rfl rfl rfl ?_
      refine Eo.nil ?_
      refine Ec.cond (t := (b593 == 34)) rfl (fun hc594 => ?_) (fun hc594 => ?_)
      · have H := cond_t hc594 H
        refine Ec.seq ?_
        refine Ec.region ?_
        refine Eo.val (x := a297) rfl rfl rfl rfl ?_
        refine Eo.val (op_b2s h298 rfl rfl Tryd.underlying61 Tryd.underlying9 Tryd.underlying5 (fun h => by subst h; rfl)) rfl rfl rfl ?_
        refine Eo.val (x := (.v (.int .i64 y299))) rfl rfl rfl rfl ?_
        refine Eo.val (x := (.v (.int .i64 (IntKind.wrap .i64 (y299 + 1))))) rfl rfl rfl rfl ?_
        refine Eo.val (x := (.v (.string (ofB y296)))) rfl rfl rfl rfl ?_
        refine Eo.val (x := (.v (.int .i64 (IntKind.wrap .i64 (y299 + 1))))) rfl rfl rfl rfl ?_
        refine Eo.val (x := (.v (.bool true))) rfl rfl rfl rfl ?_
        refine Eo.nil ?_
        obtain rfl := Option.some.inj H
        refine Ec.ret ?_
        refine And.intro rfl (Ret.mk rfl ?_)
        exact ⟨rfl, (Hp.drop hp0 0)⟩
      · have H := cond_f hc594 H
        refine Ec.skip ?_
        refine Ec.seq ?_
        refine Ec.seq ?_
        refine Ec.region ?_
        refine Eo.val (x := (.v (.int .u8 b593))) rfl rfl rfl rfl ?_
        refine Eo.val (x := (.v (.bool (decide (b593 < 32))))) rfl rfl rfl rfl ?_
        refine Eo.val (x := (.v (.bool (decide (b593 < 32))))) rfl rfl rfl rfl ?_
        refine Eo.cutF 3 [(0, (.v (.string p0))), (7, a297), (8, (.v (.int .i64 y299))), (9, (.v (.int .u8 b593))), (31, (.v (.bool ((decide (b593 < 32)) || (decide (b593 > 126))))))] ?_ ?_
        · skip
          cases hc597 : (decide (b593 < 32))
          · skip
            refine Eo.val (x := (.v (.int .u8 b593))) rfl rfl rfl rfl ?_
            refine Eo.val (x := (.v (.bool (decide (b593 > 126))))) rfl rfl rfl rfl ?_
            refine Eo.val (x := (.v (.bool (decide (b593 > 126))))) rfl rfl rfl rfl ?_
            exact Eo.nil (And.intro rfl (And.intro rfl (.cons rfl (.cons rfl (.cons rfl (.cons rfl (.cons rfl (.nil'))))))))
          · skip
            refine Eo.off rfl rfl rfl ?_
            refine Eo.off rfl rfl rfl ?_
            refine Eo.val (x := (.v (.bool true))) rfl rfl rfl rfl ?_
            exact Eo.nil (And.intro rfl (And.intro rfl (.cons rfl (.cons rfl (.cons rfl (.cons rfl (.cons rfl (.nil'))))))))
        · skip
          refine Eo.nil ?_
          refine Ec.cond (t := ((decide (b593 < 32)) || (decide (b593 > 126)))) rfl (fun hc600 => ?_) (fun hc600 => ?_)
          · have H := cond_t hc600 H
            refine Ec.seq ?_
            refine Ec.region ?_
            refine Eo.val (x := (.v (.string (ByteArray.mk #[])))) rfl rfl rfl rfl ?_
            refine Eo.val (x := (.v (.int .i64 0))) rfl rfl rfl rfl ?_
            refine Eo.val (x := (.v (.bool false))) rfl rfl rfl rfl ?_
            refine Eo.nil ?_
            obtain rfl := Option.some.inj H
            refine Ec.ret ?_
            refine And.intro rfl (Ret.mk rfl ?_)
            exact ⟨rfl, (Hp.drop hp0 0)⟩
          · have H := cond_f hc600 H
            refine Ec.skip ?_
            refine Ec.seq ?_
            refine Ec.seq ?_
            refine Ec.region ?_
            refine Eo.val (x := (.v (.int .u8 b593))) rfl rfl rfl rfl ?_
            refine Eo.val (x := (.v (.bool (b593 != 92)))) rfl rfl rfl rfl ?_
            refine Eo.nil ?_
            refine Ec.cond (t := (b593 != 92)) rfl (fun hc601 => ?_) (fun hc601 => ?_)
            · have H := cond_t hc601 H
              refine Ec.seq ?_
              refine Ec.region ?_
              refine Eo.val (x := a297) rfl rfl rfl rfl ?_
              refine Eo.val (x := (.v (.int .u8 b593))) rfl rfl rfl rfl ?_
              refine Eo.val (x := (.sl 1 [(.v (.int .u8 b593))] .ex)) (op_buildS (lay_cons rfl rfl rfl rfl rfl lay_nil) rfl (parts_cons rfl rfl rfl) Tryd.underlying61 rfl rfl rfl rfl (by decide) rfl) rfl rfl rfl ?_
              have h605 : Sl (rI .u8) (.sl 1 [(.v (.int .u8 b593))] .ex) ([b593] : List Int) := .inr ⟨_, _, rfl, (.cons (c := [(.v (.int .u8 b593))]) rfl .nil)⟩
              have hp604 := Hp.appEx hp0 5 1 [(.v (.int .u8 b593))]
              obtain ⟨l606, hvl606, H⟩ := bind_some H
              refine Eo.append hp604 1 rfl h298 (New.of h605) hvl606 rfl rfl rfl rfl rfl rfl rfl Tryd.underlying61 rfl Tryd.underlying61 rfl rfl rfl rfl rfl rfl rfl rfl ?_
              intro a607 σ610 h608 hp609
              change Hp σ610 (.app (.sl 1 [(.v (.int .u8 b593))] .ex) 5 :: .app a607 5 :: R) at hp609
              refine Eo.val (x := a607) rfl rfl rfl rfl ?_
              refine Eo.nil ?_
              refine Ec.seq ?_
              refine Ec.region ?_
              refine Eo.val (x := (.v (.int .i64 y299))) rfl rfl rfl rfl ?_
              refine Eo.val (x := (.v (.int .i64 (IntKind.wrap .i64 (y299 + 1))))) rfl rfl rfl rfl ?_
              refine Eo.val (x := (.v (.int .i64 (IntKind.wrap .i64 (y299 + 1))))) rfl rfl rfl rfl ?_
              refine Eo.nil ?_
              refine Ec.exit ?_
              exact Ec.of (.cons rfl (.cons rfl (.cons rfl (.nil')))) (ih ((l606, (IntKind.wrap .i64 (y299 + 1))), a607) _ ⟨h608, (Hp.drop hp609 0)⟩ H)
            · have H := cond_f hc601 H
              refine Ec.skip ?_
              refine Ec.seq ?_
              refine Ec.seq ?_
              refine Ec.region ?_
              refine Eo.val (x := (.v (.int .i64 y299))) rfl rfl rfl rfl ?_
              refine Eo.val (x := (.v (.int .i64 (IntKind.wrap .i64 (y299 + 1))))) rfl rfl rfl rfl ?_
              refine Eo.val (x := (.v (.string p0))) rfl rfl rfl rfl ?_
              refine Eo.val (x := (.v (.int .i64 ((p0.size : Nat) : Int)))) (op_len rfl rfl rfl rfl rfl Tryd.underlying9) rfl rfl rfl ?_
              refine Eo.val (x := (.v (.bool (decide ((IntKind.wrap .i64 (y299 + 1)) ≥ ((p0.size : Nat) : Int)))))) rfl rfl rfl rfl ?_
              refine Eo.nil ?_
              refine Ec.cond (t := (decide ((IntKind.wrap .i64 (y299 + 1)) ≥ ((p0.size : Nat) : Int)))) rfl (fun hc611 => ?_) (fun hc611 => ?_)
              · have H := cond_t hc611 H
                refine Ec.seq ?_
                refine Ec.region ?_
                refine Eo.val (x := (.v (.string (ByteArray.mk #[])))) rfl rfl rfl rfl ?_
                refine Eo.val (x := (.v (.int .i64 0))) rfl rfl rfl rfl ?_
                refine Eo.val (x := (.v (.bool false))) rfl rfl rfl rfl ?_
                refine Eo.nil ?_
                obtain rfl := Option.some.inj H
                refine Ec.ret ?_
                refine And.intro rfl (Ret.mk rfl ?_)
                exact ⟨rfl, (Hp.drop hp0 0)⟩
              · have H := cond_f hc611 H
                refine Ec.skip ?_
                refine Ec.seq ?_
                refine Ec.seq ?_
                refine Ec.region ?_
                refine Eo.val (x := (.v (.string p0))) rfl rfl rfl rfl ?_
                refine Eo.val (x := (.v (.int .i64 y299))) rfl rfl rfl rfl ?_
                refine Eo.val (x := (.v (.int .i64 (IntKind.wrap .i64 (y299 + 1))))) rfl rfl rfl rfl ?_
                obtain ⟨b612, hvb612, H⟩ := bind_some H
                refine Eo.val (op_byteS hvb612 rfl rfl rfl Tryd.underlying9) rfl rfl rfl ?_
                refine Eo.nil ?_
                obtain ⟨v882, hv883, H⟩ := bind_some H
                refine Ec.cut (J := (fun (v : LR ((List Int) × Int) (ByteArray × Int × Bool)) (x : X) (φ : Fr) (s : St) => match v with | .out (x742, x745) => x = .normal ∧ (∃ (a743 : A), Sl (rI .u8) a743 x742 ∧ Hp s (.app a743 5 :: R) ∧ Fl [(0, (.v (.string p0))), (7, a743), (8, (.v (.int .i64 x745)))] φ) | .ret r => x = .ret ∧ Ret cfg Tryd.f25 (gdovetailref13_text_post R r) .ret φ s) v882) ?_ ?_
                · have H := hv883
                  refine Ec.block ?_
                  refine Ec.seq ?_
                  refine Ec.region ?_
                  refine Eo.val (x := (.v (.bool (b612 == 110)))) rfl rfl rfl rfl ?_
                  refine Eo.val (x := (.v (.bool (b612 == 110)))) rfl rfl rfl rfl ?_
                  refine Eo.nil ?_
                  refine Ec.cond (t := (b612 == 110)) rfl (fun hc746 => ?_) (fun hc746 => ?_)
                  · have H := cond_t hc746 H
                    refine Ec.region ?_
                    refine Eo.val (x := a297) rfl rfl rfl rfl ?_
                    refine Eo.val (x := (.sl 1 [(.v (.int .u8 10))] .ex)) (op_buildS (lay_cons rfl rfl rfl rfl rfl lay_nil) rfl (parts_cons rfl rfl rfl) Tryd.underlying61 rfl rfl rfl rfl (by decide) rfl) rfl rfl rfl ?_
                    have h750 : Sl (rI .u8) (.sl 1 [(.v (.int .u8 10))] .ex) ([10] : List Int) := .inr ⟨_, _, rfl, (.cons (c := [(.v (.int .u8 10))]) rfl .nil)⟩
                    have hp749 := Hp.appEx hp0 5 1 [(.v (.int .u8 10))]
                    obtain ⟨l751, hvl751, H⟩ := bind_some H
                    refine Eo.append hp749 1 rfl h298 (New.of h750) hvl751 rfl rfl rfl rfl rfl rfl rfl Tryd.underlying61 rfl Tryd.underlying61 rfl rfl rfl rfl rfl rfl rfl rfl ?_
                    intro a752 σ755 h753 hp754
                    change Hp σ755 (.app (.sl 1 [(.v (.int .u8 10))] .ex) 5 :: .app a752 5 :: R) at hp754
                    refine Eo.val (x := a752) rfl rfl rfl rfl ?_
                    refine Eo.nil ?_
                    obtain rfl := Option.some.inj H
                    exact And.intro rfl ⟨a752, h753, (Hp.drop hp754 0), (.cons rfl (.cons rfl (.cons rfl (.nil'))))⟩
                  · have H := cond_f hc746 H
                    refine Ec.seq ?_
                    refine Ec.region ?_
                    refine Eo.val (x := (.v (.bool (b612 == 116)))) rfl rfl rfl rfl ?_
                    refine Eo.val (x := (.v (.bool (b612 == 116)))) rfl rfl rfl rfl ?_
                    refine Eo.nil ?_
                    refine Ec.cond (t := (b612 == 116)) rfl (fun hc756 => ?_) (fun hc756 => ?_)
                    · have H := cond_t hc756 H
                      refine Ec.region ?_
                      refine Eo.val (x := a297) rfl rfl rfl rfl ?_
                      refine Eo.val (x := (.sl 1 [(.v (.int .u8 9))] .ex)) (op_buildS (lay_cons rfl rfl rfl rfl rfl lay_nil) rfl (parts_cons rfl rfl rfl) Tryd.underlying61 rfl rfl rfl rfl (by decide) rfl) rfl rfl rfl ?_
                      have h760 : Sl (rI .u8) (.sl 1 [(.v (.int .u8 9))] .ex) ([9] : List Int) := .inr ⟨_, _, rfl, (.cons (c := [(.v (.int .u8 9))]) rfl .nil)⟩
                      have hp759 := Hp.appEx hp0 5 1 [(.v (.int .u8 9))]
                      obtain ⟨l761, hvl761, H⟩ := bind_some H
                      refine Eo.append hp759 1 rfl h298 (New.of h760) hvl761 rfl rfl rfl rfl rfl rfl rfl Tryd.underlying61 rfl Tryd.underlying61 rfl rfl rfl rfl rfl rfl rfl rfl ?_
                      intro a762 σ765 h763 hp764
                      change Hp σ765 (.app (.sl 1 [(.v (.int .u8 9))] .ex) 5 :: .app a762 5 :: R) at hp764
                      refine Eo.val (x := a762) rfl rfl rfl rfl ?_
                      refine Eo.nil ?_
                      obtain rfl := Option.some.inj H
                      exact And.intro rfl ⟨a762, h763, (Hp.drop hp764 0), (.cons rfl (.cons rfl (.cons rfl (.nil'))))⟩
                    · have H := cond_f hc756 H
                      refine Ec.seq ?_
                      refine Ec.region ?_
                      refine Eo.val (x := (.v (.bool (b612 == 48)))) rfl rfl rfl rfl ?_
                      refine Eo.val (x := (.v (.bool (b612 == 48)))) rfl rfl rfl rfl ?_
                      refine Eo.nil ?_
                      refine Ec.cond (t := (b612 == 48)) rfl (fun hc766 => ?_) (fun hc766 => ?_)
                      · have H := cond_t hc766 H
                        refine Ec.region ?_
                        refine Eo.val (x := a297) rfl rfl rfl rfl ?_
                        refine Eo.val (x := (.sl 1 [(.v (.int .u8 0))] .ex)) (op_buildS (lay_cons rfl rfl rfl rfl rfl lay_nil) rfl (parts_cons rfl rfl rfl) Tryd.underlying61 rfl rfl rfl rfl (by decide) rfl) rfl rfl rfl ?_
                        have h770 : Sl (rI .u8) (.sl 1 [(.v (.int .u8 0))] .ex) ([0] : List Int) := .inr ⟨_, _, rfl, (.cons (c := [(.v (.int .u8 0))]) rfl .nil)⟩
                        have hp769 := Hp.appEx hp0 5 1 [(.v (.int .u8 0))]
                        obtain ⟨l771, hvl771, H⟩ := bind_some H
                        refine Eo.append hp769 1 rfl h298 (New.of h770) hvl771 rfl rfl rfl rfl rfl rfl rfl Tryd.underlying61 rfl Tryd.underlying61 rfl rfl rfl rfl rfl rfl rfl rfl ?_
                        intro a772 σ775 h773 hp774
                        change Hp σ775 (.app (.sl 1 [(.v (.int .u8 0))] .ex) 5 :: .app a772 5 :: R) at hp774
                        refine Eo.val (x := a772) rfl rfl rfl rfl ?_
                        refine Eo.nil ?_
                        obtain rfl := Option.some.inj H
                        exact And.intro rfl ⟨a772, h773, (Hp.drop hp774 0), (.cons rfl (.cons rfl (.cons rfl (.nil'))))⟩
                      · have H := cond_f hc766 H
                        refine Ec.seq ?_
                        refine Ec.seq ?_
                        refine Ec.region ?_
                        refine Eo.val (x := (.v (.bool (b612 == 92)))) rfl rfl rfl rfl ?_
                        refine Eo.val (x := (.v (.bool (b612 == 92)))) rfl rfl rfl rfl ?_
                        refine Eo.nil ?_
                        obtain ⟨x777, hv874, H⟩ := bind_some H
                        refine Ec.cut (J := (fun (x777 : Bool) (x : X) (φ : Fr) (s : St) => x = .normal ∧ (Hp s (.app a297 5 :: R) ∧ Fl [(0, (.v (.string p0))), (7, a297), (8, (.v (.int .i64 y299))), (48, (.v (.int .u8 b612))), (64, (.v (.bool x777)))] φ)) x777) ?_ ?_
                        · have H := hv874
                          refine Ec.cond (t := (b612 == 92)) rfl (fun hc778 => ?_) (fun hc778 => ?_)
                          · have H := cond_t hc778 H
                            refine Ec.skip ?_
                            obtain rfl := Option.some.inj H
                            exact And.intro rfl ⟨hp0, (.cons rfl (.cons rfl (.cons rfl (.cons rfl (.cons rfl (.nil'))))))⟩
                          · have H := cond_f hc778 H
                            refine Ec.region ?_
                            refine Eo.val (x := (.v (.bool (b612 == 34)))) rfl rfl rfl rfl ?_
                            refine Eo.val (x := (.v (.bool (b612 == 34)))) rfl rfl rfl rfl ?_
                            refine Eo.nil ?_
                            obtain rfl := Option.some.inj H
                            exact And.intro rfl ⟨hp0, (.cons rfl (.cons rfl (.cons rfl (.cons rfl (.cons rfl (.nil'))))))⟩
                        · skip
                          intro x φ781 σ780 hJ
                          obtain ⟨rfl, hp779, hf782⟩ := hJ
                          refine Ec.of (F := [(0, (.v (.string p0))), (7, a297), (8, (.v (.int .i64 y299))), (48, (.v (.int .u8 b612))), (64, (.v (.bool x777)))]) hf782 ?_
                          refine Ec.cond (t := x777) rfl (fun hc783 => ?_) (fun hc783 => ?_)
                          · have H := cond_t hc783 H
                            refine Ec.region ?_
                            refine Eo.val (x := a297) rfl rfl rfl rfl ?_
                            refine Eo.val (x := (.v (.string p0))) rfl rfl rfl rfl ?_
                            refine Eo.val (x := (.v (.int .i64 y299))) rfl rfl rfl rfl ?_
                            refine Eo.val (x := (.v (.int .i64 (IntKind.wrap .i64 (y299 + 1))))) rfl rfl rfl rfl ?_
                            obtain ⟨b784, hvb784, H⟩ := bind_some H
                            refine Eo.val (op_byteS hvb784 rfl rfl rfl Tryd.underlying9) rfl rfl rfl ?_
                            refine Eo.val (x := (.sl 1 [(.v (.int .u8 b784))] .ex)) (op_buildS (lay_cons rfl rfl rfl rfl rfl lay_nil) rfl (parts_cons rfl rfl rfl) Tryd.underlying61 rfl rfl rfl rfl (by decide) rfl) rfl rfl rfl ?_
                            have h788 : Sl (rI .u8) (.sl 1 [(.v (.int .u8 b784))] .ex) ([b784] : List Int) := .inr ⟨_, _, rfl, (.cons (c := [(.v (.int .u8 b784))]) rfl .nil)⟩
                            have hp787 := Hp.appEx hp779 5 1 [(.v (.int .u8 b784))]
                            obtain ⟨l789, hvl789, H⟩ := bind_some H
                            refine Eo.append hp787 1 rfl h298 (New.of h788) hvl789 rfl rfl rfl rfl rfl rfl rfl Tryd.underlying61 rfl Tryd.underlying61 rfl rfl rfl rfl rfl rfl rfl rfl ?_
                            intro a790 σ793 h791 hp792
                            change Hp σ793 (.app (.sl 1 [(.v (.int .u8 b784))] .ex) 5 :: .app a790 5 :: R) at hp792
                            refine Eo.val (x := a790) rfl rfl rfl rfl ?_
                            refine Eo.nil ?_
                            obtain rfl := Option.some.inj H
                            exact And.intro rfl ⟨a790, h791, (Hp.drop hp792 0), (.cons rfl (.cons rfl (.cons rfl (.nil'))))⟩
                          · have H := cond_f hc783 H
                            refine Ec.seq ?_
                            refine Ec.region ?_
                            refine Eo.val (x := (.v (.bool (b612 == 120)))) rfl rfl rfl rfl ?_
                            refine Eo.val (x := (.v (.bool (b612 == 120)))) rfl rfl rfl rfl ?_
                            refine Eo.nil ?_
                            refine Ec.cond (t := (b612 == 120)) rfl (fun hc794 => ?_) (fun hc794 => ?_)
                            · have H := cond_t hc794 H
                              refine Ec.seq ?_
                              refine Ec.seq ?_
                              refine Ec.region ?_
                              refine Eo.val (x := (.v (.int .i64 y299))) rfl rfl rfl rfl ?_
                              refine Eo.val (x := (.v (.int .i64 (IntKind.wrap .i64 (y299 + 3))))) rfl rfl rfl rfl ?_
                              refine Eo.val (x := (.v (.string p0))) rfl rfl rfl rfl ?_
                              refine Eo.val (x := (.v (.int .i64 ((p0.size : Nat) : Int)))) (op_len rfl rfl rfl rfl rfl Tryd.underlying9) rfl rfl rfl ?_
                              refine Eo.val (x := (.v (.bool (decide ((IntKind.wrap .i64 (y299 + 3)) ≥ ((p0.size : Nat) : Int)))))) rfl rfl rfl rfl ?_
                              refine Eo.val (x := (.v (.bool (decide ((IntKind.wrap .i64 (y299 + 3)) ≥ ((p0.size : Nat) : Int)))))) rfl rfl rfl rfl ?_
                              obtain ⟨x800, hv872, H⟩ := bind_some H
                              refine Eo.cutN 7 (J := (fun (x800 : Bool) (x : X) (φ : Fr) (s : St) => x = .normal ∧ (Hp s (.app a297 5 :: R) ∧ Fl [(0, (.v (.string p0))), (7, a297), (8, (.v (.int .i64 y299))), (88, (.v (.bool x800)))] φ)) x800) ?_ ?_
                              · have H := hv872
                                cases hc801 : (decide ((IntKind.wrap .i64 (y299 + 3)) ≥ ((p0.size : Nat) : Int)))
                                · have H := cond_f hc801 H
                                  refine Eo.val (x := (.v (.string p0))) rfl rfl rfl rfl ?_
                                  refine Eo.val (x := (.v (.int .i64 y299))) rfl rfl rfl rfl ?_
                                  refine Eo.val (x := (.v (.int .i64 (IntKind.wrap .i64 (y299 + 2))))) rfl rfl rfl rfl ?_
                                  obtain ⟨b802, hvb802, H⟩ := bind_some H
                                  refine Eo.val (op_byteS hvb802 rfl rfl rfl Tryd.underlying9) rfl rfl rfl ?_
                                  obtain ⟨r803, hvr803, H⟩ := bind_some H
                                  refine Eo.call rfl rfl rfl rfl (gdovetailref13_hex_ok hp779 hvr803) ?_
                                  rintro _ σ805 ⟨rfl, hp804⟩
                                  refine Eo.val (x := (.v (.bool (decide (r803 < 0))))) rfl rfl rfl rfl ?_
                                  refine Eo.val (x := (.v (.bool (decide (r803 < 0))))) rfl rfl rfl rfl ?_
                                  refine Eo.nil ?_
                                  obtain rfl := Option.some.inj H
                                  exact And.intro rfl ⟨hp804, (.cons rfl (.cons rfl (.cons rfl (.cons rfl (.nil')))))⟩
                                · have H := cond_t hc801 H
                                  refine Eo.off rfl rfl rfl ?_
                                  refine Eo.off rfl rfl rfl ?_
                                  refine Eo.off rfl rfl rfl ?_
                                  refine Eo.off rfl rfl rfl ?_
                                  refine Eo.off rfl rfl rfl ?_
                                  refine Eo.off rfl rfl rfl ?_
                                  refine Eo.val (x := (.v (.bool true))) rfl rfl rfl rfl ?_
                                  refine Eo.nil ?_
                                  obtain rfl := Option.some.inj H
                                  exact And.intro rfl ⟨hp779, (.cons rfl (.cons rfl (.cons rfl (.cons rfl (.nil')))))⟩
                              · skip
                                intro x φ808 σ807 hJ
                                obtain ⟨rfl, hp806, hf809⟩ := hJ
                                refine ⟨rfl, Eo.of (F := [(0, (.v (.string p0))), (7, a297), (8, (.v (.int .i64 y299))), (88, (.v (.bool x800)))]) hf809 ?_⟩
                                refine Eo.val (x := (.v (.bool x800))) rfl rfl rfl rfl ?_
                                obtain ⟨x815, hv870, H⟩ := bind_some H
                                refine Eo.cutN 7 (J := (fun (x815 : Bool) (x : X) (φ : Fr) (s : St) => x = .normal ∧ (Hp s (.app a297 5 :: R) ∧ Fl [(0, (.v (.string p0))), (7, a297), (8, (.v (.int .i64 y299))), (96, (.v (.bool x815)))] φ)) x815) ?_ ?_
                                · have H := hv870
                                  cases hc816 : x800
                                  · have H := cond_f hc816 H
                                    refine Eo.val (x := (.v (.string p0))) rfl rfl rfl rfl ?_
                                    refine Eo.val (x := (.v (.int .i64 y299))) rfl rfl rfl rfl ?_
                                    refine Eo.val (x := (.v (.int .i64 (IntKind.wrap .i64 (y299 + 3))))) rfl rfl rfl rfl ?_
                                    obtain ⟨b817, hvb817, H⟩ := bind_some H
                                    refine Eo.val (op_byteS hvb817 rfl rfl rfl Tryd.underlying9) rfl rfl rfl ?_
                                    obtain ⟨r818, hvr818, H⟩ := bind_some H
                                    refine Eo.call rfl rfl rfl rfl (gdovetailref13_hex_ok hp806 hvr818) ?_
                                    rintro _ σ820 ⟨rfl, hp819⟩
                                    refine Eo.val (x := (.v (.bool (decide (r818 < 0))))) rfl rfl rfl rfl ?_
                                    refine Eo.val (x := (.v (.bool (decide (r818 < 0))))) rfl rfl rfl rfl ?_
                                    refine Eo.nil ?_
                                    obtain rfl := Option.some.inj H
                                    exact And.intro rfl ⟨hp819, (.cons rfl (.cons rfl (.cons rfl (.cons rfl (.nil')))))⟩
                                  · have H := cond_t hc816 H
                                    refine Eo.off rfl rfl rfl ?_
                                    refine Eo.off rfl rfl rfl ?_
                                    refine Eo.off rfl rfl rfl ?_
                                    refine Eo.off rfl rfl rfl ?_
                                    refine Eo.off rfl rfl rfl ?_
                                    refine Eo.off rfl rfl rfl ?_
                                    refine Eo.val (x := (.v (.bool true))) rfl rfl rfl rfl ?_
                                    refine Eo.nil ?_
                                    obtain rfl := Option.some.inj H
                                    exact And.intro rfl ⟨hp806, (.cons rfl (.cons rfl (.cons rfl (.cons rfl (.nil')))))⟩
                                · skip
                                  intro x φ823 σ822 hJ
                                  obtain ⟨rfl, hp821, hf824⟩ := hJ
                                  refine ⟨rfl, Eo.of (F := [(0, (.v (.string p0))), (7, a297), (8, (.v (.int .i64 y299))), (96, (.v (.bool x815)))]) hf824 ?_⟩
                                  refine Eo.nil ?_
                                  refine Ec.cond (t := x815) rfl (fun hc825 => ?_) (fun hc825 => ?_)
                                  · have H := cond_t hc825 H
                                    refine Ec.seq ?_
                                    refine Ec.region ?_
                                    refine Eo.val (x := (.v (.string (ByteArray.mk #[])))) rfl rfl rfl rfl ?_
                                    refine Eo.val (x := (.v (.int .i64 0))) rfl rfl rfl rfl ?_
                                    refine Eo.val (x := (.v (.bool false))) rfl rfl rfl rfl ?_
                                    refine Eo.nil ?_
                                    obtain rfl := Option.some.inj H
                                    refine Ec.ret ?_
                                    refine And.intro rfl (Ret.mk rfl ?_)
                                    exact ⟨rfl, (Hp.drop hp821 0)⟩
                                  · have H := cond_f hc825 H
                                    refine Ec.skip ?_
                                    refine Ec.seq ?_
                                    obtain ⟨x843, hv868, H⟩ := bind_some H
                                    refine Ec.cut (J := (fun (x843 : (List Int)) (x : X) (φ : Fr) (s : St) => x = .normal ∧ (∃ (a844 : A), Sl (rI .u8) a844 x843 ∧ Hp s (.app a844 5 :: R) ∧ Fl [(0, (.v (.string p0))), (7, a844), (8, (.v (.int .i64 y299)))] φ)) x843) ?_ ?_
                                    · have H := hv868
                                      refine Ec.drawn2 (by kernel_rfl) ?_
                                      refine Eo.val (x := a297) rfl rfl rfl rfl ?_
                                      refine Eo.val (x := (.v (.string p0))) rfl rfl rfl rfl ?_
                                      refine Eo.val (x := (.v (.int .i64 y299))) rfl rfl rfl rfl ?_
                                      refine Eo.val (x := (.v (.int .i64 (IntKind.wrap .i64 (y299 + 2))))) rfl rfl rfl rfl ?_
                                      obtain ⟨b846, hvb846, H⟩ := bind_some H
                                      refine Eo.val (op_byteS hvb846 rfl rfl rfl Tryd.underlying9) rfl rfl rfl ?_
                                      obtain ⟨r847, hvr847, H⟩ := bind_some H
                                      refine Eo.call rfl rfl rfl rfl (gdovetailref13_hex_ok hp821 hvr847) ?_
                                      rintro _ σ849 ⟨rfl, hp848⟩
                                      refine Eo.val (x := (.v (.int .i64 (IntKind.wrap .i64 (r847 * 16))))) rfl rfl rfl rfl ?_
                                      refine Eo.val (x := (.v (.string p0))) rfl rfl rfl rfl ?_
                                      refine Eo.val (x := (.v (.int .i64 y299))) rfl rfl rfl rfl ?_
                                      refine Eo.val (x := (.v (.int .i64 (IntKind.wrap .i64 (y299 + 3))))) rfl rfl rfl rfl ?_
                                      obtain ⟨b850, hvb850, H⟩ := bind_some H
                                      refine Eo.val (op_byteS hvb850 rfl rfl rfl Tryd.underlying9) rfl rfl rfl ?_
                                      obtain ⟨r851, hvr851, H⟩ := bind_some H
                                      refine Eo.call rfl rfl rfl rfl (gdovetailref13_hex_ok hp848 hvr851) ?_
                                      rintro _ σ853 ⟨rfl, hp852⟩
                                      refine Eo.val (x := (.v (.int .i64 (IntKind.wrap .i64 ((IntKind.wrap .i64 (r847 * 16)) + r851))))) rfl rfl rfl rfl ?_
                                      refine Eo.val (x := (.v (.int .u8 (IntKind.wrap .u8 (IntKind.wrap .i64 ((IntKind.wrap .i64 (r847 * 16)) + r851)))))) rfl rfl rfl rfl ?_
                                      refine Eo.val (x := (.sl 1 [(.v (.int .u8 (IntKind.wrap .u8 (IntKind.wrap .i64 ((IntKind.wrap .i64 (r847 * 16)) + r851)))))] .ex)) (op_buildS (lay_cons rfl rfl rfl rfl rfl lay_nil) rfl (parts_cons rfl rfl rfl) Tryd.underlying61 rfl rfl rfl rfl (by decide) rfl) rfl rfl rfl ?_
                                      have h857 : Sl (rI .u8) (.sl 1 [(.v (.int .u8 (IntKind.wrap .u8 (IntKind.wrap .i64 ((IntKind.wrap .i64 (r847 * 16)) + r851)))))] .ex) ([(IntKind.wrap .u8 (IntKind.wrap .i64 ((IntKind.wrap .i64 (r847 * 16)) + r851)))] : List Int) := .inr ⟨_, _, rfl, (.cons (c := [(.v (.int .u8 (IntKind.wrap .u8 (IntKind.wrap .i64 ((IntKind.wrap .i64 (r847 * 16)) + r851)))))]) rfl .nil)⟩
                                      have hp856 := Hp.appEx hp852 5 1 [(.v (.int .u8 (IntKind.wrap .u8 (IntKind.wrap .i64 ((IntKind.wrap .i64 (r847 * 16)) + r851)))))]
                                      obtain ⟨l858, hvl858, H⟩ := bind_some H
                                      refine Eo.append hp856 1 rfl h298 (New.of h857) hvl858 rfl rfl rfl rfl rfl rfl rfl Tryd.underlying61 rfl Tryd.underlying61 rfl rfl rfl rfl rfl rfl rfl rfl ?_
                                      intro a859 σ862 h860 hp861
                                      change Hp σ862 (.app (.sl 1 [(.v (.int .u8 (IntKind.wrap .u8 (IntKind.wrap .i64 ((IntKind.wrap .i64 (r847 * 16)) + r851)))))] .ex) 5 :: .app a859 5 :: R) at hp861
                                      refine Eo.val (x := a859) rfl rfl rfl rfl ?_
                                      refine Eo.nil ?_
                                      obtain rfl := Option.some.inj H
                                      exact And.intro rfl (And.intro rfl ⟨a859, h860, (Hp.drop hp861 0), (.cons rfl (.cons rfl (.cons rfl (.nil'))))⟩)
                                    · skip
                                      intro x φ865 σ864 hJ
                                      obtain ⟨rfl, a844, h845, hp863, hf866⟩ := hJ
                                      refine Ec.of (F := [(0, (.v (.string p0))), (7, a844), (8, (.v (.int .i64 y299)))]) hf866 ?_
                                      refine Ec.region ?_
                                      refine Eo.val (x := (.v (.int .i64 y299))) rfl rfl rfl rfl ?_
                                      refine Eo.val (x := (.v (.int .i64 (IntKind.wrap .i64 (y299 + 2))))) rfl rfl rfl rfl ?_
                                      refine Eo.val (x := (.v (.int .i64 (IntKind.wrap .i64 (y299 + 2))))) rfl rfl rfl rfl ?_
                                      refine Eo.nil ?_
                                      obtain rfl := Option.some.inj H
                                      exact And.intro rfl ⟨a844, h845, hp863, (.cons rfl (.cons rfl (.cons rfl (.nil'))))⟩
                            · have H := cond_f hc794 H
                              refine Ec.seq ?_
                              refine Ec.region ?_
                              refine Eo.val (x := (.v (.string (ByteArray.mk #[])))) rfl rfl rfl rfl ?_
                              refine Eo.val (x := (.v (.int .i64 0))) rfl rfl rfl rfl ?_
                              refine Eo.val (x := (.v (.bool false))) rfl rfl rfl rfl ?_
                              refine Eo.nil ?_
                              obtain rfl := Option.some.inj H
                              refine Ec.ret ?_
                              refine And.intro rfl (Ret.mk rfl ?_)
                              exact ⟨rfl, (Hp.drop hp779 0)⟩
                · rcases v882 with ⟨x742, x745⟩ | r879
                  · intro x φ877 σ876 hJ
                    obtain ⟨rfl, a743, h744, hp875, hf878⟩ := hJ
                    refine Ec.of (F := [(0, (.v (.string p0))), (7, a743), (8, (.v (.int .i64 x745)))]) hf878 ?_
                    refine Ec.region ?_
                    refine Eo.val (x := (.v (.int .i64 x745))) rfl rfl rfl rfl ?_
                    refine Eo.val (x := (.v (.int .i64 (IntKind.wrap .i64 (x745 + 2))))) rfl rfl rfl rfl ?_
                    refine Eo.val (x := (.v (.int .i64 (IntKind.wrap .i64 (x745 + 2))))) rfl rfl rfl rfl ?_
                    refine Eo.nil ?_
                    exact Ec.of (.cons rfl (.cons rfl (.cons rfl (.nil')))) (ih ((x742, (IntKind.wrap .i64 (x745 + 2))), a743) _ ⟨h744, hp875⟩ H)
                  · intro x φ880 σ881 hJ
                    obtain rfl := Option.some.inj H
                    obtain ⟨rfl, hr⟩ := hJ
                    exact And.intro rfl hr
    · have H := cond_f hc592 H
      refine Ec.exit ?_
      obtain rfl := Option.some.inj H
      exact And.intro rfl ⟨(Hp.drop hp0 0), (.nil')⟩
  · rcases v884 with _ | r890
    · intro x φ888 σ887 hJ
      obtain ⟨rfl, hp886, hf889⟩ := hJ
      refine Ec.of (F := []) hf889 ?_
      refine Ec.seq ?_
      refine Ec.region ?_
      refine Eo.val (x := (.v (.string (ByteArray.mk #[])))) rfl rfl rfl rfl ?_
      refine Eo.val (x := (.v (.int .i64 0))) rfl rfl rfl rfl ?_
      refine Eo.val (x := (.v (.bool false))) rfl rfl rfl rfl ?_
      refine Eo.nil ?_
      obtain rfl := Option.some.inj H
      refine Ec.ret ?_
      refine Ret.mk rfl ?_
      exact ⟨rfl, hp886⟩
    · intro x φ891 σ892 hJ
      obtain rfl := Option.some.inj H
      obtain ⟨rfl, hr⟩ := hJ
      exact hr

def gdovetailref13_Sign_L1 (N : Nat) (p0 : Int) : Nat → Int → Option (LR Unit Bool)
  | 0, _ => none
  | m + 1, y11 => (cond (decide (y11 < ((([40, 41, 91, 93, 43, 45, 42, 44, 58, 37] : List Int).length : Nat) : Int))) (((atL ([40, 41, 91, 93, 43, 45, 42, 44, 58, 37] : List Int) y11).bind fun x19 => (cond (p0 == x19) (some (.ret true)) (gdovetailref13_Sign_L1 N p0 m (IntKind.wrap .i64 (y11 + 1)))))) (some (.out ())))

def gdovetailref13_Sign (n : Nat) (p0 : Int) : Option (Bool) := ((gdovetailref13_Sign_L1 n p0 n 0).bind fun v => match v with | .out _ => some false | .ret r30 => some r30)

def gdovetailref13_Sign_post (R : List Res) (r : Bool) (x : A) (s : St) : Prop := x = (.v (.bool r)) ∧ Hp s (R)

theorem gdovetailref13_Sign_ok {n : Nat} {p0 : Int} {R : List Res} {σ : St} (hp : Hp σ R) {r : Bool} (H : gdovetailref13_Sign n p0 = some r) : Ca cfg 26 [(.v (.int .u8 p0))] σ (gdovetailref13_Sign_post R r) := by
  unfold gdovetailref13_Sign at H
  refine Ca.enterL (G := [(0, (.v (.int .u8 p0)))]) Tryd.func26 rfl rfl rfl rfl ?_
  refine Ec.seq ?_
  refine Ec.region ?_
  refine Eo.val (x := (.v (.bool false))) rfl rfl rfl rfl ?_
  refine Eo.nil ?_
  refine Ec.seq ?_
  refine Ec.seq ?_
  refine Ec.region ?_
  refine Eo.val (x := (.sl 1 [(.v (.int .u8 40)), (.v (.int .u8 41)), (.v (.int .u8 91)), (.v (.int .u8 93)), (.v (.int .u8 43)), (.v (.int .u8 45)), (.v (.int .u8 42)), (.v (.int .u8 44)), (.v (.int .u8 58)), (.v (.int .u8 37))] .ex)) (op_buildS (lay_cons rfl rfl rfl rfl rfl (lay_cons rfl rfl rfl rfl rfl (lay_cons rfl rfl rfl rfl rfl (lay_cons rfl rfl rfl rfl rfl (lay_cons rfl rfl rfl rfl rfl (lay_cons rfl rfl rfl rfl rfl (lay_cons rfl rfl rfl rfl rfl (lay_cons rfl rfl rfl rfl rfl (lay_cons rfl rfl rfl rfl rfl (lay_cons rfl rfl rfl rfl rfl lay_nil)))))))))) rfl (parts_cons rfl rfl (parts_cons rfl rfl (parts_cons rfl rfl (parts_cons rfl rfl (parts_cons rfl rfl (parts_cons rfl rfl (parts_cons rfl rfl (parts_cons rfl rfl (parts_cons rfl rfl (parts_cons rfl rfl rfl)))))))))) Tryd.underlying61 rfl rfl rfl rfl (by decide) rfl) rfl rfl rfl ?_
  have h4 : Sl (rI .u8) (.sl 1 [(.v (.int .u8 40)), (.v (.int .u8 41)), (.v (.int .u8 91)), (.v (.int .u8 93)), (.v (.int .u8 43)), (.v (.int .u8 45)), (.v (.int .u8 42)), (.v (.int .u8 44)), (.v (.int .u8 58)), (.v (.int .u8 37))] .ex) ([40, 41, 91, 93, 43, 45, 42, 44, 58, 37] : List Int) := .inr ⟨_, _, rfl, (.cons (c := [(.v (.int .u8 40))]) rfl (.cons (c := [(.v (.int .u8 41))]) rfl (.cons (c := [(.v (.int .u8 91))]) rfl (.cons (c := [(.v (.int .u8 93))]) rfl (.cons (c := [(.v (.int .u8 43))]) rfl (.cons (c := [(.v (.int .u8 45))]) rfl (.cons (c := [(.v (.int .u8 42))]) rfl (.cons (c := [(.v (.int .u8 44))]) rfl (.cons (c := [(.v (.int .u8 58))]) rfl (.cons (c := [(.v (.int .u8 37))]) rfl .nil))))))))))⟩
  have hp3 := Hp.appEx hp 5 1 [(.v (.int .u8 40)), (.v (.int .u8 41)), (.v (.int .u8 91)), (.v (.int .u8 93)), (.v (.int .u8 43)), (.v (.int .u8 45)), (.v (.int .u8 42)), (.v (.int .u8 44)), (.v (.int .u8 58)), (.v (.int .u8 37))]
  refine Eo.val (x := (.sl 1 [(.v (.int .u8 40)), (.v (.int .u8 41)), (.v (.int .u8 91)), (.v (.int .u8 93)), (.v (.int .u8 43)), (.v (.int .u8 45)), (.v (.int .u8 42)), (.v (.int .u8 44)), (.v (.int .u8 58)), (.v (.int .u8 37))] .ex)) rfl rfl rfl rfl ?_
  refine Eo.val (x := (.v (.int .i64 ((([40, 41, 91, 93, 43, 45, 42, 44, 58, 37] : List Int).length : Nat) : Int)))) (op_lenL h4 rfl rfl rfl rfl rfl Tryd.underlying61) rfl rfl rfl ?_
  refine Eo.val (x := (.v (.int .i64 0))) rfl rfl rfl rfl ?_
  refine Eo.nil ?_
  refine Ec.block ?_
  obtain ⟨v24, hv25, H⟩ := bind_some H
  refine Ec.cut (J := (fun (v : LR Unit Bool) (x : X) (φ : Fr) (s : St) => match v with | .out _ => x = (.exit 0) ∧ (Hp s (R) ∧ Fl [] φ) | .ret r => x = .ret ∧ Ret cfg Tryd.f26 (gdovetailref13_Sign_post R r) .ret φ s) v24) (Ec.weak (.cons rfl (.cons rfl (.cons rfl (.cons rfl (.nil'))))) (Ec.loopF (f := (fun m (i : Int × Unit) => gdovetailref13_Sign_L1 n p0 m i.1)) (G := (fun (i : Int × Unit) => ([(0, (.v (.int .u8 p0))), (6, (.sl 1 [(.v (.int .u8 40)), (.v (.int .u8 41)), (.v (.int .u8 91)), (.v (.int .u8 93)), (.v (.int .u8 43)), (.v (.int .u8 45)), (.v (.int .u8 42)), (.v (.int .u8 44)), (.v (.int .u8 58)), (.v (.int .u8 37))] .ex)), (7, (.v (.int .i64 ((([40, 41, 91, 93, 43, 45, 42, 44, 58, 37] : List Int).length : Nat) : Int)))), (8, (.v (.int .i64 i.1)))] : List (Nat × A)))) (I := (fun (i : Int × Unit) (s : St) => Hp s (.app (.sl 1 [(.v (.int .u8 40)), (.v (.int .u8 41)), (.v (.int .u8 91)), (.v (.int .u8 93)), (.v (.int .u8 43)), (.v (.int .u8 45)), (.v (.int .u8 42)), (.v (.int .u8 44)), (.v (.int .u8 58)), (.v (.int .u8 37))] .ex) 5 :: R))) (J := (fun (v : LR Unit Bool) (x : X) (φ : Fr) (s : St) => match v with | .out _ => x = (.exit 0) ∧ (Hp s (R) ∧ Fl [] φ) | .ret r => x = .ret ∧ Ret cfg Tryd.f26 (gdovetailref13_Sign_post R r) .ret φ s)) (fun _ => rfl) ?_ n (0, ()) _ v24 hp3 hv25)) ?_
  · rintro m ⟨y11, _⟩ σ0 v hp0 H ih
    change gdovetailref13_Sign_L1 n p0 (m + 1) y11 = some v at H
    rw [gdovetailref13_Sign_L1] at H
    change Ec _ _ _ [(0, (.v (.int .u8 p0))), (6, (.sl 1 [(.v (.int .u8 40)), (.v (.int .u8 41)), (.v (.int .u8 91)), (.v (.int .u8 93)), (.v (.int .u8 43)), (.v (.int .u8 45)), (.v (.int .u8 42)), (.v (.int .u8 44)), (.v (.int .u8 58)), (.v (.int .u8 37))] .ex)), (7, (.v (.int .i64 ((([40, 41, 91, 93, 43, 45, 42, 44, 58, 37] : List Int).length : Nat) : Int)))), (8, (.v (.int .i64 y11)))] σ0 _
    refine Ec.seq ?_
    refine Ec.region ?_
    refine Eo.val (x := (.v (.bool (decide (y11 < ((([40, 41, 91, 93, 43, 45, 42, 44, 58, 37] : List Int).length : Nat) : Int)))))) rfl rfl rfl rfl ?_
    refine Eo.nil ?_
    refine Ec.seq ?_
    refine Ec.cond (t := (decide (y11 < ((([40, 41, 91, 93, 43, 45, 42, 44, 58, 37] : List Int).length : Nat) : Int)))) rfl (fun hc18 => ?_) (fun hc18 => ?_)
    · have H := cond_t hc18 H
      refine Ec.skip ?_
      refine Ec.seq ?_
      refine Ec.block ?_
      refine Ec.seq ?_
      refine Ec.region ?_
      obtain ⟨x19, hvx19, H⟩ := bind_some H
      refine Eo.idx h4 hvx19 rfl rfl rfl Tryd.underlying61 rfl rfl rfl rfl ?_
      rintro cs20 p21 _ hat22 rfl
      refine Eo.val (x := (.v (.int .u8 x19))) (op_loadSp hat22 0 rfl rfl rfl rfl rfl) rfl rfl rfl ?_
      refine Eo.val (x := (.v (.int .u8 x19))) rfl rfl rfl rfl ?_
      refine Eo.nil ?_
      refine Ec.seq ?_
      refine Ec.region ?_
      refine Eo.val (x := (.v (.int .u8 p0))) rfl rfl rfl rfl ?_
      refine Eo.val (x := (.v (.int .u8 x19))) rfl rfl rfl rfl ?_
      refine Eo.val (x := (.v (.bool (p0 == x19)))) rfl rfl rfl rfl ?_
      refine Eo.nil ?_
      refine Ec.cond (t := (p0 == x19)) rfl (fun hc23 => ?_) (fun hc23 => ?_)
      · have H := cond_t hc23 H
        refine Ec.seq ?_
        refine Ec.region ?_
        refine Eo.val (x := (.v (.bool true))) rfl rfl rfl rfl ?_
        refine Eo.nil ?_
        obtain rfl := Option.some.inj H
        refine Ec.ret ?_
        refine And.intro rfl (Ret.mk rfl ?_)
        exact ⟨rfl, (Hp.drop hp0 0)⟩
      · have H := cond_f hc23 H
        refine Ec.skip ?_
        refine Ec.region ?_
        refine Eo.val (x := (.v (.int .i64 (IntKind.wrap .i64 (y11 + 1))))) rfl rfl rfl rfl ?_
        refine Eo.val (x := (.v (.int .i64 (IntKind.wrap .i64 (y11 + 1))))) rfl rfl rfl rfl ?_
        refine Eo.nil ?_
        exact Ec.of (.cons rfl (.cons rfl (.cons rfl (.cons rfl (.nil'))))) (ih ((IntKind.wrap .i64 (y11 + 1)), ()) _ hp0 H)
    · have H := cond_f hc18 H
      refine Ec.exit ?_
      obtain rfl := Option.some.inj H
      exact And.intro rfl ⟨(Hp.drop hp0 0), (.nil')⟩
  · rcases v24 with _ | r30
    · intro x φ28 σ27 hJ
      obtain ⟨rfl, hp26, hf29⟩ := hJ
      refine Ec.of (F := []) hf29 ?_
      refine Ec.seq ?_
      refine Ec.region ?_
      refine Eo.val (x := (.v (.bool false))) rfl rfl rfl rfl ?_
      refine Eo.nil ?_
      obtain rfl := Option.some.inj H
      refine Ec.ret ?_
      refine Ret.mk rfl ?_
      exact ⟨rfl, hp26⟩
    · intro x φ31 σ32 hJ
      obtain rfl := Option.some.inj H
      obtain ⟨rfl, hr⟩ := hJ
      exact hr

def gdovetailref12_Letter (n : Nat) (p0 : Int) : Option (Bool) := some ((((((decide (p0 ≥ 65)) && (decide (p0 ≤ 90))) || ((decide (p0 ≥ 97)) && (decide (p0 ≤ 122)))) || (p0 == 95)) || (p0 == 46)) || (p0 == 36))

def gdovetailref12_Letter_post (R : List Res) (r : Bool) (x : A) (s : St) : Prop := x = (.v (.bool r)) ∧ Hp s (R)

theorem gdovetailref12_Letter_ok {n : Nat} {p0 : Int} {R : List Res} {σ : St} (hp : Hp σ R) {r : Bool} (H : gdovetailref12_Letter n p0 = some r) : Ca cfg 49 [(.v (.int .u8 p0))] σ (gdovetailref12_Letter_post R r) := by
  unfold gdovetailref12_Letter at H
  refine Ca.enterL (G := [(0, (.v (.int .u8 p0)))]) Tryd.func49 rfl rfl rfl rfl ?_
  refine Ec.seq ?_
  refine Ec.region ?_
  refine Eo.val (x := (.v (.bool false))) rfl rfl rfl rfl ?_
  refine Eo.nil ?_
  refine Ec.seq ?_
  refine Ec.region ?_
  refine Eo.val (x := (.v (.int .u8 p0))) rfl rfl rfl rfl ?_
  refine Eo.val (x := (.v (.bool (decide (p0 ≥ 65))))) rfl rfl rfl rfl ?_
  refine Eo.val (x := (.v (.bool (decide (p0 ≥ 65))))) rfl rfl rfl rfl ?_
  refine Eo.cutF 3 [(0, (.v (.int .u8 p0))), (2, (.v (.bool false))), (8, (.v (.bool ((decide (p0 ≥ 65)) && (decide (p0 ≤ 90))))))] ?_ ?_
  · skip
    cases hc3 : (decide (p0 ≥ 65))
    · skip
      refine Eo.off rfl rfl rfl ?_
      refine Eo.off rfl rfl rfl ?_
      refine Eo.val (x := (.v (.bool false))) rfl rfl rfl rfl ?_
      exact Eo.nil (And.intro rfl (And.intro rfl (.cons rfl (.cons rfl (.cons rfl (.nil'))))))
    · skip
      refine Eo.val (x := (.v (.int .u8 p0))) rfl rfl rfl rfl ?_
      refine Eo.val (x := (.v (.bool (decide (p0 ≤ 90))))) rfl rfl rfl rfl ?_
      refine Eo.val (x := (.v (.bool (decide (p0 ≤ 90))))) rfl rfl rfl rfl ?_
      exact Eo.nil (And.intro rfl (And.intro rfl (.cons rfl (.cons rfl (.cons rfl (.nil'))))))
  · skip
    refine Eo.val (x := (.v (.bool ((decide (p0 ≥ 65)) && (decide (p0 ≤ 90)))))) rfl rfl rfl rfl ?_
    refine Eo.cutF 7 [(0, (.v (.int .u8 p0))), (2, (.v (.bool false))), (16, (.v (.bool (((decide (p0 ≥ 65)) && (decide (p0 ≤ 90))) || ((decide (p0 ≥ 97)) && (decide (p0 ≤ 122)))))))] ?_ ?_
    · skip
      cases hc10 : ((decide (p0 ≥ 65)) && (decide (p0 ≤ 90)))
      · skip
        refine Eo.val (x := (.v (.int .u8 p0))) rfl rfl rfl rfl ?_
        refine Eo.val (x := (.v (.bool (decide (p0 ≥ 97))))) rfl rfl rfl rfl ?_
        refine Eo.val (x := (.v (.bool (decide (p0 ≥ 97))))) rfl rfl rfl rfl ?_
        cases hc11 : (decide (p0 ≥ 97))
        · skip
          refine Eo.off rfl rfl rfl ?_
          refine Eo.off rfl rfl rfl ?_
          refine Eo.val (x := (.v (.bool false))) rfl rfl rfl rfl ?_
          refine Eo.val (x := (.v (.bool false))) rfl rfl rfl rfl ?_
          exact Eo.nil (And.intro rfl (And.intro rfl (.cons rfl (.cons rfl (.cons rfl (.nil'))))))
        · skip
          refine Eo.val (x := (.v (.int .u8 p0))) rfl rfl rfl rfl ?_
          refine Eo.val (x := (.v (.bool (decide (p0 ≤ 122))))) rfl rfl rfl rfl ?_
          refine Eo.val (x := (.v (.bool (decide (p0 ≤ 122))))) rfl rfl rfl rfl ?_
          refine Eo.val (x := (.v (.bool (decide (p0 ≤ 122))))) rfl rfl rfl rfl ?_
          exact Eo.nil (And.intro rfl (And.intro rfl (.cons rfl (.cons rfl (.cons rfl (.nil'))))))
      · skip
        refine Eo.off rfl rfl rfl ?_
        refine Eo.off rfl rfl rfl ?_
        refine Eo.off rfl rfl rfl ?_
        refine Eo.off rfl rfl rfl ?_
        refine Eo.off rfl rfl rfl ?_
        refine Eo.off rfl rfl rfl ?_
        refine Eo.val (x := (.v (.bool true))) rfl rfl rfl rfl ?_
        exact Eo.nil (And.intro rfl (And.intro rfl (.cons rfl (.cons rfl (.cons rfl (.nil'))))))
    · skip
      refine Eo.val (x := (.v (.bool (((decide (p0 ≥ 65)) && (decide (p0 ≤ 90))) || ((decide (p0 ≥ 97)) && (decide (p0 ≤ 122))))))) rfl rfl rfl rfl ?_
      refine Eo.cutF 3 [(0, (.v (.int .u8 p0))), (2, (.v (.bool false))), (20, (.v (.bool ((((decide (p0 ≥ 65)) && (decide (p0 ≤ 90))) || ((decide (p0 ≥ 97)) && (decide (p0 ≤ 122)))) || (p0 == 95)))))] ?_ ?_
      · skip
        cases hc16 : (((decide (p0 ≥ 65)) && (decide (p0 ≤ 90))) || ((decide (p0 ≥ 97)) && (decide (p0 ≤ 122))))
        · skip
          refine Eo.val (x := (.v (.int .u8 p0))) rfl rfl rfl rfl ?_
          refine Eo.val (x := (.v (.bool (p0 == 95)))) rfl rfl rfl rfl ?_
          refine Eo.val (x := (.v (.bool (p0 == 95)))) rfl rfl rfl rfl ?_
          exact Eo.nil (And.intro rfl (And.intro rfl (.cons rfl (.cons rfl (.cons rfl (.nil'))))))
        · skip
          refine Eo.off rfl rfl rfl ?_
          refine Eo.off rfl rfl rfl ?_
          refine Eo.val (x := (.v (.bool true))) rfl rfl rfl rfl ?_
          exact Eo.nil (And.intro rfl (And.intro rfl (.cons rfl (.cons rfl (.cons rfl (.nil'))))))
      · skip
        refine Eo.val (x := (.v (.bool ((((decide (p0 ≥ 65)) && (decide (p0 ≤ 90))) || ((decide (p0 ≥ 97)) && (decide (p0 ≤ 122)))) || (p0 == 95))))) rfl rfl rfl rfl ?_
        refine Eo.cutF 3 [(0, (.v (.int .u8 p0))), (2, (.v (.bool false))), (24, (.v (.bool (((((decide (p0 ≥ 65)) && (decide (p0 ≤ 90))) || ((decide (p0 ≥ 97)) && (decide (p0 ≤ 122)))) || (p0 == 95)) || (p0 == 46)))))] ?_ ?_
        · skip
          cases hc21 : ((((decide (p0 ≥ 65)) && (decide (p0 ≤ 90))) || ((decide (p0 ≥ 97)) && (decide (p0 ≤ 122)))) || (p0 == 95))
          · skip
            refine Eo.val (x := (.v (.int .u8 p0))) rfl rfl rfl rfl ?_
            refine Eo.val (x := (.v (.bool (p0 == 46)))) rfl rfl rfl rfl ?_
            refine Eo.val (x := (.v (.bool (p0 == 46)))) rfl rfl rfl rfl ?_
            exact Eo.nil (And.intro rfl (And.intro rfl (.cons rfl (.cons rfl (.cons rfl (.nil'))))))
          · skip
            refine Eo.off rfl rfl rfl ?_
            refine Eo.off rfl rfl rfl ?_
            refine Eo.val (x := (.v (.bool true))) rfl rfl rfl rfl ?_
            exact Eo.nil (And.intro rfl (And.intro rfl (.cons rfl (.cons rfl (.cons rfl (.nil'))))))
        · skip
          refine Eo.val (x := (.v (.bool (((((decide (p0 ≥ 65)) && (decide (p0 ≤ 90))) || ((decide (p0 ≥ 97)) && (decide (p0 ≤ 122)))) || (p0 == 95)) || (p0 == 46))))) rfl rfl rfl rfl ?_
          refine Eo.cutF 3 [(2, (.v (.bool false))), (28, (.v (.bool ((((((decide (p0 ≥ 65)) && (decide (p0 ≤ 90))) || ((decide (p0 ≥ 97)) && (decide (p0 ≤ 122)))) || (p0 == 95)) || (p0 == 46)) || (p0 == 36)))))] ?_ ?_
          · skip
            cases hc26 : (((((decide (p0 ≥ 65)) && (decide (p0 ≤ 90))) || ((decide (p0 ≥ 97)) && (decide (p0 ≤ 122)))) || (p0 == 95)) || (p0 == 46))
            · skip
              refine Eo.val (x := (.v (.int .u8 p0))) rfl rfl rfl rfl ?_
              refine Eo.val (x := (.v (.bool (p0 == 36)))) rfl rfl rfl rfl ?_
              refine Eo.val (x := (.v (.bool (p0 == 36)))) rfl rfl rfl rfl ?_
              exact Eo.nil (And.intro rfl (And.intro rfl (.cons rfl (.cons rfl (.nil')))))
            · skip
              refine Eo.off rfl rfl rfl ?_
              refine Eo.off rfl rfl rfl ?_
              refine Eo.val (x := (.v (.bool true))) rfl rfl rfl rfl ?_
              exact Eo.nil (And.intro rfl (And.intro rfl (.cons rfl (.cons rfl (.nil')))))
          · skip
            refine Eo.val (x := (.v (.bool ((((((decide (p0 ≥ 65)) && (decide (p0 ≤ 90))) || ((decide (p0 ≥ 97)) && (decide (p0 ≤ 122)))) || (p0 == 95)) || (p0 == 46)) || (p0 == 36))))) rfl rfl rfl rfl ?_
            refine Eo.nil ?_
            obtain rfl := Option.some.inj H
            refine Ec.ret ?_
            refine Ret.mk rfl ?_
            exact ⟨rfl, hp⟩

def gdovetailref12_Digit (n : Nat) (p0 : Int) : Option (Bool) := some ((decide (p0 ≥ 48)) && (decide (p0 ≤ 57)))

def gdovetailref12_Digit_post (R : List Res) (r : Bool) (x : A) (s : St) : Prop := x = (.v (.bool r)) ∧ Hp s (R)
end Go.DM
