/- Typed functions of the program's functions, and the walks that show that the calls come to them. No condition. -/
import Derived.Test.YtljjgaakmaifkaaGreatDoorRuleU
import Derived.Test.YtljjgaakmaifkaaGreatDoorProg
namespace Go.DM
open Go Go.Proofs
set_option maxRecDepth 100000
set_option maxHeartbeats 1000000
noncomputable def cfg : Cfg := { P := Tryz.prog, glob := fun _ => none, prim := fun f => if f = 30 then some itoaG else if f = 55 then some (parseUintG 117) else if f = 56 then some toLowerG else if f = 57 then some (atoiG 117) else if f = 42 then some (sortedG 49) else none }
set_option maxRecDepth 1000000 in
theorem galive1 (x0 : Blk) : Ca cfg 5 [] (σ0.push x0) (fun v s => v = .v (.bool true) ∧ Hp s [.blk 0 x0]) := Ca.alive1 (k := 1000) (by kernel_rfl)

set_option maxRecDepth 1000000 in
theorem galive2 (x0 x1 : Blk) : Ca cfg 5 [] ((σ0.push x0).push x1) (fun v s => v = .v (.bool true) ∧ Hp s [.blk 1 x1, .blk 0 x0]) := Ca.alive2 (k := 1000) (by kernel_rfl)

theorem gmapsKeys43_ok {b : Nat} {R : List Res} {σ : St} (hp : Hp σ R) : Ca cfg 43 [(.mp b)] σ (fun x s => ∃ (bk : Nat), x = (.fn (.func 49) [] [(.ptr bk 0)]) ∧ Hp s (.blk bk (.cells [(.mp b)] 65) :: R)) := by
  refine Ca.enterL (G := [(0, (.mp b))]) Tryz.func43 rfl rfl rfl rfl ?_
  refine Ec.seq ?_
  refine Ec.region ?_
  refine Eo.box hp rfl rfl rfl rfl rfl rfl rfl ?_
  intro bk σ1 hp1
  refine Eo.val (x := (.v .nilFunc)) rfl rfl rfl rfl ?_
  refine Eo.nil ?_
  refine Ec.seq ?_
  refine Ec.region ?_
  refine Eo.val (x := (.fn (.func 49) [] [(.ptr bk 0)])) rfl rfl rfl rfl ?_
  refine Eo.val (x := (.fn (.func 49) [] [(.ptr bk 0)])) rfl rfl rfl rfl ?_
  refine Eo.nil ?_
  refine Ec.ret ?_
  refine Ret.mk rfl ?_
  exact ⟨bk, rfl, hp1⟩

theorem prim30_ok {p0 : Int} {R : List Res} {σ : St} (hp : Hp σ R) {r : ByteArray} (H : itoaT p0 = some r) : Ca cfg 30 [(.v (.int .i64 p0))] σ (fun x σ' => x = (.v (.string r)) ∧ Hp σ' (R)) := itoaT_ok (C := cfg) (f := 30) rfl hp H
theorem prim55_ok {p0 : ByteArray} {p1 : Int} {p2 : Int} {R : List Res} {σ : St} (hp : Hp σ R) {r : (Int × Bool)} (H : parseUintT p0 p1 p2 = some r) : Ca cfg 55 [(.v (.string p0)), (.v (.int .i64 p1)), (.v (.int .i64 p2))] σ (fun x σ' => x = (.tup [(.v (.int .u64 r.1)), (errA 117 r.2)]) ∧ Hp σ' (R)) := parseUintT_ok (C := cfg) (f := 55) rfl hp H
theorem prim56_ok {p0 : ByteArray} {R : List Res} {σ : St} (hp : Hp σ R) {r : ByteArray} (H : toLowerT p0 = some r) : Ca cfg 56 [(.v (.string p0))] σ (fun x σ' => x = (.v (.string r)) ∧ Hp σ' (R)) := toLowerT_ok (C := cfg) (f := 56) rfl hp H
theorem prim57_ok {p0 : ByteArray} {R : List Res} {σ : St} (hp : Hp σ R) {r : (Int × Bool)} (H : atoiT p0 = some r) : Ca cfg 57 [(.v (.string p0))] σ (fun x σ' => x = (.tup [(.v (.int .i64 r.1)), (errA 117 r.2)]) ∧ Hp σ' (R)) := atoiT_ok (C := cfg) (f := 57) rfl hp H
/-! strings.Builder -/
theorem bld_copyCheck {b : Nat} {a0 a : A} {R : List Res} {σ : St} (h0 : AddrOk a0 b) (hp : Hp σ (.blk b (.cells [a0, a] 45) :: R)) :
    Ca cfg 29 [.ptr b 0] σ (fun x σ' => x = .tup [] ∧ Hp σ' (.blk b (.cells [.ptr b 0, a] 45) :: R)) := by
  refine Ca.enterL (G := [(0, .ptr b 0)]) Tryz.func29 rfl rfl rfl rfl ?_
  refine Ec.seq (Ec.region ?_)
  refine Eo.val (x := .ptr b 0) rfl rfl rfl rfl ?_
  refine Eo.val (x := .ptr b 0) rfl rfl rfl rfl ?_
  refine Eo.val (x := .ptr b 0) rfl rfl rfl rfl ?_
  refine Eo.val (x := a0) (op_loadB hp 0 rfl rfl rfl rfl) rfl rfl rfl ?_
  rcases h0 with rfl | rfl
  · refine Eo.val (x := .v (.bool true)) rfl rfl rfl rfl ?_
    refine Eo.nil ?_
    refine Ec.cond (t := true) rfl (fun _ => ?_) (fun h => nomatch h)
    refine Ec.region ?_
    refine Eo.val (x := .ptr b 0) rfl rfl rfl rfl ?_
    refine Eo.val (x := .ptr b 0) rfl rfl rfl rfl ?_
    refine Eo.val (x := .ptr b 0) (op_toUnsafe hp 0 rfl rfl rfl rfl rfl rfl (by decide) (Nat.zero_lt_succ _)) rfl rfl rfl ?_
    refine Eo.val (x := .ptr b 0) rfl rfl rfl rfl ?_
    refine Eo.val (x := .ptr b 0) (op_fromUnsafe hp 0 rfl rfl rfl rfl rfl rfl (by decide) (by kernel_rfl)) rfl rfl rfl ?_
    refine Eo.val (x := .ptr b 0) rfl rfl rfl rfl ?_
    refine Eo.val (x := .ptr b 0) rfl rfl rfl rfl ?_
    refine Eo.store hp 0 rfl (storeCells_mk rfl rfl rfl rfl rfl rfl) rfl rfl rfl rfl rfl ?_
    intro σ1 hp1
    refine Eo.nil ?_
    exact Ret.mkN rfl ⟨rfl, hp1⟩
  · refine Eo.val (x := .v (.bool false)) rfl rfl rfl rfl ?_
    refine Eo.nil ?_
    refine Ec.cond (t := false) rfl (fun h => nomatch h) (fun _ => ?_)
    refine Ec.seq (Ec.region ?_)
    refine Eo.val (x := .ptr b 0) rfl rfl rfl rfl ?_
    refine Eo.val (x := .ptr b 0) rfl rfl rfl rfl ?_
    refine Eo.val (x := .ptr b 0) rfl rfl rfl rfl ?_
    refine Eo.val (x := .ptr b 0) (op_loadB hp 0 rfl rfl rfl rfl) rfl rfl rfl ?_
    refine Eo.val (x := .ptr b 0) rfl rfl rfl rfl ?_
    refine Eo.val (x := .v (.bool false)) (op_ptrNe rfl rfl rfl rfl rfl) rfl rfl rfl ?_
    refine Eo.nil ?_
    refine Ec.cond (t := false) rfl (fun h => nomatch h) (fun _ => ?_)
    refine Ec.skip ?_
    exact Ret.mkN rfl ⟨rfl, hp⟩
theorem bld_WriteByte {b : Nat} {a0 a : A} {l l' : List Int} {c : Int} {R : List Res} {σ : St} (h0 : AddrOk a0 b) (hb : BufIs a l) (hp : Hp σ (.blk b (.cells [a0, a] 45) :: .app a 5 :: R)) (H : appL 1 l [c] = some l') :
    Ca cfg 70 [.ptr b 0, .v (.int .u8 c)] σ (fun x σ' => ∃ a0' a', x = .v .nilIface ∧ AddrOk a0' b ∧ BufIs a' l' ∧ Hp σ' (.blk b (.cells [a0', a'] 45) :: .app a' 5 :: R)) := by
  refine Ca.enterL (G := [(0, .ptr b 0), (1, .v (.int .u8 c))]) Tryz.func70 rfl rfl rfl rfl ?_
  refine Ec.seq (Ec.region ?_)
  refine Eo.val (x := .v .nilIface) rfl rfl rfl rfl ?_
  refine Eo.nil ?_
  refine Ec.seq (Ec.region ?_)
  refine Eo.val (x := .ptr b 0) rfl rfl rfl rfl ?_
  refine Eo.call rfl rfl rfl rfl (bld_copyCheck h0 hp) ?_
  rintro _ σ1 ⟨rfl, hp1⟩
  refine Eo.nil ?_
  refine Ec.seq (Ec.region ?_)
  refine Eo.val (x := .ptr b 0) rfl rfl rfl rfl ?_
  refine Eo.val (x := .ptr b 0) rfl rfl rfl rfl ?_
  refine Eo.val (x := .ptr b 0) rfl rfl rfl rfl ?_
  refine Eo.val (x := .ptr b (0 + 1)) rfl rfl rfl rfl ?_
  refine Eo.val (x := a) (op_loadB hp1 0 rfl rfl rfl rfl) rfl rfl rfl ?_
  refine Eo.val (x := .v (.int .u8 c)) rfl rfl rfl rfl ?_
  refine Eo.val (x := .sl 1 [.v (.int .u8 c)] .ex) rfl rfl rfl rfl ?_
  have hs : Sl (rI .u8) (.sl 1 [.v (.int .u8 c)] .ex) [c] := .inr ⟨_, _, rfl, .cons (c := [.v (.int .u8 c)]) rfl .nil⟩
  refine Eo.append' hp1 1 rfl hb.1 hb.2 (New.of hs) H rfl rfl rfl rfl rfl rfl rfl Tryz.underlying43 rfl Tryz.underlying43 rfl rfl rfl rfl rfl rfl rfl rfl ?_
  intro a' σ2 h2 h2n hp2
  change Hp σ2 (.blk b (.cells [.ptr b 0, a] 45) :: .app a' 5 :: R) at hp2
  refine Eo.val (x := .ptr b 0) rfl rfl rfl rfl ?_
  refine Eo.val (x := .ptr b (0 + 1)) rfl rfl rfl rfl ?_
  refine Eo.store hp2 0 rfl (storeCells_mk h2.cells rfl rfl (by simp [allOne, h2.isOne]) rfl rfl) rfl rfl rfl rfl rfl ?_
  intro σ3 hp3
  change Hp σ3 (.blk b (.cells [.ptr b 0, a'] 45) :: .app a' 5 :: R) at hp3
  refine Eo.nil ?_
  refine Ec.seq (Ec.region ?_)
  refine Eo.val (x := .v .nilIface) rfl rfl rfl rfl ?_
  refine Eo.nil ?_
  exact Ec.ret (Ret.mk rfl ⟨_, _, rfl, .inr rfl, ⟨h2, h2n⟩, hp3⟩)
theorem bld_WriteString {b : Nat} {a0 a : A} {l l' : List Int} {s : ByteArray} {R : List Res} {σ : St} (h0 : AddrOk a0 b) (hb : BufIs a l) (hp : Hp σ (.blk b (.cells [a0, a] 45) :: .app a 5 :: R)) (H : appL 1 l (bs s) = some l') :
    Ca cfg 17 [.ptr b 0, .v (.string s)] σ (fun x σ' => ∃ a0' a', x = .tup [.v (.int .i64 ((s.size : Nat) : Int)), .v .nilIface] ∧ AddrOk a0' b ∧ BufIs a' l' ∧ Hp σ' (.blk b (.cells [a0', a'] 45) :: .app a' 5 :: R)) := by
  refine Ca.enterL (G := [(0, .ptr b 0), (1, .v (.string s))]) Tryz.func17 rfl rfl rfl rfl ?_
  refine Ec.seq (Ec.region ?_)
  refine Eo.val (x := .v (.int .i64 0)) rfl rfl rfl rfl ?_
  refine Eo.val (x := .v .nilIface) rfl rfl rfl rfl ?_
  refine Eo.nil ?_
  refine Ec.seq (Ec.region ?_)
  refine Eo.val (x := .ptr b 0) rfl rfl rfl rfl ?_
  refine Eo.call rfl rfl rfl rfl (bld_copyCheck h0 hp) ?_
  rintro _ σ1 ⟨rfl, hp1⟩
  refine Eo.nil ?_
  refine Ec.seq (Ec.region ?_)
  refine Eo.val (x := .ptr b 0) rfl rfl rfl rfl ?_
  refine Eo.val (x := .ptr b 0) rfl rfl rfl rfl ?_
  refine Eo.val (x := .ptr b 0) rfl rfl rfl rfl ?_
  refine Eo.val (x := .ptr b (0 + 1)) rfl rfl rfl rfl ?_
  refine Eo.val (x := a) (op_loadB hp1 0 rfl rfl rfl rfl) rfl rfl rfl ?_
  refine Eo.val (x := .v (.string s)) rfl rfl rfl rfl ?_
  refine Eo.append' hp1 1 rfl hb.1 hb.2 New.str H rfl rfl rfl rfl rfl rfl rfl Tryz.underlying9 rfl Tryz.underlying43 rfl rfl rfl rfl rfl rfl rfl rfl ?_
  intro a' σ2 h2 h2n hp2
  change Hp σ2 (.blk b (.cells [.ptr b 0, a] 45) :: .app a' 5 :: R) at hp2
  refine Eo.val (x := .ptr b 0) rfl rfl rfl rfl ?_
  refine Eo.val (x := .ptr b (0 + 1)) rfl rfl rfl rfl ?_
  refine Eo.store hp2 0 rfl (storeCells_mk h2.cells rfl rfl (by simp [allOne, h2.isOne]) rfl rfl) rfl rfl rfl rfl rfl ?_
  intro σ3 hp3
  change Hp σ3 (.blk b (.cells [.ptr b 0, a'] 45) :: .app a' 5 :: R) at hp3
  refine Eo.nil ?_
  refine Ec.seq (Ec.region ?_)
  refine Eo.val (x := .v (.string s)) rfl rfl rfl rfl ?_
  refine Eo.val (x := .v (.int .i64 ((s.size : Nat) : Int))) (op_len rfl rfl rfl rfl rfl Tryz.underlying9) rfl rfl rfl ?_
  refine Eo.val (x := .v (.int .i64 ((s.size : Nat) : Int))) rfl rfl rfl rfl ?_
  refine Eo.val (x := .v .nilIface) rfl rfl rfl rfl ?_
  refine Eo.nil ?_
  exact Ec.ret (Ret.mk rfl ⟨_, _, rfl, .inr rfl, ⟨h2, h2n⟩, hp3⟩)
theorem bld_String {b : Nat} {a0 a : A} {l : List Int} {r : ByteArray} {R : List Res} {σ : St} (_ : AddrOk a0 b) (hb : BufIs a l) (hp : Hp σ (.blk b (.cells [a0, a] 45) :: .app a 5 :: R)) (H : strT l = some r) :
    Ca cfg 19 [.ptr b 0] σ (fun x σ' => x = .v (.string r) ∧ Hp σ' (.blk b (.cells [a0, a] 45) :: .app a 5 :: R)) := by
  refine Ca.enterL (G := [(0, .ptr b 0)]) Tryz.func19 rfl rfl rfl rfl ?_
  obtain ⟨hl, rfl⟩ := strT_some H
  refine Ec.seq (Ec.region ?_)
  refine Eo.val (x := .v (.string (ByteArray.mk #[]))) rfl rfl rfl rfl ?_
  refine Eo.nil ?_
  refine Ec.seq ?_
  refine Ec.cut (J := fun x φ s => x = .normal ∧ (Hp s (.blk b (.cells [a0, a] 45) :: .app a 5 :: R) ∧ Fl [(2, .v (.string (ofB l)))] φ)) ?_ ?_
  · refine Ec.drawn (by kernel_rfl) ?_
    refine Eo.val (x := .ptr b 0) rfl rfl rfl rfl ?_
    refine Eo.val (x := .ptr b 0) rfl rfl rfl rfl ?_
    refine Eo.val (x := .ptr b (0 + 1)) rfl rfl rfl rfl ?_
    refine Eo.val (x := a) (op_loadB hp 0 rfl rfl rfl rfl) rfl rfl rfl ?_
    rcases hb.str hp with ⟨rfl, rfl⟩ | ⟨cs, id, rfl, hcs, hne, hlv⟩
    · refine Eo.val (x := .v (.pointer none)) (op_sliceDataNil rfl rfl rfl rfl) rfl rfl rfl ?_
      refine Eo.val (x := .ptr b 0) rfl rfl rfl rfl ?_
      refine Eo.val (x := .ptr b 0) rfl rfl rfl rfl ?_
      refine Eo.val (x := .ptr b (0 + 1)) rfl rfl rfl rfl ?_
      refine Eo.val (x := nilS) (op_loadB hp 0 rfl rfl rfl rfl) rfl rfl rfl ?_
      refine Eo.val (x := .v (.int .i64 0)) (op_lenNil rfl rfl rfl rfl rfl Tryz.underlying43) rfl rfl rfl ?_
      refine Eo.val (x := .v (.string (ofB []))) (op_unsafeStringNil rfl rfl rfl rfl rfl rfl) rfl rfl rfl ?_
      refine Eo.val (x := .v (.string (ofB []))) rfl rfl rfl rfl ?_
      exact Eo.nil (And.intro rfl (And.intro rfl ⟨hp, .cons rfl .nil'⟩))
    · refine Eo.val (x := .sp cs 0 (.gr id)) (op_sliceData rfl rfl rfl rfl hne) rfl rfl rfl ?_
      refine Eo.val (x := .ptr b 0) rfl rfl rfl rfl ?_
      refine Eo.val (x := .ptr b 0) rfl rfl rfl rfl ?_
      refine Eo.val (x := .ptr b (0 + 1)) rfl rfl rfl rfl ?_
      refine Eo.val (x := .sl 1 cs (.gr id)) (op_loadB hp 0 rfl rfl rfl rfl) rfl rfl rfl ?_
      refine Eo.val (x := .v (.int .i64 ((l.length : Nat) : Int))) (op_lenL hb.1 rfl rfl rfl rfl rfl Tryz.underlying43) rfl rfl rfl ?_
      refine Eo.val (x := .v (.string (ofB l))) (op_unsafeString hcs hne hl hlv rfl rfl rfl rfl rfl rfl Tryz.underlying63 Tryz.underlying5 rfl rfl) rfl rfl rfl ?_
      refine Eo.val (x := .v (.string (ofB l))) rfl rfl rfl rfl ?_
      exact Eo.nil (And.intro rfl (And.intro rfl ⟨hp, .cons rfl .nil'⟩))
  · intro x φ s hJ
    obtain ⟨rfl, hp1, hf⟩ := hJ
    refine Ec.of hf ?_
    exact Ec.ret (Ret.mk rfl ⟨rfl, hp1⟩)
structure TLin where
  f_Syms : (List ByteArray)
  f_Times : (List Int)
  f_Off : Int
  deriving DecidableEq

def rTLin : RepT TLin := ⟨3, fun x c => ∃ (a0 a1 : A), c = [a0, a1, .v (.int .i64 x.f_Off)] ∧ Sl rS a0 x.f_Syms ∧ Sl (rI .i64) a1 x.f_Times, by rintro x c ⟨a0, a1, rfl, _, _⟩; rfl, by decide, by rintro x c ⟨a0, a1, rfl, h0, h1⟩; simp [allOne, h0.isOne, h1.isOne]⟩

structure Texpr_sum where
  f_times : (List (ByteArray × Int))
  f_off : Int
  deriving DecidableEq

structure Texpr_fault where
  f_at : Int
  f_e : Int
  deriving DecidableEq

def rTexpr_fault : RepT Texpr_fault := ⟨2, fun x c => c = [.v (.int .i64 x.f_at), .v (.int .i64 x.f_e)], by rintro x c rfl; rfl, by decide, by rintro x c rfl; simp [allOne]⟩


def gslices_Index_36_L1 (N : Nat) (p0 : (List Int)) (p1 : Int) : Nat → Int → Option (LR Unit Int)
  | 0, _ => none
  | m + 1, y9 => (cond (decide (y9 < ((p0.length : Nat) : Int))) (((atL p0 y9).bind fun x17 => (cond (p1 == x17) (some (.ret y9)) (gslices_Index_36_L1 N p0 p1 m (IntKind.wrap .i64 (y9 + 1)))))) (some (.out ())))

def gslices_Index_36 (n : Nat) (p0 : (List Int)) (p1 : Int) : Option (Int) := ((gslices_Index_36_L1 n p0 p1 n 0).bind fun v => match v with | .out _ => some (-1) | .ret r28 => some r28)

def gslices_Index_36_post (R : List Res) (r : Int) (x : A) (s : St) : Prop := x = (.v (.int .i64 r)) ∧ Hp s (R)

theorem gslices_Index_36_ok {n : Nat} {p0 : (List Int)} {p1 : Int} {a1 : A} {R : List Res} {σ : St} (h2 : Sl (rI .i64) a1 p0) (hp : Hp σ R) {r : Int} (H : gslices_Index_36 n p0 p1 = some r) : Ca cfg 36 [a1, (.v (.int .i64 p1))] σ (gslices_Index_36_post R r) := by
  unfold gslices_Index_36 at H
  refine Ca.enterL (G := [(0, a1), (1, (.v (.int .i64 p1)))]) Tryz.func36 rfl rfl rfl rfl ?_
  refine Ec.seq ?_
  refine Ec.region ?_
  refine Eo.val (x := (.v (.int .i64 0))) rfl rfl rfl rfl ?_
  refine Eo.nil ?_
  refine Ec.seq ?_
  refine Ec.seq ?_
  refine Ec.region ?_
  refine Eo.val (x := a1) rfl rfl rfl rfl ?_
  refine Eo.val (x := (.v (.int .i64 ((p0.length : Nat) : Int)))) (op_lenL h2 rfl rfl rfl rfl rfl Tryz.underlying23) rfl rfl rfl ?_
  refine Eo.val (x := (.v (.int .i64 0))) rfl rfl rfl rfl ?_
  refine Eo.nil ?_
  refine Ec.block ?_
  obtain ⟨v22, hv23, H⟩ := bind_some H
  refine Ec.cut (J := (fun (v : LR Unit Int) (x : X) (φ : Fr) (s : St) => match v with | .out _ => x = (.exit 0) ∧ (Hp s (R) ∧ Fl [] φ) | .ret r => x = .ret ∧ Ret cfg Tryz.f36 (gslices_Index_36_post R r) .ret φ s) v22) (Ec.weak (.cons rfl (.cons rfl (.cons rfl (.cons rfl (.nil'))))) (Ec.loopF (f := (fun m (i : Int × Unit) => gslices_Index_36_L1 n p0 p1 m i.1)) (G := (fun (i : Int × Unit) => ([(0, a1), (1, (.v (.int .i64 p1))), (7, (.v (.int .i64 ((p0.length : Nat) : Int)))), (8, (.v (.int .i64 i.1)))] : List (Nat × A)))) (I := (fun (i : Int × Unit) (s : St) => Hp s (R))) (J := (fun (v : LR Unit Int) (x : X) (φ : Fr) (s : St) => match v with | .out _ => x = (.exit 0) ∧ (Hp s (R) ∧ Fl [] φ) | .ret r => x = .ret ∧ Ret cfg Tryz.f36 (gslices_Index_36_post R r) .ret φ s)) (fun _ => rfl) ?_ n (0, ()) _ v22 hp hv23)) ?_
  · rintro m ⟨y9, _⟩ σ0 v hp0 H ih
    change gslices_Index_36_L1 n p0 p1 (m + 1) y9 = some v at H
    rw [gslices_Index_36_L1] at H
    change Ec _ _ _ [(0, a1), (1, (.v (.int .i64 p1))), (7, (.v (.int .i64 ((p0.length : Nat) : Int)))), (8, (.v (.int .i64 y9)))] σ0 _
    refine Ec.seq ?_
    refine Ec.region ?_
    refine Eo.val (x := (.v (.bool (decide (y9 < ((p0.length : Nat) : Int)))))) rfl rfl rfl rfl ?_
    refine Eo.nil ?_
    refine Ec.seq ?_
    refine Ec.cond (t := (decide (y9 < ((p0.length : Nat) : Int)))) rfl (fun hc16 => ?_) (fun hc16 => ?_)
    · have H := cond_t hc16 H
      refine Ec.skip ?_
      refine Ec.seq ?_
      refine Ec.block ?_
      refine Ec.seq ?_
      refine Ec.region ?_
      refine Eo.val (x := (.v (.int .i64 y9))) rfl rfl rfl rfl ?_
      refine Eo.val (x := (.v (.int .i64 y9))) rfl rfl rfl rfl ?_
      refine Eo.nil ?_
      refine Ec.seq ?_
      refine Ec.region ?_
      refine Eo.val (x := (.v (.int .i64 p1))) rfl rfl rfl rfl ?_
      refine Eo.val (x := a1) rfl rfl rfl rfl ?_
      refine Eo.val (x := (.v (.int .i64 y9))) rfl rfl rfl rfl ?_
      obtain ⟨x17, hvx17, H⟩ := bind_some H
      refine Eo.idx h2 hvx17 rfl rfl rfl Tryz.underlying23 rfl rfl rfl rfl ?_
      rintro cs18 p19 _ hat20 rfl
      refine Eo.val (x := (.v (.int .i64 x17))) (op_loadSp hat20 0 rfl rfl rfl rfl rfl) rfl rfl rfl ?_
      refine Eo.val (x := (.v (.bool (p1 == x17)))) rfl rfl rfl rfl ?_
      refine Eo.nil ?_
      refine Ec.cond (t := (p1 == x17)) rfl (fun hc21 => ?_) (fun hc21 => ?_)
      · have H := cond_t hc21 H
        refine Ec.seq ?_
        refine Ec.region ?_
        refine Eo.val (x := (.v (.int .i64 y9))) rfl rfl rfl rfl ?_
        refine Eo.val (x := (.v (.int .i64 y9))) rfl rfl rfl rfl ?_
        refine Eo.nil ?_
        obtain rfl := Option.some.inj H
        refine Ec.ret ?_
        refine And.intro rfl (Ret.mk rfl ?_)
        exact ⟨rfl, hp0⟩
      · have H := cond_f hc21 H
        refine Ec.skip ?_
        refine Ec.region ?_
        refine Eo.val (x := (.v (.int .i64 (IntKind.wrap .i64 (y9 + 1))))) rfl rfl rfl rfl ?_
        refine Eo.val (x := (.v (.int .i64 (IntKind.wrap .i64 (y9 + 1))))) rfl rfl rfl rfl ?_
        refine Eo.nil ?_
        exact Ec.of (.cons rfl (.cons rfl (.cons rfl (.cons rfl (.nil'))))) (ih ((IntKind.wrap .i64 (y9 + 1)), ()) _ hp0 H)
    · have H := cond_f hc16 H
      refine Ec.exit ?_
      obtain rfl := Option.some.inj H
      exact And.intro rfl ⟨hp0, (.nil')⟩
  · rcases v22 with _ | r28
    · intro x φ26 σ25 hJ
      obtain ⟨rfl, hp24, hf27⟩ := hJ
      refine Ec.of (F := []) hf27 ?_
      refine Ec.seq ?_
      refine Ec.region ?_
      refine Eo.val (x := (.v (.int .i64 (-1)))) rfl rfl rfl rfl ?_
      refine Eo.nil ?_
      obtain rfl := Option.some.inj H
      refine Ec.ret ?_
      refine Ret.mk rfl ?_
      exact ⟨rfl, hp24⟩
    · intro x φ29 σ30 hJ
      obtain rfl := Option.some.inj H
      obtain ⟨rfl, hr⟩ := hJ
      exact hr

def gslices_Contains_27 (n : Nat) (p0 : (List Int)) (p1 : Int) : Option (Bool) := ((gslices_Index_36 n p0 p1).bind fun r3 => some (decide (r3 ≥ 0)))

def gslices_Contains_27_post (R : List Res) (r : Bool) (x : A) (s : St) : Prop := x = (.v (.bool r)) ∧ Hp s (R)

theorem gslices_Contains_27_ok {n : Nat} {p0 : (List Int)} {p1 : Int} {a1 : A} {R : List Res} {σ : St} (h2 : Sl (rI .i64) a1 p0) (hp : Hp σ R) {r : Bool} (H : gslices_Contains_27 n p0 p1 = some r) : Ca cfg 27 [a1, (.v (.int .i64 p1))] σ (gslices_Contains_27_post R r) := by
  unfold gslices_Contains_27 at H
  refine Ca.enterL (G := [(0, a1), (1, (.v (.int .i64 p1)))]) Tryz.func27 rfl rfl rfl rfl ?_
  refine Ec.seq ?_
  refine Ec.region ?_
  refine Eo.val (x := (.v (.bool false))) rfl rfl rfl rfl ?_
  refine Eo.nil ?_
  refine Ec.seq ?_
  refine Ec.region ?_
  refine Eo.val (x := a1) rfl rfl rfl rfl ?_
  refine Eo.val (x := (.v (.int .i64 p1))) rfl rfl rfl rfl ?_
  obtain ⟨r3, hvr3, H⟩ := bind_some H
  refine Eo.call rfl rfl rfl rfl (gslices_Index_36_ok h2 hp hvr3) ?_
  rintro _ σ5 ⟨rfl, hp4⟩
  refine Eo.val (x := (.v (.bool (decide (r3 ≥ 0))))) rfl rfl rfl rfl ?_
  refine Eo.val (x := (.v (.bool (decide (r3 ≥ 0))))) rfl rfl rfl rfl ?_
  refine Eo.nil ?_
  obtain rfl := Option.some.inj H
  refine Ec.ret ?_
  refine Ret.mk rfl ?_
  exact ⟨rfl, hp4⟩

def gexpr_letter (n : Nat) (p0 : Int) : Option (Bool) := some ((((((decide (p0 ≥ 65)) && (decide (p0 ≤ 90))) || ((decide (p0 ≥ 97)) && (decide (p0 ≤ 122)))) || (p0 == 95)) || (p0 == 46)) || (p0 == 36))

def gexpr_letter_post (R : List Res) (r : Bool) (x : A) (s : St) : Prop := x = (.v (.bool r)) ∧ Hp s (R)

theorem gexpr_letter_ok {n : Nat} {p0 : Int} {R : List Res} {σ : St} (hp : Hp σ R) {r : Bool} (H : gexpr_letter n p0 = some r) : Ca cfg 37 [(.v (.int .u8 p0))] σ (gexpr_letter_post R r) := by
  unfold gexpr_letter at H
  refine Ca.enterL (G := [(0, (.v (.int .u8 p0)))]) Tryz.func37 rfl rfl rfl rfl ?_
  refine Ec.seq ?_
  refine Ec.region ?_
  refine Eo.val (x := (.v (.bool false))) rfl rfl rfl rfl ?_
  refine Eo.nil ?_
  refine Ec.seq ?_
  refine Ec.region ?_
  refine Eo.val (x := (.v (.int .u8 p0))) rfl rfl rfl rfl ?_
  refine Eo.val (x := (.v (.bool (decide (p0 ≥ 65))))) rfl rfl rfl rfl ?_
  refine Eo.val (x := (.v (.bool (decide (p0 ≥ 65))))) rfl rfl rfl rfl ?_
  refine Eo.cutF 3 [(0, (.v (.int .u8 p0))), (2, (.v (.bool false))), (8, (.v (.bool ((decide (p0 ≥ 65)) && (decide (p0 ≤ 90))))))] ?_ ?_
  · skip
    cases hc3 : (decide (p0 ≥ 65))
    · skip
      refine Eo.off rfl rfl rfl ?_
      refine Eo.off rfl rfl rfl ?_
      refine Eo.val (x := (.v (.bool false))) rfl rfl rfl rfl ?_
      exact Eo.nil (And.intro rfl (And.intro rfl (.cons rfl (.cons rfl (.cons rfl (.nil'))))))
    · skip
      refine Eo.val (x := (.v (.int .u8 p0))) rfl rfl rfl rfl ?_
      refine Eo.val (x := (.v (.bool (decide (p0 ≤ 90))))) rfl rfl rfl rfl ?_
      refine Eo.val (x := (.v (.bool (decide (p0 ≤ 90))))) rfl rfl rfl rfl ?_
      exact Eo.nil (And.intro rfl (And.intro rfl (.cons rfl (.cons rfl (.cons rfl (.nil'))))))
  · skip
    refine Eo.val (x := (.v (.bool ((decide (p0 ≥ 65)) && (decide (p0 ≤ 90)))))) rfl rfl rfl rfl ?_
    refine Eo.cutF 7 [(0, (.v (.int .u8 p0))), (2, (.v (.bool false))), (16, (.v (.bool (((decide (p0 ≥ 65)) && (decide (p0 ≤ 90))) || ((decide (p0 ≥ 97)) && (decide (p0 ≤ 122)))))))] ?_ ?_
    · skip
      cases hc10 : ((decide (p0 ≥ 65)) && (decide (p0 ≤ 90)))
      · skip
        refine Eo.val (x := (.v (.int .u8 p0))) rfl rfl rfl rfl ?_
        refine Eo.val (x := (.v (.bool (decide (p0 ≥ 97))))) rfl rfl rfl rfl ?_
        refine Eo.val (x := (.v (.bool (decide (p0 ≥ 97))))) rfl rfl rfl rfl ?_
        cases hc11 : (decide (p0 ≥ 97))
        · skip
          refine Eo.off rfl rfl rfl ?_
          refine Eo.off rfl rfl rfl ?_
          refine Eo.val (x := (.v (.bool false))) rfl rfl rfl rfl ?_
          refine Eo.val (x := (.v (.bool false))) rfl rfl rfl rfl ?_
          exact Eo.nil (And.intro rfl (And.intro rfl (.cons rfl (.cons rfl (.cons rfl (.nil'))))))
        · skip
          refine Eo.val (x := (.v (.int .u8 p0))) rfl rfl rfl rfl ?_
          refine Eo.val (x := (.v (.bool (decide (p0 ≤ 122))))) rfl rfl rfl rfl ?_
          refine Eo.val (x := (.v (.bool (decide (p0 ≤ 122))))) rfl rfl rfl rfl ?_
          refine Eo.val (x := (.v (.bool (decide (p0 ≤ 122))))) rfl rfl rfl rfl ?_
          exact Eo.nil (And.intro rfl (And.intro rfl (.cons rfl (.cons rfl (.cons rfl (.nil'))))))
      · skip
        refine Eo.off rfl rfl rfl ?_
        refine Eo.off rfl rfl rfl ?_
        refine Eo.off rfl rfl rfl ?_
        refine Eo.off rfl rfl rfl ?_
        refine Eo.off rfl rfl rfl ?_
        refine Eo.off rfl rfl rfl ?_
        refine Eo.val (x := (.v (.bool true))) rfl rfl rfl rfl ?_
        exact Eo.nil (And.intro rfl (And.intro rfl (.cons rfl (.cons rfl (.cons rfl (.nil'))))))
    · skip
      refine Eo.val (x := (.v (.bool (((decide (p0 ≥ 65)) && (decide (p0 ≤ 90))) || ((decide (p0 ≥ 97)) && (decide (p0 ≤ 122))))))) rfl rfl rfl rfl ?_
      refine Eo.cutF 3 [(0, (.v (.int .u8 p0))), (2, (.v (.bool false))), (20, (.v (.bool ((((decide (p0 ≥ 65)) && (decide (p0 ≤ 90))) || ((decide (p0 ≥ 97)) && (decide (p0 ≤ 122)))) || (p0 == 95)))))] ?_ ?_
      · skip
        cases hc16 : (((decide (p0 ≥ 65)) && (decide (p0 ≤ 90))) || ((decide (p0 ≥ 97)) && (decide (p0 ≤ 122))))
        · skip
          refine Eo.val (x := (.v (.int .u8 p0))) rfl rfl rfl rfl ?_
          refine Eo.val (x := (.v (.bool (p0 == 95)))) rfl rfl rfl rfl ?_
          refine Eo.val (x := (.v (.bool (p0 == 95)))) rfl rfl rfl rfl ?_
          exact Eo.nil (And.intro rfl (And.intro rfl (.cons rfl (.cons rfl (.cons rfl (.nil'))))))
        · skip
          refine Eo.off rfl rfl rfl ?_
          refine Eo.off rfl rfl rfl ?_
          refine Eo.val (x := (.v (.bool true))) rfl rfl rfl rfl ?_
          exact Eo.nil (And.intro rfl (And.intro rfl (.cons rfl (.cons rfl (.cons rfl (.nil'))))))
      · skip
        refine Eo.val (x := (.v (.bool ((((decide (p0 ≥ 65)) && (decide (p0 ≤ 90))) || ((decide (p0 ≥ 97)) && (decide (p0 ≤ 122)))) || (p0 == 95))))) rfl rfl rfl rfl ?_
        refine Eo.cutF 3 [(0, (.v (.int .u8 p0))), (2, (.v (.bool false))), (24, (.v (.bool (((((decide (p0 ≥ 65)) && (decide (p0 ≤ 90))) || ((decide (p0 ≥ 97)) && (decide (p0 ≤ 122)))) || (p0 == 95)) || (p0 == 46)))))] ?_ ?_
        · skip
          cases hc21 : ((((decide (p0 ≥ 65)) && (decide (p0 ≤ 90))) || ((decide (p0 ≥ 97)) && (decide (p0 ≤ 122)))) || (p0 == 95))
          · skip
            refine Eo.val (x := (.v (.int .u8 p0))) rfl rfl rfl rfl ?_
            refine Eo.val (x := (.v (.bool (p0 == 46)))) rfl rfl rfl rfl ?_
            refine Eo.val (x := (.v (.bool (p0 == 46)))) rfl rfl rfl rfl ?_
            exact Eo.nil (And.intro rfl (And.intro rfl (.cons rfl (.cons rfl (.cons rfl (.nil'))))))
          · skip
            refine Eo.off rfl rfl rfl ?_
            refine Eo.off rfl rfl rfl ?_
            refine Eo.val (x := (.v (.bool true))) rfl rfl rfl rfl ?_
            exact Eo.nil (And.intro rfl (And.intro rfl (.cons rfl (.cons rfl (.cons rfl (.nil'))))))
        · skip
          refine Eo.val (x := (.v (.bool (((((decide (p0 ≥ 65)) && (decide (p0 ≤ 90))) || ((decide (p0 ≥ 97)) && (decide (p0 ≤ 122)))) || (p0 == 95)) || (p0 == 46))))) rfl rfl rfl rfl ?_
          refine Eo.cutF 3 [(2, (.v (.bool false))), (28, (.v (.bool ((((((decide (p0 ≥ 65)) && (decide (p0 ≤ 90))) || ((decide (p0 ≥ 97)) && (decide (p0 ≤ 122)))) || (p0 == 95)) || (p0 == 46)) || (p0 == 36)))))] ?_ ?_
          · skip
            cases hc26 : (((((decide (p0 ≥ 65)) && (decide (p0 ≤ 90))) || ((decide (p0 ≥ 97)) && (decide (p0 ≤ 122)))) || (p0 == 95)) || (p0 == 46))
            · skip
              refine Eo.val (x := (.v (.int .u8 p0))) rfl rfl rfl rfl ?_
              refine Eo.val (x := (.v (.bool (p0 == 36)))) rfl rfl rfl rfl ?_
              refine Eo.val (x := (.v (.bool (p0 == 36)))) rfl rfl rfl rfl ?_
              exact Eo.nil (And.intro rfl (And.intro rfl (.cons rfl (.cons rfl (.nil')))))
            · skip
              refine Eo.off rfl rfl rfl ?_
              refine Eo.off rfl rfl rfl ?_
              refine Eo.val (x := (.v (.bool true))) rfl rfl rfl rfl ?_
              exact Eo.nil (And.intro rfl (And.intro rfl (.cons rfl (.cons rfl (.nil')))))
          · skip
            refine Eo.val (x := (.v (.bool ((((((decide (p0 ≥ 65)) && (decide (p0 ≤ 90))) || ((decide (p0 ≥ 97)) && (decide (p0 ≤ 122)))) || (p0 == 95)) || (p0 == 46)) || (p0 == 36))))) rfl rfl rfl rfl ?_
            refine Eo.nil ?_
            obtain rfl := Option.some.inj H
            refine Ec.ret ?_
            refine Ret.mk rfl ?_
            exact ⟨rfl, hp⟩

def gexpr_digit (n : Nat) (p0 : Int) : Option (Bool) := some ((decide (p0 ≥ 48)) && (decide (p0 ≤ 57)))

def gexpr_digit_post (R : List Res) (r : Bool) (x : A) (s : St) : Prop := x = (.v (.bool r)) ∧ Hp s (R)

theorem gexpr_digit_ok {n : Nat} {p0 : Int} {R : List Res} {σ : St} (hp : Hp σ R) {r : Bool} (H : gexpr_digit n p0 = some r) : Ca cfg 38 [(.v (.int .u8 p0))] σ (gexpr_digit_post R r) := by
  unfold gexpr_digit at H
  refine Ca.enterL (G := [(0, (.v (.int .u8 p0)))]) Tryz.func38 rfl rfl rfl rfl ?_
  refine Ec.seq ?_
  refine Ec.region ?_
  refine Eo.val (x := (.v (.bool false))) rfl rfl rfl rfl ?_
  refine Eo.nil ?_
  refine Ec.seq ?_
  refine Ec.region ?_
  refine Eo.val (x := (.v (.int .u8 p0))) rfl rfl rfl rfl ?_
  refine Eo.val (x := (.v (.bool (decide (p0 ≥ 48))))) rfl rfl rfl rfl ?_
  refine Eo.val (x := (.v (.bool (decide (p0 ≥ 48))))) rfl rfl rfl rfl ?_
  refine Eo.cutF 3 [(2, (.v (.bool false))), (8, (.v (.bool ((decide (p0 ≥ 48)) && (decide (p0 ≤ 57))))))] ?_ ?_
  · skip
    cases hc3 : (decide (p0 ≥ 48))
    · skip
      refine Eo.off rfl rfl rfl ?_
      refine Eo.off rfl rfl rfl ?_
      refine Eo.val (x := (.v (.bool false))) rfl rfl rfl rfl ?_
      exact Eo.nil (And.intro rfl (And.intro rfl (.cons rfl (.cons rfl (.nil')))))
    · skip
      refine Eo.val (x := (.v (.int .u8 p0))) rfl rfl rfl rfl ?_
      refine Eo.val (x := (.v (.bool (decide (p0 ≤ 57))))) rfl rfl rfl rfl ?_
      refine Eo.val (x := (.v (.bool (decide (p0 ≤ 57))))) rfl rfl rfl rfl ?_
      exact Eo.nil (And.intro rfl (And.intro rfl (.cons rfl (.cons rfl (.nil')))))
  · skip
    refine Eo.val (x := (.v (.bool ((decide (p0 ≥ 48)) && (decide (p0 ≤ 57)))))) rfl rfl rfl rfl ?_
    refine Eo.nil ?_
    obtain rfl := Option.some.inj H
    refine Ec.ret ?_
    refine Ret.mk rfl ?_
    exact ⟨rfl, hp⟩

def gexpr_name_L1 (N : Nat) (p0 : ByteArray) : Nat → Int → Option (LR Unit Bool)
  | 0, _ => none
  | m + 1, y26 => (cond (decide (y26 < ((p0.size : Nat) : Int))) (((atS p0 y26).bind fun b53 => ((gexpr_letter N b53).bind fun r54 => (((cond (!r54) ((cond (y26 == 0) (some true) (((atS p0 y26).bind fun b66 => ((gexpr_digit N b66).bind fun r67 => some (!r67)))))) (some false)) : Option (Bool)).bind fun x63 => (cond x63 (some (.ret false)) (gexpr_name_L1 N p0 m (IntKind.wrap .i64 (y26 + 1)))))))) (some (.out ())))

def gexpr_name (n : Nat) (p0 : ByteArray) : Option (Bool) := ((gexpr_name_L1 n p0 n 0).bind fun v => match v with | .out _ => some (!decide (p0 = (ByteArray.mk #[]))) | .ret r83 => some r83)

def gexpr_name_post (R : List Res) (r : Bool) (x : A) (s : St) : Prop := x = (.v (.bool r)) ∧ Hp s (R)

theorem gexpr_name_ok {n : Nat} {p0 : ByteArray} {R : List Res} {σ : St} (hp : Hp σ R) {r : Bool} (H : gexpr_name n p0 = some r) : Ca cfg 28 [(.v (.string p0))] σ (gexpr_name_post R r) := by
  unfold gexpr_name at H
  refine Ca.enterL (G := [(0, (.v (.string p0)))]) Tryz.func28 rfl rfl rfl rfl ?_
  refine Ec.seq ?_
  refine Ec.region ?_
  refine Eo.val (x := (.v (.bool false))) rfl rfl rfl rfl ?_
  refine Eo.nil ?_
  refine Ec.seq ?_
  refine Ec.seq ?_
  refine Ec.region ?_
  refine Eo.val (x := (.v (.string p0))) rfl rfl rfl rfl ?_
  refine Eo.val (x := (.v (.int .i64 ((p0.size : Nat) : Int)))) (op_len rfl rfl rfl rfl rfl Tryz.underlying9) rfl rfl rfl ?_
  refine Eo.val (x := (.v (.int .i64 0))) rfl rfl rfl rfl ?_
  refine Eo.nil ?_
  refine Ec.block ?_
  obtain ⟨v77, hv78, H⟩ := bind_some H
  refine Ec.cut (J := (fun (v : LR Unit Bool) (x : X) (φ : Fr) (s : St) => match v with | .out _ => x = (.exit 0) ∧ (Hp s (R) ∧ Fl [(0, (.v (.string p0)))] φ) | .ret r => x = .ret ∧ Ret cfg Tryz.f28 (gexpr_name_post R r) .ret φ s) v77) (Ec.weak (.cons rfl (.cons rfl (.cons rfl (.nil')))) (Ec.loopF (f := (fun m (i : Int × Unit) => gexpr_name_L1 n p0 m i.1)) (G := (fun (i : Int × Unit) => ([(0, (.v (.string p0))), (5, (.v (.int .i64 ((p0.size : Nat) : Int)))), (6, (.v (.int .i64 i.1)))] : List (Nat × A)))) (I := (fun (i : Int × Unit) (s : St) => Hp s (R))) (J := (fun (v : LR Unit Bool) (x : X) (φ : Fr) (s : St) => match v with | .out _ => x = (.exit 0) ∧ (Hp s (R) ∧ Fl [(0, (.v (.string p0)))] φ) | .ret r => x = .ret ∧ Ret cfg Tryz.f28 (gexpr_name_post R r) .ret φ s)) (fun _ => rfl) ?_ n (0, ()) _ v77 hp hv78)) ?_
  · rintro m ⟨y26, _⟩ σ0 v hp0 H ih
    change gexpr_name_L1 n p0 (m + 1) y26 = some v at H
    rw [gexpr_name_L1] at H
    change Ec _ _ _ [(0, (.v (.string p0))), (5, (.v (.int .i64 ((p0.size : Nat) : Int)))), (6, (.v (.int .i64 y26)))] σ0 _
    refine Ec.seq ?_
    refine Ec.region ?_
    refine Eo.val (x := (.v (.bool (decide (y26 < ((p0.size : Nat) : Int)))))) rfl rfl rfl rfl ?_
    refine Eo.nil ?_
    refine Ec.seq ?_
    refine Ec.cond (t := (decide (y26 < ((p0.size : Nat) : Int)))) rfl (fun hc52 => ?_) (fun hc52 => ?_)
    · have H := cond_t hc52 H
      refine Ec.skip ?_
      refine Ec.seq ?_
      refine Ec.block ?_
      refine Ec.seq ?_
      refine Ec.region ?_
      refine Eo.val (x := (.v (.int .i64 y26))) rfl rfl rfl rfl ?_
      refine Eo.val (x := (.v (.int .i64 y26))) rfl rfl rfl rfl ?_
      refine Eo.nil ?_
      refine Ec.seq ?_
      refine Ec.region ?_
      refine Eo.val (x := (.v (.string p0))) rfl rfl rfl rfl ?_
      refine Eo.val (x := (.v (.int .i64 y26))) rfl rfl rfl rfl ?_
      obtain ⟨b53, hvb53, H⟩ := bind_some H
      refine Eo.val (op_byteS hvb53 rfl rfl rfl Tryz.underlying9) rfl rfl rfl ?_
      obtain ⟨r54, hvr54, H⟩ := bind_some H
      refine Eo.call rfl rfl rfl rfl (gexpr_letter_ok hp0 hvr54) ?_
      rintro _ σ56 ⟨rfl, hp55⟩
      refine Eo.val (x := (.v (.bool (!r54)))) rfl rfl rfl rfl ?_
      refine Eo.val (x := (.v (.bool (!r54)))) rfl rfl rfl rfl ?_
      obtain ⟨x63, hv76, H⟩ := bind_some H
      refine Eo.cutN 10 (J := (fun (x63 : Bool) (x : X) (φ : Fr) (s : St) => x = .normal ∧ (Hp s (R) ∧ Fl [(0, (.v (.string p0))), (5, (.v (.int .i64 ((p0.size : Nat) : Int)))), (6, (.v (.int .i64 y26))), (24, (.v (.bool x63)))] φ)) x63) ?_ ?_
      · have H := hv76
        cases hc64 : (!r54)
        · have H := cond_f hc64 H
          refine Eo.off rfl rfl rfl ?_
          refine Eo.off rfl rfl rfl ?_
          refine Eo.off rfl rfl rfl ?_
          refine Eo.off rfl rfl rfl ?_
          refine Eo.off rfl rfl rfl ?_
          refine Eo.off rfl rfl rfl ?_
          refine Eo.off rfl rfl rfl ?_
          refine Eo.off rfl rfl rfl ?_
          refine Eo.off rfl rfl rfl ?_
          refine Eo.val (x := (.v (.bool false))) rfl rfl rfl rfl ?_
          refine Eo.nil ?_
          obtain rfl := Option.some.inj H
          exact And.intro rfl ⟨hp55, (.cons rfl (.cons rfl (.cons rfl (.cons rfl (.nil')))))⟩
        · have H := cond_t hc64 H
          refine Eo.val (x := (.v (.int .i64 y26))) rfl rfl rfl rfl ?_
          refine Eo.val (x := (.v (.bool (y26 == 0)))) rfl rfl rfl rfl ?_
          refine Eo.val (x := (.v (.bool (y26 == 0)))) rfl rfl rfl rfl ?_
          cases hc65 : (y26 == 0)
          · have H := cond_f hc65 H
            refine Eo.val (x := (.v (.string p0))) rfl rfl rfl rfl ?_
            refine Eo.val (x := (.v (.int .i64 y26))) rfl rfl rfl rfl ?_
            obtain ⟨b66, hvb66, H⟩ := bind_some H
            refine Eo.val (op_byteS hvb66 rfl rfl rfl Tryz.underlying9) rfl rfl rfl ?_
            obtain ⟨r67, hvr67, H⟩ := bind_some H
            refine Eo.call rfl rfl rfl rfl (gexpr_digit_ok hp55 hvr67) ?_
            rintro _ σ69 ⟨rfl, hp68⟩
            refine Eo.val (x := (.v (.bool (!r67)))) rfl rfl rfl rfl ?_
            refine Eo.val (x := (.v (.bool (!r67)))) rfl rfl rfl rfl ?_
            refine Eo.val (x := (.v (.bool (!r67)))) rfl rfl rfl rfl ?_
            refine Eo.nil ?_
            obtain rfl := Option.some.inj H
            exact And.intro rfl ⟨hp68, (.cons rfl (.cons rfl (.cons rfl (.cons rfl (.nil')))))⟩
          · have H := cond_t hc65 H
            refine Eo.off rfl rfl rfl ?_
            refine Eo.off rfl rfl rfl ?_
            refine Eo.off rfl rfl rfl ?_
            refine Eo.off rfl rfl rfl ?_
            refine Eo.off rfl rfl rfl ?_
            refine Eo.val (x := (.v (.bool true))) rfl rfl rfl rfl ?_
            refine Eo.val (x := (.v (.bool true))) rfl rfl rfl rfl ?_
            refine Eo.nil ?_
            obtain rfl := Option.some.inj H
            exact And.intro rfl ⟨hp55, (.cons rfl (.cons rfl (.cons rfl (.cons rfl (.nil')))))⟩
      · skip
        intro x φ72 σ71 hJ
        obtain ⟨rfl, hp70, hf73⟩ := hJ
        refine ⟨rfl, Eo.of (F := [(0, (.v (.string p0))), (5, (.v (.int .i64 ((p0.size : Nat) : Int)))), (6, (.v (.int .i64 y26))), (24, (.v (.bool x63)))]) hf73 ?_⟩
        refine Eo.nil ?_
        refine Ec.cond (t := x63) rfl (fun hc74 => ?_) (fun hc74 => ?_)
        · have H := cond_t hc74 H
          refine Ec.seq ?_
          refine Ec.region ?_
          refine Eo.val (x := (.v (.bool false))) rfl rfl rfl rfl ?_
          refine Eo.nil ?_
          obtain rfl := Option.some.inj H
          refine Ec.ret ?_
          refine And.intro rfl (Ret.mk rfl ?_)
          exact ⟨rfl, hp70⟩
        · have H := cond_f hc74 H
          refine Ec.skip ?_
          refine Ec.region ?_
          refine Eo.val (x := (.v (.int .i64 (IntKind.wrap .i64 (y26 + 1))))) rfl rfl rfl rfl ?_
          refine Eo.val (x := (.v (.int .i64 (IntKind.wrap .i64 (y26 + 1))))) rfl rfl rfl rfl ?_
          refine Eo.nil ?_
          exact Ec.of (.cons rfl (.cons rfl (.cons rfl (.nil')))) (ih ((IntKind.wrap .i64 (y26 + 1)), ()) _ hp70 H)
    · have H := cond_f hc52 H
      refine Ec.exit ?_
      obtain rfl := Option.some.inj H
      exact And.intro rfl ⟨hp0, (.cons rfl (.nil'))⟩
  · rcases v77 with _ | r83
    · intro x φ81 σ80 hJ
      obtain ⟨rfl, hp79, hf82⟩ := hJ
      refine Ec.of (F := [(0, (.v (.string p0)))]) hf82 ?_
      refine Ec.seq ?_
      refine Ec.region ?_
      refine Eo.val (x := (.v (.string p0))) rfl rfl rfl rfl ?_
      refine Eo.val (x := (.v (.bool (!decide (p0 = (ByteArray.mk #[])))))) (val_b rfl (sne_eq _ _)) rfl rfl rfl ?_
      refine Eo.val (x := (.v (.bool (!decide (p0 = (ByteArray.mk #[])))))) rfl rfl rfl rfl ?_
      refine Eo.nil ?_
      obtain rfl := Option.some.inj H
      refine Ec.ret ?_
      refine Ret.mk rfl ?_
      exact ⟨rfl, hp79⟩
    · intro x φ84 σ85 hJ
      obtain rfl := Option.some.inj H
      obtain ⟨rfl, hr⟩ := hJ
      exact hr

def gexpr_normal_L1 (N : Nat) (p0 : TLin) : Nat → Int → Option (LR Unit Bool)
  | 0, _ => none
  | m + 1, y55 => (cond (decide (y55 < ((p0.f_Syms.length : Nat) : Int))) (((atL p0.f_Syms y55).bind fun x85 => ((gexpr_name N x85).bind fun r89 => (((cond (!r89) (some true) ((cond (decide (y55 > 0)) (((atL p0.f_Syms (IntKind.wrap .i64 (y55 - 1))).bind fun x101 => some (strLe x85 x101))) (some false)))) : Option (Bool)).bind fun x98 => (cond x98 (some (.ret false)) (gexpr_normal_L1 N p0 m (IntKind.wrap .i64 (y55 + 1)))))))) (some (.out ())))

def gexpr_normal (n : Nat) (p0 : TLin) : Option (Bool) := (((cond ((((p0.f_Syms.length : Nat) : Int) != ((p0.f_Times.length : Nat) : Int)) || (decide (((p0.f_Syms.length : Nat) : Int) > 16))) (some true) (((gslices_Contains_27 n p0.f_Times 0).bind fun r19 => some r19))) : Option (Bool)).bind fun x17 => (cond x17 (some false) (((gexpr_normal_L1 n p0 n 0).bind fun v => match v with | .out _ => some true | .ret r118 => some r118))))

def gexpr_normal_post (R : List Res) (r : Bool) (x : A) (s : St) : Prop := x = (.v (.bool r)) ∧ Hp s (R)

theorem gexpr_normal_ok {n : Nat} {p0 : TLin} {a1 a3 : A} {R : List Res} {σ : St} (h2 : Sl rS a1 p0.f_Syms) (h4 : Sl (rI .i64) a3 p0.f_Times) (hp : Hp σ R) {r : Bool} (H : gexpr_normal n p0 = some r) : Ca cfg 16 [(.agg [a1, a3, (.v (.int .i64 p0.f_Off))])] σ (gexpr_normal_post R r) := by
  unfold gexpr_normal at H
  refine Ca.enterL (G := [(0, (.agg [a1, a3, (.v (.int .i64 p0.f_Off))]))]) Tryz.func16 rfl rfl rfl rfl ?_
  refine Ec.seq ?_
  refine Ec.region ?_
  refine Eo.box hp rfl (by simp [allOne, A.cells, h2.isOne, h4.isOne]) rfl rfl rfl rfl rfl ?_
  intro b5 σ7 hp6
  refine Eo.val (x := (.v (.bool false))) rfl rfl rfl rfl ?_
  refine Eo.nil ?_
  refine Ec.seq ?_
  refine Ec.seq ?_
  refine Ec.region ?_
  refine Eo.val (x := (.ptr b5 0)) rfl rfl rfl rfl ?_
  refine Eo.val (x := a1) (op_loadB hp6 0 rfl rfl rfl rfl) rfl rfl rfl ?_
  refine Eo.val (x := (.v (.int .i64 ((p0.f_Syms.length : Nat) : Int)))) (op_lenL h2 rfl rfl rfl rfl rfl Tryz.underlying22) rfl rfl rfl ?_
  refine Eo.val (x := (.ptr b5 1)) rfl rfl rfl rfl ?_
  refine Eo.val (x := a3) (op_loadB hp6 0 rfl rfl rfl rfl) rfl rfl rfl ?_
  refine Eo.val (x := (.v (.int .i64 ((p0.f_Times.length : Nat) : Int)))) (op_lenL h4 rfl rfl rfl rfl rfl Tryz.underlying23) rfl rfl rfl ?_
  refine Eo.val (x := (.v (.bool (((p0.f_Syms.length : Nat) : Int) != ((p0.f_Times.length : Nat) : Int))))) rfl rfl rfl rfl ?_
  refine Eo.val (x := (.v (.bool (((p0.f_Syms.length : Nat) : Int) != ((p0.f_Times.length : Nat) : Int))))) rfl rfl rfl rfl ?_
  refine Eo.cutF 5 [(1, (.ptr b5 0)), (17, (.v (.bool ((((p0.f_Syms.length : Nat) : Int) != ((p0.f_Times.length : Nat) : Int)) || (decide (((p0.f_Syms.length : Nat) : Int) > 16))))))] ?_ ?_
  · skip
    cases hc10 : (((p0.f_Syms.length : Nat) : Int) != ((p0.f_Times.length : Nat) : Int))
    · skip
      refine Eo.val (x := (.ptr b5 0)) rfl rfl rfl rfl ?_
      refine Eo.val (x := a1) (op_loadB hp6 0 rfl rfl rfl rfl) rfl rfl rfl ?_
      refine Eo.val (x := (.v (.int .i64 ((p0.f_Syms.length : Nat) : Int)))) (op_lenL h2 rfl rfl rfl rfl rfl Tryz.underlying22) rfl rfl rfl ?_
      refine Eo.val (x := (.v (.bool (decide (((p0.f_Syms.length : Nat) : Int) > 16))))) rfl rfl rfl rfl ?_
      refine Eo.val (x := (.v (.bool (decide (((p0.f_Syms.length : Nat) : Int) > 16))))) rfl rfl rfl rfl ?_
      exact Eo.nil (And.intro rfl (And.intro rfl (.cons rfl (.cons rfl (.nil')))))
    · skip
      refine Eo.off rfl rfl rfl ?_
      refine Eo.off rfl rfl rfl ?_
      refine Eo.off rfl rfl rfl ?_
      refine Eo.off rfl rfl rfl ?_
      refine Eo.val (x := (.v (.bool true))) rfl rfl rfl rfl ?_
      exact Eo.nil (And.intro rfl (And.intro rfl (.cons rfl (.cons rfl (.nil')))))
  · skip
    refine Eo.val (x := (.v (.bool ((((p0.f_Syms.length : Nat) : Int) != ((p0.f_Times.length : Nat) : Int)) || (decide (((p0.f_Syms.length : Nat) : Int) > 16)))))) rfl rfl rfl rfl ?_
    obtain ⟨x17, hv122, H⟩ := bind_some H
    refine Eo.cutN 4 (J := (fun (x17 : Bool) (x : X) (φ : Fr) (s : St) => x = .normal ∧ (Hp s (.blk b5 (.cells [a1, a3, (.v (.int .i64 p0.f_Off))] 25) :: R) ∧ Fl [(1, (.ptr b5 0)), (22, (.v (.bool x17)))] φ)) x17) ?_ ?_
    · have H := hv122
      cases hc18 : ((((p0.f_Syms.length : Nat) : Int) != ((p0.f_Times.length : Nat) : Int)) || (decide (((p0.f_Syms.length : Nat) : Int) > 16)))
      · have H := cond_f hc18 H
        refine Eo.val (x := (.ptr b5 1)) rfl rfl rfl rfl ?_
        refine Eo.val (x := a3) (op_loadB hp6 0 rfl rfl rfl rfl) rfl rfl rfl ?_
        obtain ⟨r19, hvr19, H⟩ := bind_some H
        refine Eo.call rfl rfl rfl rfl (gslices_Contains_27_ok h4 hp6 hvr19) ?_
        rintro _ σ21 ⟨rfl, hp20⟩
        refine Eo.val (x := (.v (.bool r19))) rfl rfl rfl rfl ?_
        refine Eo.nil ?_
        obtain rfl := Option.some.inj H
        exact And.intro rfl ⟨hp20, (.cons rfl (.cons rfl (.nil')))⟩
      · have H := cond_t hc18 H
        refine Eo.off rfl rfl rfl ?_
        refine Eo.off rfl rfl rfl ?_
        refine Eo.off rfl rfl rfl ?_
        refine Eo.val (x := (.v (.bool true))) rfl rfl rfl rfl ?_
        refine Eo.nil ?_
        obtain rfl := Option.some.inj H
        exact And.intro rfl ⟨hp6, (.cons rfl (.cons rfl (.nil')))⟩
    · skip
      intro x φ24 σ23 hJ
      obtain ⟨rfl, hp22, hf25⟩ := hJ
      refine ⟨rfl, Eo.of (F := [(1, (.ptr b5 0)), (22, (.v (.bool x17)))]) hf25 ?_⟩
      refine Eo.nil ?_
      refine Ec.cond (t := x17) rfl (fun hc26 => ?_) (fun hc26 => ?_)
      · have H := cond_t hc26 H
        refine Ec.seq ?_
        refine Ec.region ?_
        refine Eo.val (x := (.v (.bool false))) rfl rfl rfl rfl ?_
        refine Eo.nil ?_
        obtain rfl := Option.some.inj H
        refine Ec.ret ?_
        refine Ret.mk rfl ?_
        exact ⟨rfl, (Hp.drop hp22 0)⟩
      · have H := cond_f hc26 H
        refine Ec.skip ?_
        refine Ec.seq ?_
        refine Ec.seq ?_
        refine Ec.region ?_
        refine Eo.val (x := (.ptr b5 0)) rfl rfl rfl rfl ?_
        refine Eo.val (x := a1) (op_loadB hp22 0 rfl rfl rfl rfl) rfl rfl rfl ?_
        refine Eo.val (x := (.v (.int .i64 ((p0.f_Syms.length : Nat) : Int)))) (op_lenL h2 rfl rfl rfl rfl rfl Tryz.underlying22) rfl rfl rfl ?_
        refine Eo.val (x := (.v (.int .i64 0))) rfl rfl rfl rfl ?_
        refine Eo.nil ?_
        refine Ec.block ?_
        obtain ⟨v112, hv113, H⟩ := bind_some H
        refine Ec.cut (J := (fun (v : LR Unit Bool) (x : X) (φ : Fr) (s : St) => match v with | .out _ => x = (.exit 0) ∧ (Hp s (R) ∧ Fl [] φ) | .ret r => x = .ret ∧ Ret cfg Tryz.f16 (gexpr_normal_post R r) .ret φ s) v112) (Ec.weak (.cons rfl (.cons rfl (.cons rfl (.cons rfl (.nil'))))) (Ec.loopF (f := (fun m (i : Int × Unit) => gexpr_normal_L1 n p0 m i.1)) (G := (fun (i : Int × Unit) => ([(1, (.ptr b5 0)), (24, a1), (25, (.v (.int .i64 ((p0.f_Syms.length : Nat) : Int)))), (26, (.v (.int .i64 i.1)))] : List (Nat × A)))) (I := (fun (i : Int × Unit) (s : St) => Hp s (.blk b5 (.cells [a1, a3, (.v (.int .i64 p0.f_Off))] 25) :: R))) (J := (fun (v : LR Unit Bool) (x : X) (φ : Fr) (s : St) => match v with | .out _ => x = (.exit 0) ∧ (Hp s (R) ∧ Fl [] φ) | .ret r => x = .ret ∧ Ret cfg Tryz.f16 (gexpr_normal_post R r) .ret φ s)) (fun _ => rfl) ?_ n (0, ()) _ v112 hp22 hv113)) ?_
        · rintro m ⟨y55, _⟩ σ0 v hp0 H ih
          change gexpr_normal_L1 n p0 (m + 1) y55 = some v at H
          rw [gexpr_normal_L1] at H
          change Ec _ _ _ [(1, (.ptr b5 0)), (24, a1), (25, (.v (.int .i64 ((p0.f_Syms.length : Nat) : Int)))), (26, (.v (.int .i64 y55)))] σ0 _
          refine Ec.seq ?_
          refine Ec.region ?_
          refine Eo.val (x := (.v (.bool (decide (y55 < ((p0.f_Syms.length : Nat) : Int)))))) rfl rfl rfl rfl ?_
          refine Eo.nil ?_
          refine Ec.seq ?_
          refine Ec.cond (t := (decide (y55 < ((p0.f_Syms.length : Nat) : Int)))) rfl (fun hc84 => ?_) (fun hc84 => ?_)
          · have H := cond_t hc84 H
            refine Ec.skip ?_
            refine Ec.seq ?_
            refine Ec.block ?_
            refine Ec.seq ?_
            refine Ec.region ?_
            refine Eo.val (x := (.v (.int .i64 y55))) rfl rfl rfl rfl ?_
            obtain ⟨x85, hvx85, H⟩ := bind_some H
            refine Eo.idx h2 hvx85 rfl rfl rfl Tryz.underlying22 rfl rfl rfl rfl ?_
            rintro cs86 p87 _ hat88 rfl
            refine Eo.val (x := (.v (.string x85))) (op_loadSp hat88 0 rfl rfl rfl rfl rfl) rfl rfl rfl ?_
            refine Eo.val (x := (.v (.int .i64 y55))) rfl rfl rfl rfl ?_
            refine Eo.val (x := (.v (.string x85))) rfl rfl rfl rfl ?_
            refine Eo.nil ?_
            refine Ec.seq ?_
            refine Ec.region ?_
            refine Eo.val (x := (.v (.string x85))) rfl rfl rfl rfl ?_
            obtain ⟨r89, hvr89, H⟩ := bind_some H
            refine Eo.call rfl rfl rfl rfl (gexpr_name_ok hp0 hvr89) ?_
            rintro _ σ91 ⟨rfl, hp90⟩
            refine Eo.val (x := (.v (.bool (!r89)))) rfl rfl rfl rfl ?_
            refine Eo.val (x := (.v (.bool (!r89)))) rfl rfl rfl rfl ?_
            obtain ⟨x98, hv111, H⟩ := bind_some H
            refine Eo.cutN 13 (J := (fun (x98 : Bool) (x : X) (φ : Fr) (s : St) => x = .normal ∧ (Hp s (.blk b5 (.cells [a1, a3, (.v (.int .i64 p0.f_Off))] 25) :: R) ∧ Fl [(1, (.ptr b5 0)), (24, a1), (25, (.v (.int .i64 ((p0.f_Syms.length : Nat) : Int)))), (26, (.v (.int .i64 y55))), (47, (.v (.bool x98)))] φ)) x98) ?_ ?_
            · have H := hv111
              cases hc99 : (!r89)
              · have H := cond_f hc99 H
                refine Eo.val (x := (.v (.int .i64 y55))) rfl rfl rfl rfl ?_
                refine Eo.val (x := (.v (.bool (decide (y55 > 0))))) rfl rfl rfl rfl ?_
                refine Eo.val (x := (.v (.bool (decide (y55 > 0))))) rfl rfl rfl rfl ?_
                cases hc100 : (decide (y55 > 0))
                · have H := cond_f hc100 H
                  refine Eo.off rfl rfl rfl ?_
                  refine Eo.off rfl rfl rfl ?_
                  refine Eo.off rfl rfl rfl ?_
                  refine Eo.off rfl rfl rfl ?_
                  refine Eo.off rfl rfl rfl ?_
                  refine Eo.off rfl rfl rfl ?_
                  refine Eo.off rfl rfl rfl ?_
                  refine Eo.off rfl rfl rfl ?_
                  refine Eo.val (x := (.v (.bool false))) rfl rfl rfl rfl ?_
                  refine Eo.val (x := (.v (.bool false))) rfl rfl rfl rfl ?_
                  refine Eo.nil ?_
                  obtain rfl := Option.some.inj H
                  exact And.intro rfl ⟨hp90, (.cons rfl (.cons rfl (.cons rfl (.cons rfl (.cons rfl (.nil'))))))⟩
                · have H := cond_t hc100 H
                  refine Eo.val (x := (.v (.string x85))) rfl rfl rfl rfl ?_
                  refine Eo.val (x := (.ptr b5 0)) rfl rfl rfl rfl ?_
                  refine Eo.val (x := a1) (op_loadB hp90 0 rfl rfl rfl rfl) rfl rfl rfl ?_
                  refine Eo.val (x := (.v (.int .i64 y55))) rfl rfl rfl rfl ?_
                  refine Eo.val (x := (.v (.int .i64 (IntKind.wrap .i64 (y55 - 1))))) rfl rfl rfl rfl ?_
                  obtain ⟨x101, hvx101, H⟩ := bind_some H
                  refine Eo.idx h2 hvx101 rfl rfl rfl Tryz.underlying22 rfl rfl rfl rfl ?_
                  rintro cs102 p103 _ hat104 rfl
                  refine Eo.val (x := (.v (.string x101))) (op_loadSp hat104 0 rfl rfl rfl rfl rfl) rfl rfl rfl ?_
                  refine Eo.val (x := (.v (.bool (strLe x85 x101)))) rfl rfl rfl rfl ?_
                  refine Eo.val (x := (.v (.bool (strLe x85 x101)))) rfl rfl rfl rfl ?_
                  refine Eo.val (x := (.v (.bool (strLe x85 x101)))) rfl rfl rfl rfl ?_
                  refine Eo.nil ?_
                  obtain rfl := Option.some.inj H
                  exact And.intro rfl ⟨hp90, (.cons rfl (.cons rfl (.cons rfl (.cons rfl (.cons rfl (.nil'))))))⟩
              · have H := cond_t hc99 H
                refine Eo.off rfl rfl rfl ?_
                refine Eo.off rfl rfl rfl ?_
                refine Eo.off rfl rfl rfl ?_
                refine Eo.off rfl rfl rfl ?_
                refine Eo.off rfl rfl rfl ?_
                refine Eo.off rfl rfl rfl ?_
                refine Eo.off rfl rfl rfl ?_
                refine Eo.off rfl rfl rfl ?_
                refine Eo.off rfl rfl rfl ?_
                refine Eo.off rfl rfl rfl ?_
                refine Eo.off rfl rfl rfl ?_
                refine Eo.off rfl rfl rfl ?_
                refine Eo.val (x := (.v (.bool true))) rfl rfl rfl rfl ?_
                refine Eo.nil ?_
                obtain rfl := Option.some.inj H
                exact And.intro rfl ⟨hp90, (.cons rfl (.cons rfl (.cons rfl (.cons rfl (.cons rfl (.nil'))))))⟩
            · skip
              intro x φ107 σ106 hJ
              obtain ⟨rfl, hp105, hf108⟩ := hJ
              refine ⟨rfl, Eo.of (F := [(1, (.ptr b5 0)), (24, a1), (25, (.v (.int .i64 ((p0.f_Syms.length : Nat) : Int)))), (26, (.v (.int .i64 y55))), (47, (.v (.bool x98)))]) hf108 ?_⟩
              refine Eo.nil ?_
              refine Ec.cond (t := x98) rfl (fun hc109 => ?_) (fun hc109 => ?_)
              · have H := cond_t hc109 H
                refine Ec.seq ?_
                refine Ec.region ?_
                refine Eo.val (x := (.v (.bool false))) rfl rfl rfl rfl ?_
                refine Eo.nil ?_
                obtain rfl := Option.some.inj H
                refine Ec.ret ?_
                refine And.intro rfl (Ret.mk rfl ?_)
                exact ⟨rfl, (Hp.drop hp105 0)⟩
              · have H := cond_f hc109 H
                refine Ec.skip ?_
                refine Ec.region ?_
                refine Eo.val (x := (.v (.int .i64 (IntKind.wrap .i64 (y55 + 1))))) rfl rfl rfl rfl ?_
                refine Eo.val (x := (.v (.int .i64 (IntKind.wrap .i64 (y55 + 1))))) rfl rfl rfl rfl ?_
                refine Eo.nil ?_
                exact Ec.of (.cons rfl (.cons rfl (.cons rfl (.cons rfl (.nil'))))) (ih ((IntKind.wrap .i64 (y55 + 1)), ()) _ hp105 H)
          · have H := cond_f hc84 H
            refine Ec.exit ?_
            obtain rfl := Option.some.inj H
            exact And.intro rfl ⟨(Hp.drop hp0 0), (.nil')⟩
        · rcases v112 with _ | r118
          · intro x φ116 σ115 hJ
            obtain ⟨rfl, hp114, hf117⟩ := hJ
            refine Ec.of (F := []) hf117 ?_
            refine Ec.seq ?_
            refine Ec.region ?_
            refine Eo.val (x := (.v (.bool true))) rfl rfl rfl rfl ?_
            refine Eo.nil ?_
            obtain rfl := Option.some.inj H
            refine Ec.ret ?_
            refine Ret.mk rfl ?_
            exact ⟨rfl, hp114⟩
          · intro x φ119 σ120 hJ
            obtain rfl := Option.some.inj H
            obtain ⟨rfl, hr⟩ := hJ
            exact hr

def gslices_Index_25_L1 (N : Nat) (p0 : (List ByteArray)) (p1 : ByteArray) : Nat → Int → Option (LR Unit Int)
  | 0, _ => none
  | m + 1, y9 => (cond (decide (y9 < ((p0.length : Nat) : Int))) (((atL p0 y9).bind fun x17 => (cond (decide (p1 = x17)) (some (.ret y9)) (gslices_Index_25_L1 N p0 p1 m (IntKind.wrap .i64 (y9 + 1)))))) (some (.out ())))

def gslices_Index_25 (n : Nat) (p0 : (List ByteArray)) (p1 : ByteArray) : Option (Int) := ((gslices_Index_25_L1 n p0 p1 n 0).bind fun v => match v with | .out _ => some (-1) | .ret r28 => some r28)

def gslices_Index_25_post (R : List Res) (r : Int) (x : A) (s : St) : Prop := x = (.v (.int .i64 r)) ∧ Hp s (R)

theorem gslices_Index_25_ok {n : Nat} {p0 : (List ByteArray)} {p1 : ByteArray} {a1 : A} {R : List Res} {σ : St} (h2 : Sl rS a1 p0) (hp : Hp σ R) {r : Int} (H : gslices_Index_25 n p0 p1 = some r) : Ca cfg 25 [a1, (.v (.string p1))] σ (gslices_Index_25_post R r) := by
  unfold gslices_Index_25 at H
  refine Ca.enterL (G := [(0, a1), (1, (.v (.string p1)))]) Tryz.func25 rfl rfl rfl rfl ?_
  refine Ec.seq ?_
  refine Ec.region ?_
  refine Eo.val (x := (.v (.int .i64 0))) rfl rfl rfl rfl ?_
  refine Eo.nil ?_
  refine Ec.seq ?_
  refine Ec.seq ?_
  refine Ec.region ?_
  refine Eo.val (x := a1) rfl rfl rfl rfl ?_
  refine Eo.val (x := (.v (.int .i64 ((p0.length : Nat) : Int)))) (op_lenL h2 rfl rfl rfl rfl rfl Tryz.underlying22) rfl rfl rfl ?_
  refine Eo.val (x := (.v (.int .i64 0))) rfl rfl rfl rfl ?_
  refine Eo.nil ?_
  refine Ec.block ?_
  obtain ⟨v22, hv23, H⟩ := bind_some H
  refine Ec.cut (J := (fun (v : LR Unit Int) (x : X) (φ : Fr) (s : St) => match v with | .out _ => x = (.exit 0) ∧ (Hp s (R) ∧ Fl [] φ) | .ret r => x = .ret ∧ Ret cfg Tryz.f25 (gslices_Index_25_post R r) .ret φ s) v22) (Ec.weak (.cons rfl (.cons rfl (.cons rfl (.cons rfl (.nil'))))) (Ec.loopF (f := (fun m (i : Int × Unit) => gslices_Index_25_L1 n p0 p1 m i.1)) (G := (fun (i : Int × Unit) => ([(0, a1), (1, (.v (.string p1))), (7, (.v (.int .i64 ((p0.length : Nat) : Int)))), (8, (.v (.int .i64 i.1)))] : List (Nat × A)))) (I := (fun (i : Int × Unit) (s : St) => Hp s (R))) (J := (fun (v : LR Unit Int) (x : X) (φ : Fr) (s : St) => match v with | .out _ => x = (.exit 0) ∧ (Hp s (R) ∧ Fl [] φ) | .ret r => x = .ret ∧ Ret cfg Tryz.f25 (gslices_Index_25_post R r) .ret φ s)) (fun _ => rfl) ?_ n (0, ()) _ v22 hp hv23)) ?_
  · rintro m ⟨y9, _⟩ σ0 v hp0 H ih
    change gslices_Index_25_L1 n p0 p1 (m + 1) y9 = some v at H
    rw [gslices_Index_25_L1] at H
    change Ec _ _ _ [(0, a1), (1, (.v (.string p1))), (7, (.v (.int .i64 ((p0.length : Nat) : Int)))), (8, (.v (.int .i64 y9)))] σ0 _
    refine Ec.seq ?_
    refine Ec.region ?_
    refine Eo.val (x := (.v (.bool (decide (y9 < ((p0.length : Nat) : Int)))))) rfl rfl rfl rfl ?_
    refine Eo.nil ?_
    refine Ec.seq ?_
    refine Ec.cond (t := (decide (y9 < ((p0.length : Nat) : Int)))) rfl (fun hc16 => ?_) (fun hc16 => ?_)
    · have H := cond_t hc16 H
      refine Ec.skip ?_
      refine Ec.seq ?_
      refine Ec.block ?_
      refine Ec.seq ?_
      refine Ec.region ?_
      refine Eo.val (x := (.v (.int .i64 y9))) rfl rfl rfl rfl ?_
      refine Eo.val (x := (.v (.int .i64 y9))) rfl rfl rfl rfl ?_
      refine Eo.nil ?_
      refine Ec.seq ?_
      refine Ec.region ?_
      refine Eo.val (x := (.v (.string p1))) rfl rfl rfl rfl ?_
      refine Eo.val (x := a1) rfl rfl rfl rfl ?_
      refine Eo.val (x := (.v (.int .i64 y9))) rfl rfl rfl rfl ?_
      obtain ⟨x17, hvx17, H⟩ := bind_some H
      refine Eo.idx h2 hvx17 rfl rfl rfl Tryz.underlying22 rfl rfl rfl rfl ?_
      rintro cs18 p19 _ hat20 rfl
      refine Eo.val (x := (.v (.string x17))) (op_loadSp hat20 0 rfl rfl rfl rfl rfl) rfl rfl rfl ?_
      refine Eo.val (x := (.v (.bool (decide (p1 = x17))))) (val_b rfl (seq_eq _ _)) rfl rfl rfl ?_
      refine Eo.nil ?_
      refine Ec.cond (t := (decide (p1 = x17))) rfl (fun hc21 => ?_) (fun hc21 => ?_)
      · have H := cond_t hc21 H
        refine Ec.seq ?_
        refine Ec.region ?_
        refine Eo.val (x := (.v (.int .i64 y9))) rfl rfl rfl rfl ?_
        refine Eo.val (x := (.v (.int .i64 y9))) rfl rfl rfl rfl ?_
        refine Eo.nil ?_
        obtain rfl := Option.some.inj H
        refine Ec.ret ?_
        refine And.intro rfl (Ret.mk rfl ?_)
        exact ⟨rfl, hp0⟩
      · have H := cond_f hc21 H
        refine Ec.skip ?_
        refine Ec.region ?_
        refine Eo.val (x := (.v (.int .i64 (IntKind.wrap .i64 (y9 + 1))))) rfl rfl rfl rfl ?_
        refine Eo.val (x := (.v (.int .i64 (IntKind.wrap .i64 (y9 + 1))))) rfl rfl rfl rfl ?_
        refine Eo.nil ?_
        exact Ec.of (.cons rfl (.cons rfl (.cons rfl (.cons rfl (.nil'))))) (ih ((IntKind.wrap .i64 (y9 + 1)), ()) _ hp0 H)
    · have H := cond_f hc16 H
      refine Ec.exit ?_
      obtain rfl := Option.some.inj H
      exact And.intro rfl ⟨hp0, (.nil')⟩
  · rcases v22 with _ | r28
    · intro x φ26 σ25 hJ
      obtain ⟨rfl, hp24, hf27⟩ := hJ
      refine Ec.of (F := []) hf27 ?_
      refine Ec.seq ?_
      refine Ec.region ?_
      refine Eo.val (x := (.v (.int .i64 (-1)))) rfl rfl rfl rfl ?_
      refine Eo.nil ?_
      obtain rfl := Option.some.inj H
      refine Ec.ret ?_
      refine Ret.mk rfl ?_
      exact ⟨rfl, hp24⟩
    · intro x φ29 σ30 hJ
      obtain rfl := Option.some.inj H
      obtain ⟨rfl, hr⟩ := hJ
      exact hr

def gexpr_Eval_L1 (N : Nat) (p0 : TLin) (p1 : (List ByteArray)) (p2 : (List Int)) : Nat → Int → Int → Option (LR Int (Int × Bool))
  | 0, _, _ => none
  | m + 1, y53, y54 => (cond (decide (y54 < ((p0.f_Syms.length : Nat) : Int))) (((atL p0.f_Syms y54).bind fun x94 => ((gslices_Index_25 N p1 x94).bind fun r98 => (cond ((decide (r98 < 0)) || (decide (r98 ≥ ((p2.length : Nat) : Int)))) (some (.ret (0, false))) (((((atL p0.f_Times y54).bind fun x116 => ((atL p2 r98).bind fun x120 => some (IntKind.wrap .i64 (y53 + (IntKind.wrap .i64 (x116 * x120)))))) : Option (Int)).bind fun x115 => gexpr_Eval_L1 N p0 p1 p2 m x115 (IntKind.wrap .i64 (y54 + 1)))))))) (some (.out y53)))

def gexpr_Eval (n : Nat) (p0 : TLin) (p1 : (List ByteArray)) (p2 : (List Int)) : Option ((Int × Bool)) := ((gexpr_normal n p0).bind fun r12 => (cond (!r12) (some (0, false)) (((gexpr_Eval_L1 n p0 p1 p2 n p0.f_Off 0).bind fun v => match v with | .out x92 => some (x92, true) | .ret r136 => some r136))))

def gexpr_Eval_post (R : List Res) (r : (Int × Bool)) (x : A) (s : St) : Prop := x = (.tup [(.v (.int .i64 r.1)), (.v (.bool r.2))]) ∧ Hp s (R)

theorem gexpr_Eval_ok {n : Nat} {p0 : TLin} {p1 : (List ByteArray)} {p2 : (List Int)} {a1 a3 a5 a7 : A} {R : List Res} {σ : St} (h2 : Sl rS a1 p0.f_Syms) (h4 : Sl (rI .i64) a3 p0.f_Times) (h6 : Sl rS a5 p1) (h8 : Sl (rI .i64) a7 p2) (hp : Hp σ R) {r : (Int × Bool)} (H : gexpr_Eval n p0 p1 p2 = some r) : Ca cfg 12 [(.agg [a1, a3, (.v (.int .i64 p0.f_Off))]), a5, a7] σ (gexpr_Eval_post R r) := by
  unfold gexpr_Eval at H
  refine Ca.enterL (G := [(0, (.agg [a1, a3, (.v (.int .i64 p0.f_Off))])), (1, a5), (2, a7)]) Tryz.func12 rfl rfl rfl rfl ?_
  refine Ec.seq ?_
  refine Ec.region ?_
  refine Eo.box hp rfl (by simp [allOne, A.cells, h2.isOne, h4.isOne]) rfl rfl rfl rfl rfl ?_
  intro b9 σ11 hp10
  refine Eo.val (x := (.v (.int .i64 0))) rfl rfl rfl rfl ?_
  refine Eo.val (x := (.v (.bool false))) rfl rfl rfl rfl ?_
  refine Eo.nil ?_
  refine Ec.seq ?_
  refine Ec.seq ?_
  refine Ec.region ?_
  refine Eo.val (x := (.agg [a1, a3, (.v (.int .i64 p0.f_Off))])) (op_loadB hp10 0 rfl rfl rfl rfl) rfl rfl rfl ?_
  obtain ⟨r12, hvr12, H⟩ := bind_some H
  refine Eo.call rfl rfl rfl rfl (gexpr_normal_ok h2 h4 hp10 hvr12) ?_
  rintro _ σ14 ⟨rfl, hp13⟩
  refine Eo.val (x := (.v (.bool (!r12)))) rfl rfl rfl rfl ?_
  refine Eo.nil ?_
  refine Ec.cond (t := (!r12)) rfl (fun hc15 => ?_) (fun hc15 => ?_)
  · have H := cond_t hc15 H
    refine Ec.seq ?_
    refine Ec.region ?_
    refine Eo.val (x := (.v (.int .i64 0))) rfl rfl rfl rfl ?_
    refine Eo.val (x := (.v (.bool false))) rfl rfl rfl rfl ?_
    refine Eo.nil ?_
    obtain rfl := Option.some.inj H
    refine Ec.ret ?_
    refine Ret.mk rfl ?_
    exact ⟨rfl, (Hp.drop hp13 0)⟩
  · have H := cond_f hc15 H
    refine Ec.skip ?_
    refine Ec.seq ?_
    refine Ec.region ?_
    refine Eo.val (x := (.ptr b9 2)) rfl rfl rfl rfl ?_
    refine Eo.val (x := (.v (.int .i64 p0.f_Off))) (op_loadB hp13 0 rfl rfl rfl rfl) rfl rfl rfl ?_
    refine Eo.val (x := (.v (.int .i64 p0.f_Off))) rfl rfl rfl rfl ?_
    refine Eo.nil ?_
    refine Ec.seq ?_
    refine Ec.seq ?_
    refine Ec.region ?_
    refine Eo.val (x := (.ptr b9 0)) rfl rfl rfl rfl ?_
    refine Eo.val (x := a1) (op_loadB hp13 0 rfl rfl rfl rfl) rfl rfl rfl ?_
    refine Eo.val (x := (.v (.int .i64 ((p0.f_Syms.length : Nat) : Int)))) (op_lenL h2 rfl rfl rfl rfl rfl Tryz.underlying22) rfl rfl rfl ?_
    refine Eo.val (x := (.v (.int .i64 0))) rfl rfl rfl rfl ?_
    refine Eo.nil ?_
    refine Ec.block ?_
    obtain ⟨v130, hv131, H⟩ := bind_some H
    refine Ec.cut (J := (fun (v : LR Int (Int × Bool)) (x : X) (φ : Fr) (s : St) => match v with | .out x92 => x = (.exit 0) ∧ (Hp s (R) ∧ Fl [(8, (.v (.int .i64 x92)))] φ) | .ret r => x = .ret ∧ Ret cfg Tryz.f12 (gexpr_Eval_post R r) .ret φ s) v130) (Ec.weak (.cons rfl (.cons rfl (.cons rfl (.cons rfl (.cons rfl (.cons rfl (.cons rfl (.nil')))))))) (Ec.loopF (f := (fun m (i : (Int × Int) × Unit) => gexpr_Eval_L1 n p0 p1 p2 m i.1.1 i.1.2)) (G := (fun (i : (Int × Int) × Unit) => ([(1, a5), (2, a7), (3, (.ptr b9 0)), (8, (.v (.int .i64 i.1.1))), (18, a1), (19, (.v (.int .i64 ((p0.f_Syms.length : Nat) : Int)))), (20, (.v (.int .i64 i.1.2)))] : List (Nat × A)))) (I := (fun (i : (Int × Int) × Unit) (s : St) => Hp s (.blk b9 (.cells [a1, a3, (.v (.int .i64 p0.f_Off))] 25) :: R))) (J := (fun (v : LR Int (Int × Bool)) (x : X) (φ : Fr) (s : St) => match v with | .out x92 => x = (.exit 0) ∧ (Hp s (R) ∧ Fl [(8, (.v (.int .i64 x92)))] φ) | .ret r => x = .ret ∧ Ret cfg Tryz.f12 (gexpr_Eval_post R r) .ret φ s)) (fun _ => rfl) ?_ n ((p0.f_Off, 0), ()) _ v130 hp13 hv131)) ?_
    · rintro m ⟨⟨y53, y54⟩, _⟩ σ0 v hp0 H ih
      change gexpr_Eval_L1 n p0 p1 p2 (m + 1) y53 y54 = some v at H
      rw [gexpr_Eval_L1] at H
      change Ec _ _ _ [(1, a5), (2, a7), (3, (.ptr b9 0)), (8, (.v (.int .i64 y53))), (18, a1), (19, (.v (.int .i64 ((p0.f_Syms.length : Nat) : Int)))), (20, (.v (.int .i64 y54)))] σ0 _
      refine Ec.seq ?_
      refine Ec.region ?_
      refine Eo.val (x := (.v (.bool (decide (y54 < ((p0.f_Syms.length : Nat) : Int)))))) rfl rfl rfl rfl ?_
      refine Eo.nil ?_
      refine Ec.seq ?_
      refine Ec.cond (t := (decide (y54 < ((p0.f_Syms.length : Nat) : Int)))) rfl (fun hc93 => ?_) (fun hc93 => ?_)
      · have H := cond_t hc93 H
        refine Ec.skip ?_
        refine Ec.seq ?_
        refine Ec.block ?_
        refine Ec.seq ?_
        refine Ec.region ?_
        refine Eo.val (x := (.v (.int .i64 y54))) rfl rfl rfl rfl ?_
        obtain ⟨x94, hvx94, H⟩ := bind_some H
        refine Eo.idx h2 hvx94 rfl rfl rfl Tryz.underlying22 rfl rfl rfl rfl ?_
        rintro cs95 p96 _ hat97 rfl
        refine Eo.val (x := (.v (.string x94))) (op_loadSp hat97 0 rfl rfl rfl rfl rfl) rfl rfl rfl ?_
        refine Eo.val (x := (.v (.int .i64 y54))) rfl rfl rfl rfl ?_
        refine Eo.val (x := (.v (.string x94))) rfl rfl rfl rfl ?_
        refine Eo.nil ?_
        refine Ec.seq ?_
        refine Ec.region ?_
        refine Eo.val (x := a5) rfl rfl rfl rfl ?_
        refine Eo.val (x := (.v (.string x94))) rfl rfl rfl rfl ?_
        obtain ⟨r98, hvr98, H⟩ := bind_some H
        refine Eo.call rfl rfl rfl rfl (gslices_Index_25_ok h6 hp0 hvr98) ?_
        rintro _ σ100 ⟨rfl, hp99⟩
        refine Eo.val (x := (.v (.int .i64 r98))) rfl rfl rfl rfl ?_
        refine Eo.nil ?_
        refine Ec.seq ?_
        refine Ec.seq ?_
        refine Ec.region ?_
        refine Eo.val (x := (.v (.int .i64 r98))) rfl rfl rfl rfl ?_
        refine Eo.val (x := (.v (.bool (decide (r98 < 0))))) rfl rfl rfl rfl ?_
        refine Eo.val (x := (.v (.bool (decide (r98 < 0))))) rfl rfl rfl rfl ?_
        refine Eo.cutF 5 [(1, a5), (2, a7), (3, (.ptr b9 0)), (8, (.v (.int .i64 y53))), (18, a1), (19, (.v (.int .i64 ((p0.f_Syms.length : Nat) : Int)))), (20, (.v (.int .i64 y54))), (9, (.v (.int .i64 y54))), (11, (.v (.int .i64 r98))), (35, (.v (.bool ((decide (r98 < 0)) || (decide (r98 ≥ ((p2.length : Nat) : Int)))))))] ?_ ?_
        · skip
          cases hc103 : (decide (r98 < 0))
          · skip
            refine Eo.val (x := (.v (.int .i64 r98))) rfl rfl rfl rfl ?_
            refine Eo.val (x := a7) rfl rfl rfl rfl ?_
            refine Eo.val (x := (.v (.int .i64 ((p2.length : Nat) : Int)))) (op_lenL h8 rfl rfl rfl rfl rfl Tryz.underlying23) rfl rfl rfl ?_
            refine Eo.val (x := (.v (.bool (decide (r98 ≥ ((p2.length : Nat) : Int)))))) rfl rfl rfl rfl ?_
            refine Eo.val (x := (.v (.bool (decide (r98 ≥ ((p2.length : Nat) : Int)))))) rfl rfl rfl rfl ?_
            exact Eo.nil (And.intro rfl (And.intro rfl (.cons rfl (.cons rfl (.cons rfl (.cons rfl (.cons rfl (.cons rfl (.cons rfl (.cons rfl (.cons rfl (.cons rfl (.nil')))))))))))))
          · skip
            refine Eo.off rfl rfl rfl ?_
            refine Eo.off rfl rfl rfl ?_
            refine Eo.off rfl rfl rfl ?_
            refine Eo.off rfl rfl rfl ?_
            refine Eo.val (x := (.v (.bool true))) rfl rfl rfl rfl ?_
            exact Eo.nil (And.intro rfl (And.intro rfl (.cons rfl (.cons rfl (.cons rfl (.cons rfl (.cons rfl (.cons rfl (.cons rfl (.cons rfl (.cons rfl (.cons rfl (.nil')))))))))))))
        · skip
          refine Eo.nil ?_
          refine Ec.cond (t := ((decide (r98 < 0)) || (decide (r98 ≥ ((p2.length : Nat) : Int))))) rfl (fun hc106 => ?_) (fun hc106 => ?_)
          · have H := cond_t hc106 H
            refine Ec.seq ?_
            refine Ec.region ?_
            refine Eo.val (x := (.v (.int .i64 0))) rfl rfl rfl rfl ?_
            refine Eo.val (x := (.v (.bool false))) rfl rfl rfl rfl ?_
            refine Eo.nil ?_
            obtain rfl := Option.some.inj H
            refine Ec.ret ?_
            refine And.intro rfl (Ret.mk rfl ?_)
            exact ⟨rfl, (Hp.drop hp99 0)⟩
          · have H := cond_f hc106 H
            refine Ec.skip ?_
            obtain ⟨x115, hv129, H⟩ := bind_some H
            refine Ec.cut (J := (fun (x115 : Int) (x : X) (φ : Fr) (s : St) => x = .normal ∧ (Hp s (.blk b9 (.cells [a1, a3, (.v (.int .i64 p0.f_Off))] 25) :: R) ∧ Fl [(1, a5), (2, a7), (3, (.ptr b9 0)), (8, (.v (.int .i64 x115))), (18, a1), (19, (.v (.int .i64 ((p0.f_Syms.length : Nat) : Int)))), (20, (.v (.int .i64 y54)))] φ)) x115) ?_ ?_
            · have H := hv129
              refine Ec.drawn2 (by kernel_rfl) ?_
              refine Eo.val (x := (.v (.int .i64 y53))) rfl rfl rfl rfl ?_
              refine Eo.val (x := (.ptr b9 1)) rfl rfl rfl rfl ?_
              refine Eo.val (x := a3) (op_loadB hp99 0 rfl rfl rfl rfl) rfl rfl rfl ?_
              refine Eo.val (x := (.v (.int .i64 y54))) rfl rfl rfl rfl ?_
              obtain ⟨x116, hvx116, H⟩ := bind_some H
              refine Eo.idx h4 hvx116 rfl rfl rfl Tryz.underlying23 rfl rfl rfl rfl ?_
              rintro cs117 p118 _ hat119 rfl
              refine Eo.val (x := (.v (.int .i64 x116))) (op_loadSp hat119 0 rfl rfl rfl rfl rfl) rfl rfl rfl ?_
              refine Eo.val (x := a7) rfl rfl rfl rfl ?_
              refine Eo.val (x := (.v (.int .i64 r98))) rfl rfl rfl rfl ?_
              obtain ⟨x120, hvx120, H⟩ := bind_some H
              refine Eo.idx h8 hvx120 rfl rfl rfl Tryz.underlying23 rfl rfl rfl rfl ?_
              rintro cs121 p122 _ hat123 rfl
              refine Eo.val (x := (.v (.int .i64 x120))) (op_loadSp hat123 0 rfl rfl rfl rfl rfl) rfl rfl rfl ?_
              refine Eo.val (x := (.v (.int .i64 (IntKind.wrap .i64 (x116 * x120))))) rfl rfl rfl rfl ?_
              refine Eo.val (x := (.v (.int .i64 (IntKind.wrap .i64 (y53 + (IntKind.wrap .i64 (x116 * x120))))))) rfl rfl rfl rfl ?_
              refine Eo.val (x := (.v (.int .i64 (IntKind.wrap .i64 (y53 + (IntKind.wrap .i64 (x116 * x120))))))) rfl rfl rfl rfl ?_
              refine Eo.nil ?_
              obtain rfl := Option.some.inj H
              exact And.intro rfl (And.intro rfl ⟨hp99, (.cons rfl (.cons rfl (.cons rfl (.cons rfl (.cons rfl (.cons rfl (.cons rfl (.nil'))))))))⟩)
            · skip
              intro x φ126 σ125 hJ
              obtain ⟨rfl, hp124, hf127⟩ := hJ
              refine Ec.of (F := [(1, a5), (2, a7), (3, (.ptr b9 0)), (8, (.v (.int .i64 x115))), (18, a1), (19, (.v (.int .i64 ((p0.f_Syms.length : Nat) : Int)))), (20, (.v (.int .i64 y54)))]) hf127 ?_
              refine Ec.region ?_
              refine Eo.val (x := (.v (.int .i64 (IntKind.wrap .i64 (y54 + 1))))) rfl rfl rfl rfl ?_
              refine Eo.val (x := (.v (.int .i64 (IntKind.wrap .i64 (y54 + 1))))) rfl rfl rfl rfl ?_
              refine Eo.nil ?_
              exact Ec.of (.cons rfl (.cons rfl (.cons rfl (.cons rfl (.cons rfl (.cons rfl (.cons rfl (.nil')))))))) (ih ((x115, (IntKind.wrap .i64 (y54 + 1))), ()) _ hp124 H)
      · have H := cond_f hc93 H
        refine Ec.exit ?_
        obtain rfl := Option.some.inj H
        exact And.intro rfl ⟨(Hp.drop hp0 0), (.cons rfl (.nil'))⟩
    · rcases v130 with x92 | r136
      · intro x φ134 σ133 hJ
        obtain ⟨rfl, hp132, hf135⟩ := hJ
        refine Ec.of (F := [(8, (.v (.int .i64 x92)))]) hf135 ?_
        refine Ec.seq ?_
        refine Ec.region ?_
        refine Eo.val (x := (.v (.int .i64 x92))) rfl rfl rfl rfl ?_
        refine Eo.val (x := (.v (.int .i64 x92))) rfl rfl rfl rfl ?_
        refine Eo.val (x := (.v (.bool true))) rfl rfl rfl rfl ?_
        refine Eo.nil ?_
        obtain rfl := Option.some.inj H
        refine Ec.ret ?_
        refine Ret.mk rfl ?_
        exact ⟨rfl, hp132⟩
      · intro x φ137 σ138 hJ
        obtain rfl := Option.some.inj H
        obtain ⟨rfl, hr⟩ := hJ
        exact hr

def gdovetailref12_Letter (n : Nat) (p0 : Int) : Option (Bool) := some ((((((decide (p0 ≥ 65)) && (decide (p0 ≤ 90))) || ((decide (p0 ≥ 97)) && (decide (p0 ≤ 122)))) || (p0 == 95)) || (p0 == 46)) || (p0 == 36))

def gdovetailref12_Letter_post (R : List Res) (r : Bool) (x : A) (s : St) : Prop := x = (.v (.bool r)) ∧ Hp s (R)

theorem gdovetailref12_Letter_ok {n : Nat} {p0 : Int} {R : List Res} {σ : St} (hp : Hp σ R) {r : Bool} (H : gdovetailref12_Letter n p0 = some r) : Ca cfg 31 [(.v (.int .u8 p0))] σ (gdovetailref12_Letter_post R r) := by
  unfold gdovetailref12_Letter at H
  refine Ca.enterL (G := [(0, (.v (.int .u8 p0)))]) Tryz.func31 rfl rfl rfl rfl ?_
  refine Ec.seq ?_
  refine Ec.region ?_
  refine Eo.val (x := (.v (.bool false))) rfl rfl rfl rfl ?_
  refine Eo.nil ?_
  refine Ec.seq ?_
  refine Ec.region ?_
  refine Eo.val (x := (.v (.int .u8 p0))) rfl rfl rfl rfl ?_
  refine Eo.val (x := (.v (.bool (decide (p0 ≥ 65))))) rfl rfl rfl rfl ?_
  refine Eo.val (x := (.v (.bool (decide (p0 ≥ 65))))) rfl rfl rfl rfl ?_
  refine Eo.cutF 3 [(0, (.v (.int .u8 p0))), (2, (.v (.bool false))), (8, (.v (.bool ((decide (p0 ≥ 65)) && (decide (p0 ≤ 90))))))] ?_ ?_
  · skip
    cases hc3 : (decide (p0 ≥ 65))
    · skip
      refine Eo.off rfl rfl rfl ?_
      refine Eo.off rfl rfl rfl ?_
      refine Eo.val (x := (.v (.bool false))) rfl rfl rfl rfl ?_
      exact Eo.nil (And.intro rfl (And.intro rfl (.cons rfl (.cons rfl (.cons rfl (.nil'))))))
    · skip
      refine Eo.val (x := (.v (.int .u8 p0))) rfl rfl rfl rfl ?_
      refine Eo.val (x := (.v (.bool (decide (p0 ≤ 90))))) rfl rfl rfl rfl ?_
      refine Eo.val (x := (.v (.bool (decide (p0 ≤ 90))))) rfl rfl rfl rfl ?_
      exact Eo.nil (And.intro rfl (And.intro rfl (.cons rfl (.cons rfl (.cons rfl (.nil'))))))
  · skip
    refine Eo.val (x := (.v (.bool ((decide (p0 ≥ 65)) && (decide (p0 ≤ 90)))))) rfl rfl rfl rfl ?_
    refine Eo.cutF 7 [(0, (.v (.int .u8 p0))), (2, (.v (.bool false))), (16, (.v (.bool (((decide (p0 ≥ 65)) && (decide (p0 ≤ 90))) || ((decide (p0 ≥ 97)) && (decide (p0 ≤ 122)))))))] ?_ ?_
    · skip
      cases hc10 : ((decide (p0 ≥ 65)) && (decide (p0 ≤ 90)))
      · skip
        refine Eo.val (x := (.v (.int .u8 p0))) rfl rfl rfl rfl ?_
        refine Eo.val (x := (.v (.bool (decide (p0 ≥ 97))))) rfl rfl rfl rfl ?_
        refine Eo.val (x := (.v (.bool (decide (p0 ≥ 97))))) rfl rfl rfl rfl ?_
        cases hc11 : (decide (p0 ≥ 97))
        · skip
          refine Eo.off rfl rfl rfl ?_
          refine Eo.off rfl rfl rfl ?_
          refine Eo.val (x := (.v (.bool false))) rfl rfl rfl rfl ?_
          refine Eo.val (x := (.v (.bool false))) rfl rfl rfl rfl ?_
          exact Eo.nil (And.intro rfl (And.intro rfl (.cons rfl (.cons rfl (.cons rfl (.nil'))))))
        · skip
          refine Eo.val (x := (.v (.int .u8 p0))) rfl rfl rfl rfl ?_
          refine Eo.val (x := (.v (.bool (decide (p0 ≤ 122))))) rfl rfl rfl rfl ?_
          refine Eo.val (x := (.v (.bool (decide (p0 ≤ 122))))) rfl rfl rfl rfl ?_
          refine Eo.val (x := (.v (.bool (decide (p0 ≤ 122))))) rfl rfl rfl rfl ?_
          exact Eo.nil (And.intro rfl (And.intro rfl (.cons rfl (.cons rfl (.cons rfl (.nil'))))))
      · skip
        refine Eo.off rfl rfl rfl ?_
        refine Eo.off rfl rfl rfl ?_
        refine Eo.off rfl rfl rfl ?_
        refine Eo.off rfl rfl rfl ?_
        refine Eo.off rfl rfl rfl ?_
        refine Eo.off rfl rfl rfl ?_
        refine Eo.val (x := (.v (.bool true))) rfl rfl rfl rfl ?_
        exact Eo.nil (And.intro rfl (And.intro rfl (.cons rfl (.cons rfl (.cons rfl (.nil'))))))
    · skip
      refine Eo.val (x := (.v (.bool (((decide (p0 ≥ 65)) && (decide (p0 ≤ 90))) || ((decide (p0 ≥ 97)) && (decide (p0 ≤ 122))))))) rfl rfl rfl rfl ?_
      refine Eo.cutF 3 [(0, (.v (.int .u8 p0))), (2, (.v (.bool false))), (20, (.v (.bool ((((decide (p0 ≥ 65)) && (decide (p0 ≤ 90))) || ((decide (p0 ≥ 97)) && (decide (p0 ≤ 122)))) || (p0 == 95)))))] ?_ ?_
      · skip
        cases hc16 : (((decide (p0 ≥ 65)) && (decide (p0 ≤ 90))) || ((decide (p0 ≥ 97)) && (decide (p0 ≤ 122))))
        · skip
          refine Eo.val (x := (.v (.int .u8 p0))) rfl rfl rfl rfl ?_
          refine Eo.val (x := (.v (.bool (p0 == 95)))) rfl rfl rfl rfl ?_
          refine Eo.val (x := (.v (.bool (p0 == 95)))) rfl rfl rfl rfl ?_
          exact Eo.nil (And.intro rfl (And.intro rfl (.cons rfl (.cons rfl (.cons rfl (.nil'))))))
        · skip
          refine Eo.off rfl rfl rfl ?_
          refine Eo.off rfl rfl rfl ?_
          refine Eo.val (x := (.v (.bool true))) rfl rfl rfl rfl ?_
          exact Eo.nil (And.intro rfl (And.intro rfl (.cons rfl (.cons rfl (.cons rfl (.nil'))))))
      · skip
        refine Eo.val (x := (.v (.bool ((((decide (p0 ≥ 65)) && (decide (p0 ≤ 90))) || ((decide (p0 ≥ 97)) && (decide (p0 ≤ 122)))) || (p0 == 95))))) rfl rfl rfl rfl ?_
        refine Eo.cutF 3 [(0, (.v (.int .u8 p0))), (2, (.v (.bool false))), (24, (.v (.bool (((((decide (p0 ≥ 65)) && (decide (p0 ≤ 90))) || ((decide (p0 ≥ 97)) && (decide (p0 ≤ 122)))) || (p0 == 95)) || (p0 == 46)))))] ?_ ?_
        · skip
          cases hc21 : ((((decide (p0 ≥ 65)) && (decide (p0 ≤ 90))) || ((decide (p0 ≥ 97)) && (decide (p0 ≤ 122)))) || (p0 == 95))
          · skip
            refine Eo.val (x := (.v (.int .u8 p0))) rfl rfl rfl rfl ?_
            refine Eo.val (x := (.v (.bool (p0 == 46)))) rfl rfl rfl rfl ?_
            refine Eo.val (x := (.v (.bool (p0 == 46)))) rfl rfl rfl rfl ?_
            exact Eo.nil (And.intro rfl (And.intro rfl (.cons rfl (.cons rfl (.cons rfl (.nil'))))))
          · skip
            refine Eo.off rfl rfl rfl ?_
            refine Eo.off rfl rfl rfl ?_
            refine Eo.val (x := (.v (.bool true))) rfl rfl rfl rfl ?_
            exact Eo.nil (And.intro rfl (And.intro rfl (.cons rfl (.cons rfl (.cons rfl (.nil'))))))
        · skip
          refine Eo.val (x := (.v (.bool (((((decide (p0 ≥ 65)) && (decide (p0 ≤ 90))) || ((decide (p0 ≥ 97)) && (decide (p0 ≤ 122)))) || (p0 == 95)) || (p0 == 46))))) rfl rfl rfl rfl ?_
          refine Eo.cutF 3 [(2, (.v (.bool false))), (28, (.v (.bool ((((((decide (p0 ≥ 65)) && (decide (p0 ≤ 90))) || ((decide (p0 ≥ 97)) && (decide (p0 ≤ 122)))) || (p0 == 95)) || (p0 == 46)) || (p0 == 36)))))] ?_ ?_
          · skip
            cases hc26 : (((((decide (p0 ≥ 65)) && (decide (p0 ≤ 90))) || ((decide (p0 ≥ 97)) && (decide (p0 ≤ 122)))) || (p0 == 95)) || (p0 == 46))
            · skip
              refine Eo.val (x := (.v (.int .u8 p0))) rfl rfl rfl rfl ?_
              refine Eo.val (x := (.v (.bool (p0 == 36)))) rfl rfl rfl rfl ?_
              refine Eo.val (x := (.v (.bool (p0 == 36)))) rfl rfl rfl rfl ?_
              exact Eo.nil (And.intro rfl (And.intro rfl (.cons rfl (.cons rfl (.nil')))))
            · skip
              refine Eo.off rfl rfl rfl ?_
              refine Eo.off rfl rfl rfl ?_
              refine Eo.val (x := (.v (.bool true))) rfl rfl rfl rfl ?_
              exact Eo.nil (And.intro rfl (And.intro rfl (.cons rfl (.cons rfl (.nil')))))
          · skip
            refine Eo.val (x := (.v (.bool ((((((decide (p0 ≥ 65)) && (decide (p0 ≤ 90))) || ((decide (p0 ≥ 97)) && (decide (p0 ≤ 122)))) || (p0 == 95)) || (p0 == 46)) || (p0 == 36))))) rfl rfl rfl rfl ?_
            refine Eo.nil ?_
            obtain rfl := Option.some.inj H
            refine Ec.ret ?_
            refine Ret.mk rfl ?_
            exact ⟨rfl, hp⟩

def gdovetailref12_Digit (n : Nat) (p0 : Int) : Option (Bool) := some ((decide (p0 ≥ 48)) && (decide (p0 ≤ 57)))

def gdovetailref12_Digit_post (R : List Res) (r : Bool) (x : A) (s : St) : Prop := x = (.v (.bool r)) ∧ Hp s (R)

theorem gdovetailref12_Digit_ok {n : Nat} {p0 : Int} {R : List Res} {σ : St} (hp : Hp σ R) {r : Bool} (H : gdovetailref12_Digit n p0 = some r) : Ca cfg 32 [(.v (.int .u8 p0))] σ (gdovetailref12_Digit_post R r) := by
  unfold gdovetailref12_Digit at H
  refine Ca.enterL (G := [(0, (.v (.int .u8 p0)))]) Tryz.func32 rfl rfl rfl rfl ?_
  refine Ec.seq ?_
  refine Ec.region ?_
  refine Eo.val (x := (.v (.bool false))) rfl rfl rfl rfl ?_
  refine Eo.nil ?_
  refine Ec.seq ?_
  refine Ec.region ?_
  refine Eo.val (x := (.v (.int .u8 p0))) rfl rfl rfl rfl ?_
  refine Eo.val (x := (.v (.bool (decide (p0 ≥ 48))))) rfl rfl rfl rfl ?_
  refine Eo.val (x := (.v (.bool (decide (p0 ≥ 48))))) rfl rfl rfl rfl ?_
  refine Eo.cutF 3 [(2, (.v (.bool false))), (8, (.v (.bool ((decide (p0 ≥ 48)) && (decide (p0 ≤ 57))))))] ?_ ?_
  · skip
    cases hc3 : (decide (p0 ≥ 48))
    · skip
      refine Eo.off rfl rfl rfl ?_
      refine Eo.off rfl rfl rfl ?_
      refine Eo.val (x := (.v (.bool false))) rfl rfl rfl rfl ?_
      exact Eo.nil (And.intro rfl (And.intro rfl (.cons rfl (.cons rfl (.nil')))))
    · skip
      refine Eo.val (x := (.v (.int .u8 p0))) rfl rfl rfl rfl ?_
      refine Eo.val (x := (.v (.bool (decide (p0 ≤ 57))))) rfl rfl rfl rfl ?_
      refine Eo.val (x := (.v (.bool (decide (p0 ≤ 57))))) rfl rfl rfl rfl ?_
      exact Eo.nil (And.intro rfl (And.intro rfl (.cons rfl (.cons rfl (.nil')))))
  · skip
    refine Eo.val (x := (.v (.bool ((decide (p0 ≥ 48)) && (decide (p0 ≤ 57)))))) rfl rfl rfl rfl ?_
    refine Eo.nil ?_
    obtain rfl := Option.some.inj H
    refine Ec.ret ?_
    refine Ret.mk rfl ?_
    exact ⟨rfl, hp⟩

def gdovetailref12_Name_L1 (N : Nat) (p0 : ByteArray) : Nat → Int → Option (LR Unit Bool)
  | 0, _ => none
  | m + 1, y40 => (cond (decide (y40 < ((p0.size : Nat) : Int))) (((atS p0 y40).bind fun b65 => ((gdovetailref12_Letter N b65).bind fun r66 => (((cond (!r66) (((atS p0 y40).bind fun b76 => ((gdovetailref12_Digit N b76).bind fun r77 => some (!r77)))) (some false)) : Option (Bool)).bind fun x74 => (cond x74 (some (.ret false)) (gdovetailref12_Name_L1 N p0 m (IntKind.wrap .i64 (y40 + 1)))))))) (some (.out ())))

def gdovetailref12_Name (n : Nat) (p0 : ByteArray) : Option (Bool) := (((cond (decide (p0 = (ByteArray.mk #[]))) (some true) (((atS p0 0).bind fun b8 => ((gdovetailref12_Letter n b8).bind fun r9 => some (!r9))))) : Option (Bool)).bind fun x6 => (cond x6 (some false) (((gdovetailref12_Name_L1 n p0 n 1).bind fun v => match v with | .out _ => some true | .ret r93 => some r93))))

def gdovetailref12_Name_post (R : List Res) (r : Bool) (x : A) (s : St) : Prop := x = (.v (.bool r)) ∧ Hp s (R)

theorem gdovetailref12_Name_ok {n : Nat} {p0 : ByteArray} {R : List Res} {σ : St} (hp : Hp σ R) {r : Bool} (H : gdovetailref12_Name n p0 = some r) : Ca cfg 20 [(.v (.string p0))] σ (gdovetailref12_Name_post R r) := by
  unfold gdovetailref12_Name at H
  refine Ca.enterL (G := [(0, (.v (.string p0)))]) Tryz.func20 rfl rfl rfl rfl ?_
  refine Ec.seq ?_
  refine Ec.region ?_
  refine Eo.val (x := (.v (.bool false))) rfl rfl rfl rfl ?_
  refine Eo.nil ?_
  refine Ec.seq ?_
  refine Ec.seq ?_
  refine Ec.region ?_
  refine Eo.val (x := (.v (.string p0))) rfl rfl rfl rfl ?_
  refine Eo.val (x := (.v (.bool (decide (p0 = (ByteArray.mk #[])))))) (val_b rfl (seq_eq _ _)) rfl rfl rfl ?_
  refine Eo.val (x := (.v (.bool (decide (p0 = (ByteArray.mk #[])))))) rfl rfl rfl rfl ?_
  obtain ⟨x6, hv97, H⟩ := bind_some H
  refine Eo.cutN 5 (J := (fun (x6 : Bool) (x : X) (φ : Fr) (s : St) => x = .normal ∧ (Hp s (R) ∧ Fl [(0, (.v (.string p0))), (11, (.v (.bool x6)))] φ)) x6) ?_ ?_
  · have H := hv97
    cases hc7 : (decide (p0 = (ByteArray.mk #[])))
    · have H := cond_f hc7 H
      refine Eo.val (x := (.v (.string p0))) rfl rfl rfl rfl ?_
      obtain ⟨b8, hvb8, H⟩ := bind_some H
      refine Eo.val (op_byteS hvb8 rfl rfl rfl Tryz.underlying9) rfl rfl rfl ?_
      obtain ⟨r9, hvr9, H⟩ := bind_some H
      refine Eo.call rfl rfl rfl rfl (gdovetailref12_Letter_ok hp hvr9) ?_
      rintro _ σ11 ⟨rfl, hp10⟩
      refine Eo.val (x := (.v (.bool (!r9)))) rfl rfl rfl rfl ?_
      refine Eo.val (x := (.v (.bool (!r9)))) rfl rfl rfl rfl ?_
      refine Eo.nil ?_
      obtain rfl := Option.some.inj H
      exact And.intro rfl ⟨hp10, (.cons rfl (.cons rfl (.nil')))⟩
    · have H := cond_t hc7 H
      refine Eo.off rfl rfl rfl ?_
      refine Eo.off rfl rfl rfl ?_
      refine Eo.off rfl rfl rfl ?_
      refine Eo.off rfl rfl rfl ?_
      refine Eo.val (x := (.v (.bool true))) rfl rfl rfl rfl ?_
      refine Eo.nil ?_
      obtain rfl := Option.some.inj H
      exact And.intro rfl ⟨hp, (.cons rfl (.cons rfl (.nil')))⟩
  · skip
    intro x φ14 σ13 hJ
    obtain ⟨rfl, hp12, hf15⟩ := hJ
    refine ⟨rfl, Eo.of (F := [(0, (.v (.string p0))), (11, (.v (.bool x6)))]) hf15 ?_⟩
    refine Eo.nil ?_
    refine Ec.cond (t := x6) rfl (fun hc16 => ?_) (fun hc16 => ?_)
    · have H := cond_t hc16 H
      refine Ec.seq ?_
      refine Ec.region ?_
      refine Eo.val (x := (.v (.bool false))) rfl rfl rfl rfl ?_
      refine Eo.nil ?_
      obtain rfl := Option.some.inj H
      refine Ec.ret ?_
      refine Ret.mk rfl ?_
      exact ⟨rfl, hp12⟩
    · have H := cond_f hc16 H
      refine Ec.skip ?_
      refine Ec.seq ?_
      refine Ec.seq ?_
      refine Ec.region ?_
      refine Eo.val (x := (.v (.int .i64 1))) rfl rfl rfl rfl ?_
      refine Eo.nil ?_
      refine Ec.block ?_
      obtain ⟨v87, hv88, H⟩ := bind_some H
      refine Ec.cut (J := (fun (v : LR Unit Bool) (x : X) (φ : Fr) (s : St) => match v with | .out _ => x = (.exit 0) ∧ (Hp s (R) ∧ Fl [] φ) | .ret r => x = .ret ∧ Ret cfg Tryz.f20 (gdovetailref12_Name_post R r) .ret φ s) v87) (Ec.weak (.cons rfl (.cons rfl (.nil'))) (Ec.loopF (f := (fun m (i : Int × Unit) => gdovetailref12_Name_L1 n p0 m i.1)) (G := (fun (i : Int × Unit) => ([(0, (.v (.string p0))), (3, (.v (.int .i64 i.1)))] : List (Nat × A)))) (I := (fun (i : Int × Unit) (s : St) => Hp s (R))) (J := (fun (v : LR Unit Bool) (x : X) (φ : Fr) (s : St) => match v with | .out _ => x = (.exit 0) ∧ (Hp s (R) ∧ Fl [] φ) | .ret r => x = .ret ∧ Ret cfg Tryz.f20 (gdovetailref12_Name_post R r) .ret φ s)) (fun _ => rfl) ?_ n (1, ()) _ v87 hp12 hv88)) ?_
      · rintro m ⟨y40, _⟩ σ0 v hp0 H ih
        change gdovetailref12_Name_L1 n p0 (m + 1) y40 = some v at H
        rw [gdovetailref12_Name_L1] at H
        change Ec _ _ _ [(0, (.v (.string p0))), (3, (.v (.int .i64 y40)))] σ0 _
        refine Ec.seq ?_
        refine Ec.seq ?_
        refine Ec.region ?_
        refine Eo.val (x := (.v (.int .i64 y40))) rfl rfl rfl rfl ?_
        refine Eo.val (x := (.v (.string p0))) rfl rfl rfl rfl ?_
        refine Eo.val (x := (.v (.int .i64 ((p0.size : Nat) : Int)))) (op_len rfl rfl rfl rfl rfl Tryz.underlying9) rfl rfl rfl ?_
        refine Eo.val (x := (.v (.bool (decide (y40 < ((p0.size : Nat) : Int)))))) rfl rfl rfl rfl ?_
        refine Eo.nil ?_
        refine Ec.cond (t := (decide (y40 < ((p0.size : Nat) : Int)))) rfl (fun hc64 => ?_) (fun hc64 => ?_)
        · have H := cond_t hc64 H
          refine Ec.skip ?_
          refine Ec.seq ?_
          refine Ec.block ?_
          refine Ec.seq ?_
          refine Ec.region ?_
          refine Eo.val (x := (.v (.string p0))) rfl rfl rfl rfl ?_
          refine Eo.val (x := (.v (.int .i64 y40))) rfl rfl rfl rfl ?_
          obtain ⟨b65, hvb65, H⟩ := bind_some H
          refine Eo.val (op_byteS hvb65 rfl rfl rfl Tryz.underlying9) rfl rfl rfl ?_
          obtain ⟨r66, hvr66, H⟩ := bind_some H
          refine Eo.call rfl rfl rfl rfl (gdovetailref12_Letter_ok hp0 hvr66) ?_
          rintro _ σ68 ⟨rfl, hp67⟩
          refine Eo.val (x := (.v (.bool (!r66)))) rfl rfl rfl rfl ?_
          refine Eo.val (x := (.v (.bool (!r66)))) rfl rfl rfl rfl ?_
          obtain ⟨x74, hv86, H⟩ := bind_some H
          refine Eo.cutN 6 (J := (fun (x74 : Bool) (x : X) (φ : Fr) (s : St) => x = .normal ∧ (Hp s (R) ∧ Fl [(0, (.v (.string p0))), (3, (.v (.int .i64 y40))), (29, (.v (.bool x74)))] φ)) x74) ?_ ?_
          · have H := hv86
            cases hc75 : (!r66)
            · have H := cond_f hc75 H
              refine Eo.off rfl rfl rfl ?_
              refine Eo.off rfl rfl rfl ?_
              refine Eo.off rfl rfl rfl ?_
              refine Eo.off rfl rfl rfl ?_
              refine Eo.off rfl rfl rfl ?_
              refine Eo.val (x := (.v (.bool false))) rfl rfl rfl rfl ?_
              refine Eo.nil ?_
              obtain rfl := Option.some.inj H
              exact And.intro rfl ⟨hp67, (.cons rfl (.cons rfl (.cons rfl (.nil'))))⟩
            · have H := cond_t hc75 H
              refine Eo.val (x := (.v (.string p0))) rfl rfl rfl rfl ?_
              refine Eo.val (x := (.v (.int .i64 y40))) rfl rfl rfl rfl ?_
              obtain ⟨b76, hvb76, H⟩ := bind_some H
              refine Eo.val (op_byteS hvb76 rfl rfl rfl Tryz.underlying9) rfl rfl rfl ?_
              obtain ⟨r77, hvr77, H⟩ := bind_some H
              refine Eo.call rfl rfl rfl rfl (gdovetailref12_Digit_ok hp67 hvr77) ?_
              rintro _ σ79 ⟨rfl, hp78⟩
              refine Eo.val (x := (.v (.bool (!r77)))) rfl rfl rfl rfl ?_
              refine Eo.val (x := (.v (.bool (!r77)))) rfl rfl rfl rfl ?_
              refine Eo.nil ?_
              obtain rfl := Option.some.inj H
              exact And.intro rfl ⟨hp78, (.cons rfl (.cons rfl (.cons rfl (.nil'))))⟩
          · skip
            intro x φ82 σ81 hJ
            obtain ⟨rfl, hp80, hf83⟩ := hJ
            refine ⟨rfl, Eo.of (F := [(0, (.v (.string p0))), (3, (.v (.int .i64 y40))), (29, (.v (.bool x74)))]) hf83 ?_⟩
            refine Eo.nil ?_
            refine Ec.cond (t := x74) rfl (fun hc84 => ?_) (fun hc84 => ?_)
            · have H := cond_t hc84 H
              refine Ec.seq ?_
              refine Ec.region ?_
              refine Eo.val (x := (.v (.bool false))) rfl rfl rfl rfl ?_
              refine Eo.nil ?_
              obtain rfl := Option.some.inj H
              refine Ec.ret ?_
              refine And.intro rfl (Ret.mk rfl ?_)
              exact ⟨rfl, hp80⟩
            · have H := cond_f hc84 H
              refine Ec.skip ?_
              refine Ec.region ?_
              refine Eo.val (x := (.v (.int .i64 y40))) rfl rfl rfl rfl ?_
              refine Eo.val (x := (.v (.int .i64 (IntKind.wrap .i64 (y40 + 1))))) rfl rfl rfl rfl ?_
              refine Eo.val (x := (.v (.int .i64 (IntKind.wrap .i64 (y40 + 1))))) rfl rfl rfl rfl ?_
              refine Eo.nil ?_
              exact Ec.of (.cons rfl (.cons rfl (.nil'))) (ih ((IntKind.wrap .i64 (y40 + 1)), ()) _ hp80 H)
        · have H := cond_f hc64 H
          refine Ec.exit ?_
          obtain rfl := Option.some.inj H
          exact And.intro rfl ⟨hp0, (.nil')⟩
      · rcases v87 with _ | r93
        · intro x φ91 σ90 hJ
          obtain ⟨rfl, hp89, hf92⟩ := hJ
          refine Ec.of (F := []) hf92 ?_
          refine Ec.seq ?_
          refine Ec.region ?_
          refine Eo.val (x := (.v (.bool true))) rfl rfl rfl rfl ?_
          refine Eo.nil ?_
          obtain rfl := Option.some.inj H
          refine Ec.ret ?_
          refine Ret.mk rfl ?_
          exact ⟨rfl, hp89⟩
        · intro x φ94 σ95 hJ
          obtain rfl := Option.some.inj H
          obtain ⟨rfl, hr⟩ := hJ
          exact hr

def gdovetailref12_Normal_L1 (N : Nat) (p0 : TLin) : Nat → Int → Option (LR Unit Bool)
  | 0, _ => none
  | m + 1, y59 => (cond (decide (y59 < ((p0.f_Syms.length : Nat) : Int))) (((atL p0.f_Syms y59).bind fun x106 => ((gdovetailref12_Name N x106).bind fun r110 => (((cond (!r110) (some true) (((atL p0.f_Times y59).bind fun x120 => some (x120 == 0)))) : Option (Bool)).bind fun x118 => (((cond x118 (some true) ((cond (decide (y59 > 0)) (((atL p0.f_Syms (IntKind.wrap .i64 (y59 - 1))).bind fun x137 => some (!(strLt x137 x106)))) (some false)))) : Option (Bool)).bind fun x134 => (cond x134 (some (.ret false)) (gdovetailref12_Normal_L1 N p0 m (IntKind.wrap .i64 (y59 + 1))))))))) (some (.out ())))

def gdovetailref12_Normal (n : Nat) (p0 : TLin) : Option (Bool) := (cond ((((p0.f_Syms.length : Nat) : Int) != ((p0.f_Times.length : Nat) : Int)) || (decide (((p0.f_Syms.length : Nat) : Int) > 16))) (some false) (((gdovetailref12_Normal_L1 n p0 n 0).bind fun v => match v with | .out _ => some true | .ret r156 => some r156)))

def gdovetailref12_Normal_post (R : List Res) (r : Bool) (x : A) (s : St) : Prop := x = (.v (.bool r)) ∧ Hp s (R)

theorem gdovetailref12_Normal_ok {n : Nat} {p0 : TLin} {a1 a3 : A} {R : List Res} {σ : St} (h2 : Sl rS a1 p0.f_Syms) (h4 : Sl (rI .i64) a3 p0.f_Times) (hp : Hp σ R) {r : Bool} (H : gdovetailref12_Normal n p0 = some r) : Ca cfg 8 [(.agg [a1, a3, (.v (.int .i64 p0.f_Off))])] σ (gdovetailref12_Normal_post R r) := by
  unfold gdovetailref12_Normal at H
  refine Ca.enterL (G := [(0, (.agg [a1, a3, (.v (.int .i64 p0.f_Off))]))]) Tryz.func8 rfl rfl rfl rfl ?_
  refine Ec.seq ?_
  refine Ec.region ?_
  refine Eo.box hp rfl (by simp [allOne, A.cells, h2.isOne, h4.isOne]) rfl rfl rfl rfl rfl ?_
  intro b5 σ7 hp6
  refine Eo.val (x := (.v (.bool false))) rfl rfl rfl rfl ?_
  refine Eo.nil ?_
  refine Ec.seq ?_
  refine Ec.seq ?_
  refine Ec.region ?_
  refine Eo.val (x := (.ptr b5 0)) rfl rfl rfl rfl ?_
  refine Eo.val (x := a1) (op_loadB hp6 0 rfl rfl rfl rfl) rfl rfl rfl ?_
  refine Eo.val (x := (.v (.int .i64 ((p0.f_Syms.length : Nat) : Int)))) (op_lenL h2 rfl rfl rfl rfl rfl Tryz.underlying22) rfl rfl rfl ?_
  refine Eo.val (x := (.ptr b5 1)) rfl rfl rfl rfl ?_
  refine Eo.val (x := a3) (op_loadB hp6 0 rfl rfl rfl rfl) rfl rfl rfl ?_
  refine Eo.val (x := (.v (.int .i64 ((p0.f_Times.length : Nat) : Int)))) (op_lenL h4 rfl rfl rfl rfl rfl Tryz.underlying23) rfl rfl rfl ?_
  refine Eo.val (x := (.v (.bool (((p0.f_Syms.length : Nat) : Int) != ((p0.f_Times.length : Nat) : Int))))) rfl rfl rfl rfl ?_
  refine Eo.val (x := (.v (.bool (((p0.f_Syms.length : Nat) : Int) != ((p0.f_Times.length : Nat) : Int))))) rfl rfl rfl rfl ?_
  refine Eo.cutF 5 [(1, (.ptr b5 0)), (17, (.v (.bool ((((p0.f_Syms.length : Nat) : Int) != ((p0.f_Times.length : Nat) : Int)) || (decide (((p0.f_Syms.length : Nat) : Int) > 16))))))] ?_ ?_
  · skip
    cases hc10 : (((p0.f_Syms.length : Nat) : Int) != ((p0.f_Times.length : Nat) : Int))
    · skip
      refine Eo.val (x := (.ptr b5 0)) rfl rfl rfl rfl ?_
      refine Eo.val (x := a1) (op_loadB hp6 0 rfl rfl rfl rfl) rfl rfl rfl ?_
      refine Eo.val (x := (.v (.int .i64 ((p0.f_Syms.length : Nat) : Int)))) (op_lenL h2 rfl rfl rfl rfl rfl Tryz.underlying22) rfl rfl rfl ?_
      refine Eo.val (x := (.v (.bool (decide (((p0.f_Syms.length : Nat) : Int) > 16))))) rfl rfl rfl rfl ?_
      refine Eo.val (x := (.v (.bool (decide (((p0.f_Syms.length : Nat) : Int) > 16))))) rfl rfl rfl rfl ?_
      exact Eo.nil (And.intro rfl (And.intro rfl (.cons rfl (.cons rfl (.nil')))))
    · skip
      refine Eo.off rfl rfl rfl ?_
      refine Eo.off rfl rfl rfl ?_
      refine Eo.off rfl rfl rfl ?_
      refine Eo.off rfl rfl rfl ?_
      refine Eo.val (x := (.v (.bool true))) rfl rfl rfl rfl ?_
      exact Eo.nil (And.intro rfl (And.intro rfl (.cons rfl (.cons rfl (.nil')))))
  · skip
    refine Eo.nil ?_
    refine Ec.cond (t := ((((p0.f_Syms.length : Nat) : Int) != ((p0.f_Times.length : Nat) : Int)) || (decide (((p0.f_Syms.length : Nat) : Int) > 16)))) rfl (fun hc13 => ?_) (fun hc13 => ?_)
    · have H := cond_t hc13 H
      refine Ec.seq ?_
      refine Ec.region ?_
      refine Eo.val (x := (.v (.bool false))) rfl rfl rfl rfl ?_
      refine Eo.nil ?_
      obtain rfl := Option.some.inj H
      refine Ec.ret ?_
      refine Ret.mk rfl ?_
      exact ⟨rfl, (Hp.drop hp6 0)⟩
    · have H := cond_f hc13 H
      refine Ec.skip ?_
      refine Ec.seq ?_
      refine Ec.seq ?_
      refine Ec.region ?_
      refine Eo.val (x := (.ptr b5 0)) rfl rfl rfl rfl ?_
      refine Eo.val (x := a1) (op_loadB hp6 0 rfl rfl rfl rfl) rfl rfl rfl ?_
      refine Eo.val (x := (.v (.int .i64 ((p0.f_Syms.length : Nat) : Int)))) (op_lenL h2 rfl rfl rfl rfl rfl Tryz.underlying22) rfl rfl rfl ?_
      refine Eo.val (x := (.v (.int .i64 0))) rfl rfl rfl rfl ?_
      refine Eo.nil ?_
      refine Ec.block ?_
      obtain ⟨v150, hv151, H⟩ := bind_some H
      refine Ec.cut (J := (fun (v : LR Unit Bool) (x : X) (φ : Fr) (s : St) => match v with | .out _ => x = (.exit 0) ∧ (Hp s (R) ∧ Fl [] φ) | .ret r => x = .ret ∧ Ret cfg Tryz.f8 (gdovetailref12_Normal_post R r) .ret φ s) v150) (Ec.weak (.cons rfl (.cons rfl (.cons rfl (.cons rfl (.nil'))))) (Ec.loopF (f := (fun m (i : Int × Unit) => gdovetailref12_Normal_L1 n p0 m i.1)) (G := (fun (i : Int × Unit) => ([(1, (.ptr b5 0)), (19, a1), (20, (.v (.int .i64 ((p0.f_Syms.length : Nat) : Int)))), (21, (.v (.int .i64 i.1)))] : List (Nat × A)))) (I := (fun (i : Int × Unit) (s : St) => Hp s (.blk b5 (.cells [a1, a3, (.v (.int .i64 p0.f_Off))] 25) :: R))) (J := (fun (v : LR Unit Bool) (x : X) (φ : Fr) (s : St) => match v with | .out _ => x = (.exit 0) ∧ (Hp s (R) ∧ Fl [] φ) | .ret r => x = .ret ∧ Ret cfg Tryz.f8 (gdovetailref12_Normal_post R r) .ret φ s)) (fun _ => rfl) ?_ n (0, ()) _ v150 hp6 hv151)) ?_
      · rintro m ⟨y59, _⟩ σ0 v hp0 H ih
        change gdovetailref12_Normal_L1 n p0 (m + 1) y59 = some v at H
        rw [gdovetailref12_Normal_L1] at H
        change Ec _ _ _ [(1, (.ptr b5 0)), (19, a1), (20, (.v (.int .i64 ((p0.f_Syms.length : Nat) : Int)))), (21, (.v (.int .i64 y59)))] σ0 _
        refine Ec.seq ?_
        refine Ec.region ?_
        refine Eo.val (x := (.v (.bool (decide (y59 < ((p0.f_Syms.length : Nat) : Int)))))) rfl rfl rfl rfl ?_
        refine Eo.nil ?_
        refine Ec.seq ?_
        refine Ec.cond (t := (decide (y59 < ((p0.f_Syms.length : Nat) : Int)))) rfl (fun hc105 => ?_) (fun hc105 => ?_)
        · have H := cond_t hc105 H
          refine Ec.skip ?_
          refine Ec.seq ?_
          refine Ec.block ?_
          refine Ec.seq ?_
          refine Ec.region ?_
          refine Eo.val (x := (.v (.int .i64 y59))) rfl rfl rfl rfl ?_
          obtain ⟨x106, hvx106, H⟩ := bind_some H
          refine Eo.idx h2 hvx106 rfl rfl rfl Tryz.underlying22 rfl rfl rfl rfl ?_
          rintro cs107 p108 _ hat109 rfl
          refine Eo.val (x := (.v (.string x106))) (op_loadSp hat109 0 rfl rfl rfl rfl rfl) rfl rfl rfl ?_
          refine Eo.val (x := (.v (.int .i64 y59))) rfl rfl rfl rfl ?_
          refine Eo.val (x := (.v (.string x106))) rfl rfl rfl rfl ?_
          refine Eo.nil ?_
          refine Ec.seq ?_
          refine Ec.region ?_
          refine Eo.val (x := (.v (.string x106))) rfl rfl rfl rfl ?_
          obtain ⟨r110, hvr110, H⟩ := bind_some H
          refine Eo.call rfl rfl rfl rfl (gdovetailref12_Name_ok hp0 hvr110) ?_
          rintro _ σ112 ⟨rfl, hp111⟩
          refine Eo.val (x := (.v (.bool (!r110)))) rfl rfl rfl rfl ?_
          refine Eo.val (x := (.v (.bool (!r110)))) rfl rfl rfl rfl ?_
          obtain ⟨x118, hv149, H⟩ := bind_some H
          refine Eo.cutN 7 (J := (fun (x118 : Bool) (x : X) (φ : Fr) (s : St) => x = .normal ∧ (Hp s (.blk b5 (.cells [a1, a3, (.v (.int .i64 p0.f_Off))] 25) :: R) ∧ Fl [(1, (.ptr b5 0)), (3, (.v (.int .i64 y59))), (4, (.v (.string x106))), (19, a1), (20, (.v (.int .i64 ((p0.f_Syms.length : Nat) : Int)))), (21, (.v (.int .i64 y59))), (36, (.v (.bool x118)))] φ)) x118) ?_ ?_
          · have H := hv149
            cases hc119 : (!r110)
            · have H := cond_f hc119 H
              refine Eo.val (x := (.ptr b5 1)) rfl rfl rfl rfl ?_
              refine Eo.val (x := a3) (op_loadB hp111 0 rfl rfl rfl rfl) rfl rfl rfl ?_
              refine Eo.val (x := (.v (.int .i64 y59))) rfl rfl rfl rfl ?_
              obtain ⟨x120, hvx120, H⟩ := bind_some H
              refine Eo.idx h4 hvx120 rfl rfl rfl Tryz.underlying23 rfl rfl rfl rfl ?_
              rintro cs121 p122 _ hat123 rfl
              refine Eo.val (x := (.v (.int .i64 x120))) (op_loadSp hat123 0 rfl rfl rfl rfl rfl) rfl rfl rfl ?_
              refine Eo.val (x := (.v (.bool (x120 == 0)))) rfl rfl rfl rfl ?_
              refine Eo.val (x := (.v (.bool (x120 == 0)))) rfl rfl rfl rfl ?_
              refine Eo.nil ?_
              obtain rfl := Option.some.inj H
              exact And.intro rfl ⟨hp111, (.cons rfl (.cons rfl (.cons rfl (.cons rfl (.cons rfl (.cons rfl (.cons rfl (.nil'))))))))⟩
            · have H := cond_t hc119 H
              refine Eo.off rfl rfl rfl ?_
              refine Eo.off rfl rfl rfl ?_
              refine Eo.off rfl rfl rfl ?_
              refine Eo.off rfl rfl rfl ?_
              refine Eo.off rfl rfl rfl ?_
              refine Eo.off rfl rfl rfl ?_
              refine Eo.val (x := (.v (.bool true))) rfl rfl rfl rfl ?_
              refine Eo.nil ?_
              obtain rfl := Option.some.inj H
              exact And.intro rfl ⟨hp111, (.cons rfl (.cons rfl (.cons rfl (.cons rfl (.cons rfl (.cons rfl (.cons rfl (.nil'))))))))⟩
          · skip
            intro x φ126 σ125 hJ
            obtain ⟨rfl, hp124, hf127⟩ := hJ
            refine ⟨rfl, Eo.of (F := [(1, (.ptr b5 0)), (3, (.v (.int .i64 y59))), (4, (.v (.string x106))), (19, a1), (20, (.v (.int .i64 ((p0.f_Syms.length : Nat) : Int)))), (21, (.v (.int .i64 y59))), (36, (.v (.bool x118)))]) hf127 ?_⟩
            refine Eo.val (x := (.v (.bool x118))) rfl rfl rfl rfl ?_
            obtain ⟨x134, hv147, H⟩ := bind_some H
            refine Eo.cutN 13 (J := (fun (x134 : Bool) (x : X) (φ : Fr) (s : St) => x = .normal ∧ (Hp s (.blk b5 (.cells [a1, a3, (.v (.int .i64 p0.f_Off))] 25) :: R) ∧ Fl [(1, (.ptr b5 0)), (19, a1), (20, (.v (.int .i64 ((p0.f_Syms.length : Nat) : Int)))), (21, (.v (.int .i64 y59))), (50, (.v (.bool x134)))] φ)) x134) ?_ ?_
            · have H := hv147
              cases hc135 : x118
              · have H := cond_f hc135 H
                refine Eo.val (x := (.v (.int .i64 y59))) rfl rfl rfl rfl ?_
                refine Eo.val (x := (.v (.bool (decide (y59 > 0))))) rfl rfl rfl rfl ?_
                refine Eo.val (x := (.v (.bool (decide (y59 > 0))))) rfl rfl rfl rfl ?_
                cases hc136 : (decide (y59 > 0))
                · have H := cond_f hc136 H
                  refine Eo.off rfl rfl rfl ?_
                  refine Eo.off rfl rfl rfl ?_
                  refine Eo.off rfl rfl rfl ?_
                  refine Eo.off rfl rfl rfl ?_
                  refine Eo.off rfl rfl rfl ?_
                  refine Eo.off rfl rfl rfl ?_
                  refine Eo.off rfl rfl rfl ?_
                  refine Eo.off rfl rfl rfl ?_
                  refine Eo.val (x := (.v (.bool false))) rfl rfl rfl rfl ?_
                  refine Eo.val (x := (.v (.bool false))) rfl rfl rfl rfl ?_
                  refine Eo.nil ?_
                  obtain rfl := Option.some.inj H
                  exact And.intro rfl ⟨hp124, (.cons rfl (.cons rfl (.cons rfl (.cons rfl (.cons rfl (.nil'))))))⟩
                · have H := cond_t hc136 H
                  refine Eo.val (x := (.ptr b5 0)) rfl rfl rfl rfl ?_
                  refine Eo.val (x := a1) (op_loadB hp124 0 rfl rfl rfl rfl) rfl rfl rfl ?_
                  refine Eo.val (x := (.v (.int .i64 y59))) rfl rfl rfl rfl ?_
                  refine Eo.val (x := (.v (.int .i64 (IntKind.wrap .i64 (y59 - 1))))) rfl rfl rfl rfl ?_
                  obtain ⟨x137, hvx137, H⟩ := bind_some H
                  refine Eo.idx h2 hvx137 rfl rfl rfl Tryz.underlying22 rfl rfl rfl rfl ?_
                  rintro cs138 p139 _ hat140 rfl
                  refine Eo.val (x := (.v (.string x137))) (op_loadSp hat140 0 rfl rfl rfl rfl rfl) rfl rfl rfl ?_
                  refine Eo.val (x := (.v (.string x106))) rfl rfl rfl rfl ?_
                  refine Eo.val (x := (.v (.bool (!(strLt x137 x106))))) rfl rfl rfl rfl ?_
                  refine Eo.val (x := (.v (.bool (!(strLt x137 x106))))) rfl rfl rfl rfl ?_
                  refine Eo.val (x := (.v (.bool (!(strLt x137 x106))))) rfl rfl rfl rfl ?_
                  refine Eo.nil ?_
                  obtain rfl := Option.some.inj H
                  exact And.intro rfl ⟨hp124, (.cons rfl (.cons rfl (.cons rfl (.cons rfl (.cons rfl (.nil'))))))⟩
              · have H := cond_t hc135 H
                refine Eo.off rfl rfl rfl ?_
                refine Eo.off rfl rfl rfl ?_
                refine Eo.off rfl rfl rfl ?_
                refine Eo.off rfl rfl rfl ?_
                refine Eo.off rfl rfl rfl ?_
                refine Eo.off rfl rfl rfl ?_
                refine Eo.off rfl rfl rfl ?_
                refine Eo.off rfl rfl rfl ?_
                refine Eo.off rfl rfl rfl ?_
                refine Eo.off rfl rfl rfl ?_
                refine Eo.off rfl rfl rfl ?_
                refine Eo.off rfl rfl rfl ?_
                refine Eo.val (x := (.v (.bool true))) rfl rfl rfl rfl ?_
                refine Eo.nil ?_
                obtain rfl := Option.some.inj H
                exact And.intro rfl ⟨hp124, (.cons rfl (.cons rfl (.cons rfl (.cons rfl (.cons rfl (.nil'))))))⟩
            · skip
              intro x φ143 σ142 hJ
              obtain ⟨rfl, hp141, hf144⟩ := hJ
              refine ⟨rfl, Eo.of (F := [(1, (.ptr b5 0)), (19, a1), (20, (.v (.int .i64 ((p0.f_Syms.length : Nat) : Int)))), (21, (.v (.int .i64 y59))), (50, (.v (.bool x134)))]) hf144 ?_⟩
              refine Eo.nil ?_
              refine Ec.cond (t := x134) rfl (fun hc145 => ?_) (fun hc145 => ?_)
              · have H := cond_t hc145 H
                refine Ec.seq ?_
                refine Ec.region ?_
                refine Eo.val (x := (.v (.bool false))) rfl rfl rfl rfl ?_
                refine Eo.nil ?_
                obtain rfl := Option.some.inj H
                refine Ec.ret ?_
                refine And.intro rfl (Ret.mk rfl ?_)
                exact ⟨rfl, (Hp.drop hp141 0)⟩
              · have H := cond_f hc145 H
                refine Ec.skip ?_
                refine Ec.region ?_
                refine Eo.val (x := (.v (.int .i64 (IntKind.wrap .i64 (y59 + 1))))) rfl rfl rfl rfl ?_
                refine Eo.val (x := (.v (.int .i64 (IntKind.wrap .i64 (y59 + 1))))) rfl rfl rfl rfl ?_
                refine Eo.nil ?_
                exact Ec.of (.cons rfl (.cons rfl (.cons rfl (.cons rfl (.nil'))))) (ih ((IntKind.wrap .i64 (y59 + 1)), ()) _ hp141 H)
        · have H := cond_f hc105 H
          refine Ec.exit ?_
          obtain rfl := Option.some.inj H
          exact And.intro rfl ⟨(Hp.drop hp0 0), (.nil')⟩
      · rcases v150 with _ | r156
        · intro x φ154 σ153 hJ
          obtain ⟨rfl, hp152, hf155⟩ := hJ
          refine Ec.of (F := []) hf155 ?_
          refine Ec.seq ?_
          refine Ec.region ?_
          refine Eo.val (x := (.v (.bool true))) rfl rfl rfl rfl ?_
          refine Eo.nil ?_
          obtain rfl := Option.some.inj H
          refine Ec.ret ?_
          refine Ret.mk rfl ?_
          exact ⟨rfl, hp152⟩
        · intro x φ157 σ158 hJ
          obtain rfl := Option.some.inj H
          obtain ⟨rfl, hr⟩ := hJ
          exact hr

def gdovetailref12_Eval_L2 (N : Nat) (p1 : (List ByteArray)) (x214 : ByteArray) : Nat → Int → Int → Option (Int)
  | 0, _, _ => none
  | m + 1, y236, y237 => (cond (decide (y237 ≥ 0)) (((((atL p1 y237).bind fun x264 => (cond (decide (x264 = x214)) (some y237) (some y236))) : Option (Int)).bind fun x263 => gdovetailref12_Eval_L2 N p1 x214 m x263 (IntKind.wrap .i64 (y237 - 1)))) (some y236))

def gdovetailref12_Eval_L1 (N : Nat) (p0 : TLin) (p1 : (List ByteArray)) (p2 : (List Int)) : Nat → Int → Int → Option (LR Int (Int × Bool))
  | 0, _, _ => none
  | m + 1, y113, y114 => (cond (decide (y114 < ((p0.f_Syms.length : Nat) : Int))) (((atL p0.f_Syms y114).bind fun x214 => ((gdovetailref12_Eval_L2 N p1 x214 N (-1) (IntKind.wrap .i64 (((p1.length : Nat) : Int) - 1))).bind fun x256 => (cond ((decide (x256 < 0)) || (decide (x256 ≥ ((p2.length : Nat) : Int)))) (some (.ret (0, false))) (((((atL p0.f_Times y114).bind fun x296 => ((atL p2 x256).bind fun x300 => some (IntKind.wrap .i64 (y113 + (IntKind.wrap .i64 (x296 * x300)))))) : Option (Int)).bind fun x295 => gdovetailref12_Eval_L1 N p0 p1 p2 m x295 (IntKind.wrap .i64 (y114 + 1)))))))) (some (.out y113)))

def gdovetailref12_Eval (n : Nat) (p0 : TLin) (p1 : (List ByteArray)) (p2 : (List Int)) : Option ((Int × Bool)) := ((gdovetailref12_Normal n p0).bind fun r12 => (cond (!r12) (some (0, false)) (((gdovetailref12_Eval_L1 n p0 p1 p2 n p0.f_Off 0).bind fun v => match v with | .out x212 => some (x212, true) | .ret r316 => some r316))))

def gdovetailref12_Eval_post (R : List Res) (r : (Int × Bool)) (x : A) (s : St) : Prop := x = (.tup [(.v (.int .i64 r.1)), (.v (.bool r.2))]) ∧ Hp s (R)

theorem gdovetailref12_Eval_ok {n : Nat} {p0 : TLin} {p1 : (List ByteArray)} {p2 : (List Int)} {a1 a3 a5 a7 : A} {R : List Res} {σ : St} (h2 : Sl rS a1 p0.f_Syms) (h4 : Sl (rI .i64) a3 p0.f_Times) (h6 : Sl rS a5 p1) (h8 : Sl (rI .i64) a7 p2) (hp : Hp σ R) {r : (Int × Bool)} (H : gdovetailref12_Eval n p0 p1 p2 = some r) : Ca cfg 13 [(.agg [a1, a3, (.v (.int .i64 p0.f_Off))]), a5, a7] σ (gdovetailref12_Eval_post R r) := by
  unfold gdovetailref12_Eval at H
  refine Ca.enterL (G := [(0, (.agg [a1, a3, (.v (.int .i64 p0.f_Off))])), (1, a5), (2, a7)]) Tryz.func13 rfl rfl rfl rfl ?_
  refine Ec.seq ?_
  refine Ec.region ?_
  refine Eo.box hp rfl (by simp [allOne, A.cells, h2.isOne, h4.isOne]) rfl rfl rfl rfl rfl ?_
  intro b9 σ11 hp10
  refine Eo.val (x := (.v (.int .i64 0))) rfl rfl rfl rfl ?_
  refine Eo.val (x := (.v (.bool false))) rfl rfl rfl rfl ?_
  refine Eo.nil ?_
  refine Ec.seq ?_
  refine Ec.seq ?_
  refine Ec.region ?_
  refine Eo.val (x := (.agg [a1, a3, (.v (.int .i64 p0.f_Off))])) (op_loadB hp10 0 rfl rfl rfl rfl) rfl rfl rfl ?_
  obtain ⟨r12, hvr12, H⟩ := bind_some H
  refine Eo.call rfl rfl rfl rfl (gdovetailref12_Normal_ok h2 h4 hp10 hvr12) ?_
  rintro _ σ14 ⟨rfl, hp13⟩
  refine Eo.val (x := (.v (.bool (!r12)))) rfl rfl rfl rfl ?_
  refine Eo.nil ?_
  refine Ec.cond (t := (!r12)) rfl (fun hc15 => ?_) (fun hc15 => ?_)
  · have H := cond_t hc15 H
    refine Ec.seq ?_
    refine Ec.region ?_
    refine Eo.val (x := (.v (.int .i64 0))) rfl rfl rfl rfl ?_
    refine Eo.val (x := (.v (.bool false))) rfl rfl rfl rfl ?_
    refine Eo.nil ?_
    obtain rfl := Option.some.inj H
    refine Ec.ret ?_
    refine Ret.mk rfl ?_
    exact ⟨rfl, (Hp.drop hp13 0)⟩
  · have H := cond_f hc15 H
    refine Ec.skip ?_
    refine Ec.seq ?_
    refine Ec.region ?_
    refine Eo.val (x := (.ptr b9 2)) rfl rfl rfl rfl ?_
    refine Eo.val (x := (.v (.int .i64 p0.f_Off))) (op_loadB hp13 0 rfl rfl rfl rfl) rfl rfl rfl ?_
    refine Eo.val (x := (.v (.int .i64 p0.f_Off))) rfl rfl rfl rfl ?_
    refine Eo.nil ?_
    refine Ec.seq ?_
    refine Ec.seq ?_
    refine Ec.region ?_
    refine Eo.val (x := (.ptr b9 0)) rfl rfl rfl rfl ?_
    refine Eo.val (x := a1) (op_loadB hp13 0 rfl rfl rfl rfl) rfl rfl rfl ?_
    refine Eo.val (x := (.v (.int .i64 ((p0.f_Syms.length : Nat) : Int)))) (op_lenL h2 rfl rfl rfl rfl rfl Tryz.underlying22) rfl rfl rfl ?_
    refine Eo.val (x := (.v (.int .i64 0))) rfl rfl rfl rfl ?_
    refine Eo.nil ?_
    refine Ec.block ?_
    obtain ⟨v310, hv311, H⟩ := bind_some H
    refine Ec.cut (J := (fun (v : LR Int (Int × Bool)) (x : X) (φ : Fr) (s : St) => match v with | .out x212 => x = (.exit 0) ∧ (Hp s (R) ∧ Fl [(8, (.v (.int .i64 x212)))] φ) | .ret r => x = .ret ∧ Ret cfg Tryz.f13 (gdovetailref12_Eval_post R r) .ret φ s) v310) (Ec.weak (.cons rfl (.cons rfl (.cons rfl (.cons rfl (.cons rfl (.cons rfl (.cons rfl (.nil')))))))) (Ec.loopF (f := (fun m (i : (Int × Int) × Unit) => gdovetailref12_Eval_L1 n p0 p1 p2 m i.1.1 i.1.2)) (G := (fun (i : (Int × Int) × Unit) => ([(1, a5), (2, a7), (3, (.ptr b9 0)), (8, (.v (.int .i64 i.1.1))), (19, a1), (20, (.v (.int .i64 ((p0.f_Syms.length : Nat) : Int)))), (21, (.v (.int .i64 i.1.2)))] : List (Nat × A)))) (I := (fun (i : (Int × Int) × Unit) (s : St) => Hp s (.blk b9 (.cells [a1, a3, (.v (.int .i64 p0.f_Off))] 25) :: R))) (J := (fun (v : LR Int (Int × Bool)) (x : X) (φ : Fr) (s : St) => match v with | .out x212 => x = (.exit 0) ∧ (Hp s (R) ∧ Fl [(8, (.v (.int .i64 x212)))] φ) | .ret r => x = .ret ∧ Ret cfg Tryz.f13 (gdovetailref12_Eval_post R r) .ret φ s)) (fun _ => rfl) ?_ n ((p0.f_Off, 0), ()) _ v310 hp13 hv311)) ?_
    · rintro m ⟨⟨y113, y114⟩, _⟩ σ0 v hp0 H ih
      change gdovetailref12_Eval_L1 n p0 p1 p2 (m + 1) y113 y114 = some v at H
      rw [gdovetailref12_Eval_L1] at H
      change Ec _ _ _ [(1, a5), (2, a7), (3, (.ptr b9 0)), (8, (.v (.int .i64 y113))), (19, a1), (20, (.v (.int .i64 ((p0.f_Syms.length : Nat) : Int)))), (21, (.v (.int .i64 y114)))] σ0 _
      refine Ec.seq ?_
      refine Ec.region ?_
      refine Eo.val (x := (.v (.bool (decide (y114 < ((p0.f_Syms.length : Nat) : Int)))))) rfl rfl rfl rfl ?_
      refine Eo.nil ?_
      refine Ec.seq ?_
      refine Ec.cond (t := (decide (y114 < ((p0.f_Syms.length : Nat) : Int)))) rfl (fun hc213 => ?_) (fun hc213 => ?_)
      · have H := cond_t hc213 H
        refine Ec.skip ?_
        refine Ec.seq ?_
        refine Ec.block ?_
        refine Ec.seq ?_
        refine Ec.region ?_
        refine Eo.val (x := (.v (.int .i64 y114))) rfl rfl rfl rfl ?_
        obtain ⟨x214, hvx214, H⟩ := bind_some H
        refine Eo.idx h2 hvx214 rfl rfl rfl Tryz.underlying22 rfl rfl rfl rfl ?_
        rintro cs215 p216 _ hat217 rfl
        refine Eo.val (x := (.v (.string x214))) (op_loadSp hat217 0 rfl rfl rfl rfl rfl) rfl rfl rfl ?_
        refine Eo.val (x := (.v (.int .i64 y114))) rfl rfl rfl rfl ?_
        refine Eo.val (x := (.v (.string x214))) rfl rfl rfl rfl ?_
        refine Eo.nil ?_
        refine Ec.seq ?_
        refine Ec.region ?_
        refine Eo.val (x := (.v (.int .i64 (-1)))) rfl rfl rfl rfl ?_
        refine Eo.nil ?_
        refine Ec.seq ?_
        refine Ec.seq ?_
        refine Ec.region ?_
        refine Eo.val (x := a5) rfl rfl rfl rfl ?_
        refine Eo.val (x := (.v (.int .i64 ((p1.length : Nat) : Int)))) (op_lenL h6 rfl rfl rfl rfl rfl Tryz.underlying22) rfl rfl rfl ?_
        refine Eo.val (x := (.v (.int .i64 (IntKind.wrap .i64 (((p1.length : Nat) : Int) - 1))))) rfl rfl rfl rfl ?_
        refine Eo.val (x := (.v (.int .i64 (IntKind.wrap .i64 (((p1.length : Nat) : Int) - 1))))) rfl rfl rfl rfl ?_
        refine Eo.nil ?_
        refine Ec.block ?_
        obtain ⟨x256, hv276, H⟩ := bind_some H
        refine Ec.cut (J := (fun (x256 : Int) (x : X) (φ : Fr) (s : St) => x = (.exit 2) ∧ (Hp s (.blk b9 (.cells [a1, a3, (.v (.int .i64 p0.f_Off))] 25) :: R) ∧ Fl [(1, a5), (2, a7), (3, (.ptr b9 0)), (8, (.v (.int .i64 y113))), (9, (.v (.int .i64 y114))), (11, (.v (.int .i64 x256))), (19, a1), (20, (.v (.int .i64 ((p0.f_Syms.length : Nat) : Int)))), (21, (.v (.int .i64 y114)))] φ)) x256) (Ec.weak (.cons rfl (.cons rfl (.cons rfl (.cons rfl (.cons rfl (.cons rfl (.cons rfl (.cons rfl (.cons rfl (.cons rfl (.cons rfl (.nil')))))))))))) (Ec.loopF (f := (fun m (i : (Int × Int) × Unit) => gdovetailref12_Eval_L2 n p1 x214 m i.1.1 i.1.2)) (G := (fun (i : (Int × Int) × Unit) => ([(1, a5), (2, a7), (3, (.ptr b9 0)), (8, (.v (.int .i64 y113))), (9, (.v (.int .i64 y114))), (10, (.v (.string x214))), (11, (.v (.int .i64 i.1.1))), (12, (.v (.int .i64 i.1.2))), (19, a1), (20, (.v (.int .i64 ((p0.f_Syms.length : Nat) : Int)))), (21, (.v (.int .i64 y114)))] : List (Nat × A)))) (I := (fun (i : (Int × Int) × Unit) (s : St) => Hp s (.blk b9 (.cells [a1, a3, (.v (.int .i64 p0.f_Off))] 25) :: R))) (J := (fun (x256 : Int) (x : X) (φ : Fr) (s : St) => x = (.exit 2) ∧ (Hp s (.blk b9 (.cells [a1, a3, (.v (.int .i64 p0.f_Off))] 25) :: R) ∧ Fl [(1, a5), (2, a7), (3, (.ptr b9 0)), (8, (.v (.int .i64 y113))), (9, (.v (.int .i64 y114))), (11, (.v (.int .i64 x256))), (19, a1), (20, (.v (.int .i64 ((p0.f_Syms.length : Nat) : Int)))), (21, (.v (.int .i64 y114)))] φ))) (fun _ => rfl) ?_ n (((-1), (IntKind.wrap .i64 (((p1.length : Nat) : Int) - 1))), ()) _ x256 hp0 hv276)) ?_
        · rintro m ⟨⟨y236, y237⟩, _⟩ σ0 v hp0 H ih
          change gdovetailref12_Eval_L2 n p1 x214 (m + 1) y236 y237 = some v at H
          rw [gdovetailref12_Eval_L2] at H
          change Ec _ _ _ [(1, a5), (2, a7), (3, (.ptr b9 0)), (8, (.v (.int .i64 y113))), (9, (.v (.int .i64 y114))), (10, (.v (.string x214))), (11, (.v (.int .i64 y236))), (12, (.v (.int .i64 y237))), (19, a1), (20, (.v (.int .i64 ((p0.f_Syms.length : Nat) : Int)))), (21, (.v (.int .i64 y114)))] σ0 _
          refine Ec.seq ?_
          refine Ec.seq ?_
          refine Ec.region ?_
          refine Eo.val (x := (.v (.int .i64 y237))) rfl rfl rfl rfl ?_
          refine Eo.val (x := (.v (.bool (decide (y237 ≥ 0))))) rfl rfl rfl rfl ?_
          refine Eo.nil ?_
          refine Ec.cond (t := (decide (y237 ≥ 0))) rfl (fun hc257 => ?_) (fun hc257 => ?_)
          · have H := cond_t hc257 H
            refine Ec.skip ?_
            refine Ec.seq ?_
            obtain ⟨x263, hv274, H⟩ := bind_some H
            refine Ec.cut (J := (fun (x263 : Int) (x : X) (φ : Fr) (s : St) => x = .normal ∧ (Hp s (.blk b9 (.cells [a1, a3, (.v (.int .i64 p0.f_Off))] 25) :: R) ∧ Fl [(1, a5), (2, a7), (3, (.ptr b9 0)), (8, (.v (.int .i64 y113))), (9, (.v (.int .i64 y114))), (10, (.v (.string x214))), (11, (.v (.int .i64 x263))), (12, (.v (.int .i64 y237))), (19, a1), (20, (.v (.int .i64 ((p0.f_Syms.length : Nat) : Int)))), (21, (.v (.int .i64 y114)))] φ)) x263) ?_ ?_
            · have H := hv274
              refine Ec.block ?_
              refine Ec.seq ?_
              refine Ec.region ?_
              refine Eo.val (x := a5) rfl rfl rfl rfl ?_
              refine Eo.val (x := (.v (.int .i64 y237))) rfl rfl rfl rfl ?_
              obtain ⟨x264, hvx264, H⟩ := bind_some H
              refine Eo.idx h6 hvx264 rfl rfl rfl Tryz.underlying22 rfl rfl rfl rfl ?_
              rintro cs265 p266 _ hat267 rfl
              refine Eo.val (x := (.v (.string x264))) (op_loadSp hat267 0 rfl rfl rfl rfl rfl) rfl rfl rfl ?_
              refine Eo.val (x := (.v (.string x214))) rfl rfl rfl rfl ?_
              refine Eo.val (x := (.v (.bool (decide (x264 = x214))))) (val_b rfl (seq_eq _ _)) rfl rfl rfl ?_
              refine Eo.nil ?_
              refine Ec.cond (t := (decide (x264 = x214))) rfl (fun hc268 => ?_) (fun hc268 => ?_)
              · have H := cond_t hc268 H
                refine Ec.region ?_
                refine Eo.val (x := (.v (.int .i64 y237))) rfl rfl rfl rfl ?_
                refine Eo.val (x := (.v (.int .i64 y237))) rfl rfl rfl rfl ?_
                refine Eo.nil ?_
                obtain rfl := Option.some.inj H
                exact And.intro rfl ⟨hp0, (.cons rfl (.cons rfl (.cons rfl (.cons rfl (.cons rfl (.cons rfl (.cons rfl (.cons rfl (.cons rfl (.cons rfl (.cons rfl (.nil'))))))))))))⟩
              · have H := cond_f hc268 H
                refine Ec.skip ?_
                obtain rfl := Option.some.inj H
                exact And.intro rfl ⟨hp0, (.cons rfl (.cons rfl (.cons rfl (.cons rfl (.cons rfl (.cons rfl (.cons rfl (.cons rfl (.cons rfl (.cons rfl (.cons rfl (.nil'))))))))))))⟩
            · skip
              intro x φ271 σ270 hJ
              obtain ⟨rfl, hp269, hf272⟩ := hJ
              refine Ec.of (F := [(1, a5), (2, a7), (3, (.ptr b9 0)), (8, (.v (.int .i64 y113))), (9, (.v (.int .i64 y114))), (10, (.v (.string x214))), (11, (.v (.int .i64 x263))), (12, (.v (.int .i64 y237))), (19, a1), (20, (.v (.int .i64 ((p0.f_Syms.length : Nat) : Int)))), (21, (.v (.int .i64 y114)))]) hf272 ?_
              refine Ec.region ?_
              refine Eo.val (x := (.v (.int .i64 y237))) rfl rfl rfl rfl ?_
              refine Eo.val (x := (.v (.int .i64 (IntKind.wrap .i64 (y237 - 1))))) rfl rfl rfl rfl ?_
              refine Eo.val (x := (.v (.int .i64 (IntKind.wrap .i64 (y237 - 1))))) rfl rfl rfl rfl ?_
              refine Eo.nil ?_
              exact Ec.of (.cons rfl (.cons rfl (.cons rfl (.cons rfl (.cons rfl (.cons rfl (.cons rfl (.cons rfl (.cons rfl (.cons rfl (.cons rfl (.nil')))))))))))) (ih ((x263, (IntKind.wrap .i64 (y237 - 1))), ()) _ hp269 H)
          · have H := cond_f hc257 H
            refine Ec.exit ?_
            obtain rfl := Option.some.inj H
            exact And.intro rfl ⟨hp0, (.cons rfl (.cons rfl (.cons rfl (.cons rfl (.cons rfl (.cons rfl (.cons rfl (.cons rfl (.cons rfl (.nil'))))))))))⟩
        · skip
          intro x φ279 σ278 hJ
          obtain ⟨rfl, hp277, hf280⟩ := hJ
          refine Ec.of (F := [(1, a5), (2, a7), (3, (.ptr b9 0)), (8, (.v (.int .i64 y113))), (9, (.v (.int .i64 y114))), (11, (.v (.int .i64 x256))), (19, a1), (20, (.v (.int .i64 ((p0.f_Syms.length : Nat) : Int)))), (21, (.v (.int .i64 y114)))]) hf280 ?_
          refine Ec.seq ?_
          refine Ec.seq ?_
          refine Ec.region ?_
          refine Eo.val (x := (.v (.int .i64 x256))) rfl rfl rfl rfl ?_
          refine Eo.val (x := (.v (.bool (decide (x256 < 0))))) rfl rfl rfl rfl ?_
          refine Eo.val (x := (.v (.bool (decide (x256 < 0))))) rfl rfl rfl rfl ?_
          refine Eo.cutF 5 [(1, a5), (2, a7), (3, (.ptr b9 0)), (8, (.v (.int .i64 y113))), (9, (.v (.int .i64 y114))), (11, (.v (.int .i64 x256))), (19, a1), (20, (.v (.int .i64 ((p0.f_Syms.length : Nat) : Int)))), (21, (.v (.int .i64 y114))), (47, (.v (.bool ((decide (x256 < 0)) || (decide (x256 ≥ ((p2.length : Nat) : Int)))))))] ?_ ?_
          · skip
            cases hc283 : (decide (x256 < 0))
            · skip
              refine Eo.val (x := (.v (.int .i64 x256))) rfl rfl rfl rfl ?_
              refine Eo.val (x := a7) rfl rfl rfl rfl ?_
              refine Eo.val (x := (.v (.int .i64 ((p2.length : Nat) : Int)))) (op_lenL h8 rfl rfl rfl rfl rfl Tryz.underlying23) rfl rfl rfl ?_
              refine Eo.val (x := (.v (.bool (decide (x256 ≥ ((p2.length : Nat) : Int)))))) rfl rfl rfl rfl ?_
              refine Eo.val (x := (.v (.bool (decide (x256 ≥ ((p2.length : Nat) : Int)))))) rfl rfl rfl rfl ?_
              exact Eo.nil (And.intro rfl (And.intro rfl (.cons rfl (.cons rfl (.cons rfl (.cons rfl (.cons rfl (.cons rfl (.cons rfl (.cons rfl (.cons rfl (.cons rfl (.nil')))))))))))))
            · skip
              refine Eo.off rfl rfl rfl ?_
              refine Eo.off rfl rfl rfl ?_
              refine Eo.off rfl rfl rfl ?_
              refine Eo.off rfl rfl rfl ?_
              refine Eo.val (x := (.v (.bool true))) rfl rfl rfl rfl ?_
              exact Eo.nil (And.intro rfl (And.intro rfl (.cons rfl (.cons rfl (.cons rfl (.cons rfl (.cons rfl (.cons rfl (.cons rfl (.cons rfl (.cons rfl (.cons rfl (.nil')))))))))))))
          · skip
            refine Eo.nil ?_
            refine Ec.cond (t := ((decide (x256 < 0)) || (decide (x256 ≥ ((p2.length : Nat) : Int))))) rfl (fun hc286 => ?_) (fun hc286 => ?_)
            · have H := cond_t hc286 H
              refine Ec.seq ?_
              refine Ec.region ?_
              refine Eo.val (x := (.v (.int .i64 0))) rfl rfl rfl rfl ?_
              refine Eo.val (x := (.v (.bool false))) rfl rfl rfl rfl ?_
              refine Eo.nil ?_
              obtain rfl := Option.some.inj H
              refine Ec.ret ?_
              refine And.intro rfl (Ret.mk rfl ?_)
              exact ⟨rfl, (Hp.drop hp277 0)⟩
            · have H := cond_f hc286 H
              refine Ec.skip ?_
              obtain ⟨x295, hv309, H⟩ := bind_some H
              refine Ec.cut (J := (fun (x295 : Int) (x : X) (φ : Fr) (s : St) => x = .normal ∧ (Hp s (.blk b9 (.cells [a1, a3, (.v (.int .i64 p0.f_Off))] 25) :: R) ∧ Fl [(1, a5), (2, a7), (3, (.ptr b9 0)), (8, (.v (.int .i64 x295))), (19, a1), (20, (.v (.int .i64 ((p0.f_Syms.length : Nat) : Int)))), (21, (.v (.int .i64 y114)))] φ)) x295) ?_ ?_
              · have H := hv309
                refine Ec.drawn2 (by kernel_rfl) ?_
                refine Eo.val (x := (.v (.int .i64 y113))) rfl rfl rfl rfl ?_
                refine Eo.val (x := (.ptr b9 1)) rfl rfl rfl rfl ?_
                refine Eo.val (x := a3) (op_loadB hp277 0 rfl rfl rfl rfl) rfl rfl rfl ?_
                refine Eo.val (x := (.v (.int .i64 y114))) rfl rfl rfl rfl ?_
                obtain ⟨x296, hvx296, H⟩ := bind_some H
                refine Eo.idx h4 hvx296 rfl rfl rfl Tryz.underlying23 rfl rfl rfl rfl ?_
                rintro cs297 p298 _ hat299 rfl
                refine Eo.val (x := (.v (.int .i64 x296))) (op_loadSp hat299 0 rfl rfl rfl rfl rfl) rfl rfl rfl ?_
                refine Eo.val (x := a7) rfl rfl rfl rfl ?_
                refine Eo.val (x := (.v (.int .i64 x256))) rfl rfl rfl rfl ?_
                obtain ⟨x300, hvx300, H⟩ := bind_some H
                refine Eo.idx h8 hvx300 rfl rfl rfl Tryz.underlying23 rfl rfl rfl rfl ?_
                rintro cs301 p302 _ hat303 rfl
                refine Eo.val (x := (.v (.int .i64 x300))) (op_loadSp hat303 0 rfl rfl rfl rfl rfl) rfl rfl rfl ?_
                refine Eo.val (x := (.v (.int .i64 (IntKind.wrap .i64 (x296 * x300))))) rfl rfl rfl rfl ?_
                refine Eo.val (x := (.v (.int .i64 (IntKind.wrap .i64 (y113 + (IntKind.wrap .i64 (x296 * x300))))))) rfl rfl rfl rfl ?_
                refine Eo.val (x := (.v (.int .i64 (IntKind.wrap .i64 (y113 + (IntKind.wrap .i64 (x296 * x300))))))) rfl rfl rfl rfl ?_
                refine Eo.nil ?_
                obtain rfl := Option.some.inj H
                exact And.intro rfl (And.intro rfl ⟨hp277, (.cons rfl (.cons rfl (.cons rfl (.cons rfl (.cons rfl (.cons rfl (.cons rfl (.nil'))))))))⟩)
              · skip
                intro x φ306 σ305 hJ
                obtain ⟨rfl, hp304, hf307⟩ := hJ
                refine Ec.of (F := [(1, a5), (2, a7), (3, (.ptr b9 0)), (8, (.v (.int .i64 x295))), (19, a1), (20, (.v (.int .i64 ((p0.f_Syms.length : Nat) : Int)))), (21, (.v (.int .i64 y114)))]) hf307 ?_
                refine Ec.region ?_
                refine Eo.val (x := (.v (.int .i64 (IntKind.wrap .i64 (y114 + 1))))) rfl rfl rfl rfl ?_
                refine Eo.val (x := (.v (.int .i64 (IntKind.wrap .i64 (y114 + 1))))) rfl rfl rfl rfl ?_
                refine Eo.nil ?_
                exact Ec.of (.cons rfl (.cons rfl (.cons rfl (.cons rfl (.cons rfl (.cons rfl (.cons rfl (.nil')))))))) (ih ((x295, (IntKind.wrap .i64 (y114 + 1))), ()) _ hp304 H)
      · have H := cond_f hc213 H
        refine Ec.exit ?_
        obtain rfl := Option.some.inj H
        exact And.intro rfl ⟨(Hp.drop hp0 0), (.cons rfl (.nil'))⟩
    · rcases v310 with x212 | r316
      · intro x φ314 σ313 hJ
        obtain ⟨rfl, hp312, hf315⟩ := hJ
        refine Ec.of (F := [(8, (.v (.int .i64 x212)))]) hf315 ?_
        refine Ec.seq ?_
        refine Ec.region ?_
        refine Eo.val (x := (.v (.int .i64 x212))) rfl rfl rfl rfl ?_
        refine Eo.val (x := (.v (.int .i64 x212))) rfl rfl rfl rfl ?_
        refine Eo.val (x := (.v (.bool true))) rfl rfl rfl rfl ?_
        refine Eo.nil ?_
        obtain rfl := Option.some.inj H
        refine Ec.ret ?_
        refine Ret.mk rfl ?_
        exact ⟨rfl, hp312⟩
      · intro x φ317 σ318 hJ
        obtain rfl := Option.some.inj H
        obtain ⟨rfl, hr⟩ := hJ
        exact hr

def gdovetailref12_Copy (n : Nat) (p0 : TLin) : Option (TLin) := ((((appL 16 ([] : List ByteArray) p0.f_Syms).bind fun l43 => ((appL 8 ([] : List Int) p0.f_Times).bind fun l51 => some (l43, l51, p0.f_Off))) : Option (((List ByteArray) × (List Int) × Int))).bind fun v => match v with | (x33, x36, x39) => some (TLin.mk x33 x36 x39))

def gdovetailref12_Copy_post (R : List Res) (r : TLin) (x : A) (s : St) : Prop := ∃ (a5 a7 : A), x = (.agg [a5, a7, (.v (.int .i64 r.f_Off))]) ∧ Sl rS a5 r.f_Syms ∧ Sl (rI .i64) a7 r.f_Times ∧ Hp s (.app a5 9 :: .app a7 3 :: R)

theorem gdovetailref12_Copy_ok {n : Nat} {p0 : TLin} {a1 a3 : A} {R : List Res} {σ : St} (h2 : Sl rS a1 p0.f_Syms) (h4 : Sl (rI .i64) a3 p0.f_Times) (hp : Hp σ R) {r : TLin} (H : gdovetailref12_Copy n p0 = some r) : Ca cfg 7 [(.agg [a1, a3, (.v (.int .i64 p0.f_Off))])] σ (gdovetailref12_Copy_post R r) := by
  unfold gdovetailref12_Copy at H
  refine Ca.enterL (G := [(0, (.agg [a1, a3, (.v (.int .i64 p0.f_Off))]))]) Tryz.func7 rfl rfl rfl rfl ?_
  refine Ec.seq ?_
  refine Ec.region ?_
  refine Eo.box hp rfl (by simp [allOne, A.cells, h2.isOne, h4.isOne]) rfl rfl rfl rfl rfl ?_
  intro b9 σ11 hp10
  refine Eo.alloc (z := [nilS, nilS, (.v (.int .i64 0))]) hp10 rfl rfl rfl rfl rfl ?_
  intro b12 σ14 hp13
  refine Eo.nil ?_
  refine Ec.seq ?_
  obtain ⟨v62, hv63, H⟩ := bind_some H
  refine Ec.cut (J := (fun (v : ((List ByteArray) × (List Int) × Int)) (x : X) (φ : Fr) (s : St) => match v with | (x33, x36, x39) => x = .normal ∧ (∃ (a34 a37 : A), Sl rS a34 x33 ∧ Sl (rI .i64) a37 x36 ∧ Hp s (.blk b12 (.cells [a34, a37, (.v (.int .i64 x39))] 25) :: .app a34 9 :: .app a37 3 :: R) ∧ Fl [(2, (.ptr b12 0))] φ)) v62) ?_ ?_
  · have H := hv63
    refine Ec.drawn2 (by kernel_rfl) ?_
    refine Eo.val (x := (.sl 1 [] .ex)) rfl rfl rfl rfl ?_
    have hp42 := Hp.appEx hp13 9 1 []
    refine Eo.val (x := (.ptr b9 0)) rfl rfl rfl rfl ?_
    refine Eo.val (x := a1) (op_loadB hp42 2 rfl rfl rfl rfl) rfl rfl rfl ?_
    obtain ⟨l43, hvl43, H⟩ := bind_some H
    refine Eo.append hp42 0 rfl (.inr ⟨_, _, rfl, .nil⟩ : Sl rS (.sl 1 [] .ex) ([] : List ByteArray)) (New.of h2) hvl43 rfl rfl rfl rfl rfl rfl rfl Tryz.underlying22 rfl Tryz.underlying22 rfl rfl rfl rfl rfl rfl rfl rfl ?_
    intro a44 σ47 h45 hp46
    change Hp σ47 (.app a44 9 :: .blk b12 (.cells [nilS, nilS, (.v (.int .i64 0))] 25) :: .blk b9 (.cells [a1, a3, (.v (.int .i64 p0.f_Off))] 25) :: R) at hp46
    refine Eo.val (x := (.sl 1 [] .ex)) rfl rfl rfl rfl ?_
    have hp50 := Hp.appEx hp46 3 1 []
    refine Eo.val (x := (.ptr b9 1)) rfl rfl rfl rfl ?_
    refine Eo.val (x := a3) (op_loadB hp50 3 rfl rfl rfl rfl) rfl rfl rfl ?_
    obtain ⟨l51, hvl51, H⟩ := bind_some H
    refine Eo.append hp50 0 rfl (.inr ⟨_, _, rfl, .nil⟩ : Sl (rI .i64) (.sl 1 [] .ex) ([] : List Int)) (New.of h4) hvl51 rfl rfl rfl rfl rfl rfl rfl Tryz.underlying23 rfl Tryz.underlying23 rfl rfl rfl rfl rfl rfl rfl rfl ?_
    intro a52 σ55 h53 hp54
    change Hp σ55 (.app a52 3 :: .app a44 9 :: .blk b12 (.cells [nilS, nilS, (.v (.int .i64 0))] 25) :: .blk b9 (.cells [a1, a3, (.v (.int .i64 p0.f_Off))] 25) :: R) at hp54
    refine Eo.val (x := (.ptr b9 2)) rfl rfl rfl rfl ?_
    refine Eo.val (x := (.v (.int .i64 p0.f_Off))) (op_loadB hp54 3 rfl rfl rfl rfl) rfl rfl rfl ?_
    refine Eo.val (x := (.agg [a44, a52, (.v (.int .i64 p0.f_Off))])) (op_build (lay_cons rfl h45.cells rfl rfl rfl (lay_cons rfl h53.cells rfl rfl rfl (lay_cons rfl rfl rfl rfl rfl lay_nil))) rfl (parts_cons rfl h45.noJunk (parts_cons rfl h53.noJunk (parts_cons rfl rfl rfl))) Tryz.underlying25 rfl rfl) rfl rfl rfl ?_
    refine Eo.store hp54 2 rfl (storeCells_mk rfl rfl rfl (by simp [allOne, A.cells, h45.isOne, h53.isOne]) rfl rfl) rfl rfl rfl rfl rfl ?_
    intro σ57 hp56
    change Hp σ57 (.app a52 3 :: .app a44 9 :: .blk b12 (.cells [a44, a52, (.v (.int .i64 p0.f_Off))] 25) :: .blk b9 (.cells [a1, a3, (.v (.int .i64 p0.f_Off))] 25) :: R) at hp56
    refine Eo.nil ?_
    obtain rfl := Option.some.inj H
    exact And.intro rfl (And.intro rfl ⟨a44, a52, h45, h53, (Hp.front (Hp.front (Hp.drop hp56 3) 1) 2), (.cons rfl (.nil'))⟩)
  · skip
    intro x φ60 σ59 hJ
    obtain ⟨x33, x36, x39⟩ := v62
    obtain ⟨rfl, a34, a37, h35, h38, hp58, hf61⟩ := hJ
    refine Ec.of (F := [(2, (.ptr b12 0))]) hf61 ?_
    obtain rfl := Option.some.inj H
    refine Ec.ret ?_
    refine Ret.mk' (resA_cell hp58 0 rfl rfl rfl rfl) ?_
    exact ⟨a34, a37, rfl, h35, h38, (Hp.front (Hp.front (Hp.drop hp58 0) 1) 1)⟩

def gexpr_of_L1 (N : Nat) (p0 : TLin) : Nat → Int → (List (ByteArray × Int)) → Option ((List (ByteArray × Int)))
  | 0, _, _ => none
  | m + 1, y43, y44 => (cond (decide (y43 < ((p0.f_Syms.length : Nat) : Int))) (((atL p0.f_Syms y43).bind fun x71 => ((((atL p0.f_Times y43).bind fun x82 => some (updT y44 x71 x82)) : Option ((List (ByteArray × Int)))).bind fun x81 => gexpr_of_L1 N p0 m (IntKind.wrap .i64 (y43 + 1)) x81))) (some y44))

def gexpr_of (n : Nat) (p0 : TLin) : Option (Texpr_sum) := ((gexpr_of_L1 n p0 n 0 ([] : (List (ByteArray × Int)))).bind fun x69 => some (Texpr_sum.mk x69 p0.f_Off))

def gexpr_of_post (R : List Res) (r : Texpr_sum) (x : A) (s : St) : Prop := ∃ (bm_r_f_times : Nat), x = (.agg [(.mp bm_r_f_times), (.v (.int .i64 r.f_off))]) ∧ Hp s (.blk bm_r_f_times (mapB r.f_times) :: R)

theorem gexpr_of_ok {n : Nat} {p0 : TLin} {a1 a3 : A} {R : List Res} {σ : St} (h2 : Sl rS a1 p0.f_Syms) (h4 : Sl (rI .i64) a3 p0.f_Times) (hp : Hp σ R) {r : Texpr_sum} (H : gexpr_of n p0 = some r) : Ca cfg 34 [(.agg [a1, a3, (.v (.int .i64 p0.f_Off))])] σ (gexpr_of_post R r) := by
  unfold gexpr_of at H
  refine Ca.enterL (G := [(0, (.agg [a1, a3, (.v (.int .i64 p0.f_Off))]))]) Tryz.func34 rfl rfl rfl rfl ?_
  refine Ec.seq ?_
  refine Ec.region ?_
  refine Eo.box hp rfl (by simp [allOne, A.cells, h2.isOne, h4.isOne]) rfl rfl rfl rfl rfl ?_
  intro b5 σ7 hp6
  refine Eo.alloc (z := [(.v (.map none)), (.v (.int .i64 0))]) hp6 rfl rfl rfl rfl rfl ?_
  intro b8 σ10 hp9
  refine Eo.nil ?_
  refine Ec.seq ?_
  refine Ec.region ?_
  refine Eo.mkMap hp9 rfl rfl rfl rfl ?_
  intro b11 σ13 hp12
  change Hp σ13 (.blk b11 (mapB ([] : (List (ByteArray × Int)))) :: .blk b8 (.cells [(.v (.map none)), (.v (.int .i64 0))] 67) :: .blk b5 (.cells [a1, a3, (.v (.int .i64 p0.f_Off))] 25) :: R) at hp12
  refine Eo.val (x := (.ptr b5 2)) rfl rfl rfl rfl ?_
  refine Eo.val (x := (.v (.int .i64 p0.f_Off))) (op_loadB hp12 2 rfl rfl rfl rfl) rfl rfl rfl ?_
  refine Eo.val (x := (.agg [(.mp b11), (.v (.int .i64 p0.f_Off))])) (op_build (lay_cons rfl rfl rfl rfl rfl (lay_cons rfl rfl rfl rfl rfl lay_nil)) rfl (parts_cons rfl rfl (parts_cons rfl rfl rfl)) Tryz.underlying67 rfl rfl) rfl rfl rfl ?_
  refine Eo.alloc (z := [(.v (.map none)), (.v (.int .i64 0))]) hp12 rfl rfl rfl rfl rfl ?_
  intro b14 σ16 hp15
  refine Eo.store hp15 0 rfl (storeCells_mk rfl rfl rfl rfl rfl rfl) rfl rfl rfl rfl rfl ?_
  intro σ18 hp17
  change Hp σ18 (.blk b14 (.cells [(.mp b11), (.v (.int .i64 p0.f_Off))] 67) :: .blk b11 (mapB ([] : (List (ByteArray × Int)))) :: .blk b8 (.cells [(.v (.map none)), (.v (.int .i64 0))] 67) :: .blk b5 (.cells [a1, a3, (.v (.int .i64 p0.f_Off))] 25) :: R) at hp17
  refine Eo.nil ?_
  refine Ec.seq ?_
  refine Ec.seq ?_
  refine Ec.region ?_
  refine Eo.val (x := (.ptr b5 0)) rfl rfl rfl rfl ?_
  refine Eo.val (x := a1) (op_loadB hp17 3 rfl rfl rfl rfl) rfl rfl rfl ?_
  refine Eo.val (x := (.v (.int .i64 ((p0.f_Syms.length : Nat) : Int)))) (op_lenL h2 rfl rfl rfl rfl rfl Tryz.underlying22) rfl rfl rfl ?_
  refine Eo.val (x := (.v (.int .i64 0))) rfl rfl rfl rfl ?_
  refine Eo.nil ?_
  refine Ec.block ?_
  obtain ⟨x69, hv95, H⟩ := bind_some H
  refine Ec.cut (J := (fun (x69 : (List (ByteArray × Int))) (x : X) (φ : Fr) (s : St) => x = (.exit 0) ∧ (Hp s (.blk b8 (.cells [(.v (.map none)), (.v (.int .i64 0))] 67) :: .blk b14 (.cells [(.mp b11), (.v (.int .i64 p0.f_Off))] 67) :: .blk b11 (mapB x69) :: R) ∧ Fl [(2, (.ptr b8 0)), (3, (.ptr b14 0))] φ)) x69) (Ec.weak (.cons rfl (.cons rfl (.cons rfl (.cons rfl (.cons rfl (.cons rfl (.nil'))))))) (Ec.loopF (f := (fun m (i : (Int × (List (ByteArray × Int))) × Unit) => gexpr_of_L1 n p0 m i.1.1 i.1.2)) (G := (fun (i : (Int × (List (ByteArray × Int))) × Unit) => ([(1, (.ptr b5 0)), (2, (.ptr b8 0)), (3, (.ptr b14 0)), (11, a1), (12, (.v (.int .i64 ((p0.f_Syms.length : Nat) : Int)))), (13, (.v (.int .i64 i.1.1)))] : List (Nat × A)))) (I := (fun (i : (Int × (List (ByteArray × Int))) × Unit) (s : St) => Hp s (.blk b5 (.cells [a1, a3, (.v (.int .i64 p0.f_Off))] 25) :: .blk b8 (.cells [(.v (.map none)), (.v (.int .i64 0))] 67) :: .blk b14 (.cells [(.mp b11), (.v (.int .i64 p0.f_Off))] 67) :: .blk b11 (mapB i.1.2) :: R))) (J := (fun (x69 : (List (ByteArray × Int))) (x : X) (φ : Fr) (s : St) => x = (.exit 0) ∧ (Hp s (.blk b8 (.cells [(.v (.map none)), (.v (.int .i64 0))] 67) :: .blk b14 (.cells [(.mp b11), (.v (.int .i64 p0.f_Off))] 67) :: .blk b11 (mapB x69) :: R) ∧ Fl [(2, (.ptr b8 0)), (3, (.ptr b14 0))] φ))) (fun _ => rfl) ?_ n ((0, ([] : (List (ByteArray × Int)))), ()) _ x69 (Hp.front (Hp.front (Hp.front (Hp.front hp17 1) 1) 2) 3) hv95)) ?_
  · rintro m ⟨⟨y43, y44⟩, _⟩ σ0 v hp0 H ih
    change gexpr_of_L1 n p0 (m + 1) y43 y44 = some v at H
    rw [gexpr_of_L1] at H
    change Ec _ _ _ [(1, (.ptr b5 0)), (2, (.ptr b8 0)), (3, (.ptr b14 0)), (11, a1), (12, (.v (.int .i64 ((p0.f_Syms.length : Nat) : Int)))), (13, (.v (.int .i64 y43)))] σ0 _
    refine Ec.seq ?_
    refine Ec.region ?_
    refine Eo.val (x := (.v (.bool (decide (y43 < ((p0.f_Syms.length : Nat) : Int)))))) rfl rfl rfl rfl ?_
    refine Eo.nil ?_
    refine Ec.seq ?_
    refine Ec.cond (t := (decide (y43 < ((p0.f_Syms.length : Nat) : Int)))) rfl (fun hc70 => ?_) (fun hc70 => ?_)
    · have H := cond_t hc70 H
      refine Ec.skip ?_
      refine Ec.seq ?_
      refine Ec.block ?_
      refine Ec.seq ?_
      refine Ec.region ?_
      refine Eo.val (x := (.v (.int .i64 y43))) rfl rfl rfl rfl ?_
      obtain ⟨x71, hvx71, H⟩ := bind_some H
      refine Eo.idx h2 hvx71 rfl rfl rfl Tryz.underlying22 rfl rfl rfl rfl ?_
      rintro cs72 p73 _ hat74 rfl
      refine Eo.val (x := (.v (.string x71))) (op_loadSp hat74 0 rfl rfl rfl rfl rfl) rfl rfl rfl ?_
      refine Eo.val (x := (.v (.int .i64 y43))) rfl rfl rfl rfl ?_
      refine Eo.val (x := (.v (.string x71))) rfl rfl rfl rfl ?_
      refine Eo.nil ?_
      obtain ⟨x81, hv93, H⟩ := bind_some H
      refine Ec.cut (J := (fun (x81 : (List (ByteArray × Int))) (x : X) (φ : Fr) (s : St) => x = .normal ∧ (Hp s (.blk b5 (.cells [a1, a3, (.v (.int .i64 p0.f_Off))] 25) :: .blk b8 (.cells [(.v (.map none)), (.v (.int .i64 0))] 67) :: .blk b14 (.cells [(.mp b11), (.v (.int .i64 p0.f_Off))] 67) :: .blk b11 (mapB x81) :: R) ∧ Fl [(1, (.ptr b5 0)), (2, (.ptr b8 0)), (3, (.ptr b14 0)), (11, a1), (12, (.v (.int .i64 ((p0.f_Syms.length : Nat) : Int)))), (13, (.v (.int .i64 y43)))] φ)) x81) ?_ ?_
      · have H := hv93
        refine Ec.drawn2 (by kernel_rfl) ?_
        refine Eo.val (x := (.ptr b14 0)) rfl rfl rfl rfl ?_
        refine Eo.val (x := (.mp b11)) (op_loadB hp0 2 rfl rfl rfl rfl) rfl rfl rfl ?_
        refine Eo.val (x := (.v (.string x71))) rfl rfl rfl rfl ?_
        refine Eo.val (x := (.ptr b5 1)) rfl rfl rfl rfl ?_
        refine Eo.val (x := a3) (op_loadB hp0 0 rfl rfl rfl rfl) rfl rfl rfl ?_
        refine Eo.val (x := (.v (.int .i64 y43))) rfl rfl rfl rfl ?_
        obtain ⟨x82, hvx82, H⟩ := bind_some H
        refine Eo.idx h4 hvx82 rfl rfl rfl Tryz.underlying23 rfl rfl rfl rfl ?_
        rintro cs83 p84 _ hat85 rfl
        refine Eo.val (x := (.v (.int .i64 x82))) (op_loadSp hat85 0 rfl rfl rfl rfl rfl) rfl rfl rfl ?_
        refine Eo.mapU hp0 3 rfl rfl rfl rfl rfl rfl rfl rfl ?_
        intro σ87 hp86
        change Hp σ87 (.blk b5 (.cells [a1, a3, (.v (.int .i64 p0.f_Off))] 25) :: .blk b8 (.cells [(.v (.map none)), (.v (.int .i64 0))] 67) :: .blk b14 (.cells [(.mp b11), (.v (.int .i64 p0.f_Off))] 67) :: .blk b11 (mapB (updT y44 x71 x82)) :: R) at hp86
        refine Eo.nil ?_
        obtain rfl := Option.some.inj H
        exact And.intro rfl (And.intro rfl ⟨(Hp.front (Hp.front (Hp.front (Hp.front hp86 3) 3) 3) 3), (.cons rfl (.cons rfl (.cons rfl (.cons rfl (.cons rfl (.cons rfl (.nil')))))))⟩)
      · skip
        intro x φ90 σ89 hJ
        obtain ⟨rfl, hp88, hf91⟩ := hJ
        refine Ec.of (F := [(1, (.ptr b5 0)), (2, (.ptr b8 0)), (3, (.ptr b14 0)), (11, a1), (12, (.v (.int .i64 ((p0.f_Syms.length : Nat) : Int)))), (13, (.v (.int .i64 y43)))]) hf91 ?_
        refine Ec.region ?_
        refine Eo.val (x := (.v (.int .i64 (IntKind.wrap .i64 (y43 + 1))))) rfl rfl rfl rfl ?_
        refine Eo.val (x := (.v (.int .i64 (IntKind.wrap .i64 (y43 + 1))))) rfl rfl rfl rfl ?_
        refine Eo.nil ?_
        exact Ec.of (.cons rfl (.cons rfl (.cons rfl (.cons rfl (.cons rfl (.cons rfl (.nil'))))))) (ih (((IntKind.wrap .i64 (y43 + 1)), x81), ()) _ (Hp.front (Hp.front (Hp.front (Hp.front hp88 3) 3) 3) 3) H)
    · have H := cond_f hc70 H
      refine Ec.exit ?_
      obtain rfl := Option.some.inj H
      exact And.intro rfl ⟨(Hp.front (Hp.front (Hp.front (Hp.drop hp0 0) 2) 2) 2), (.cons rfl (.cons rfl (.nil')))⟩
  · skip
    intro x φ98 σ97 hJ
    obtain ⟨rfl, hp96, hf99⟩ := hJ
    refine Ec.of (F := [(2, (.ptr b8 0)), (3, (.ptr b14 0))]) hf99 ?_
    refine Ec.seq ?_
    refine Ec.region ?_
    refine Eo.val (x := (.agg [(.mp b11), (.v (.int .i64 p0.f_Off))])) (op_loadB hp96 1 rfl rfl rfl rfl) rfl rfl rfl ?_
    refine Eo.store hp96 0 rfl (storeCells_mk rfl rfl rfl rfl rfl rfl) rfl rfl rfl rfl rfl ?_
    intro σ101 hp100
    change Hp σ101 (.blk b8 (.cells [(.mp b11), (.v (.int .i64 p0.f_Off))] 67) :: .blk b14 (.cells [(.mp b11), (.v (.int .i64 p0.f_Off))] 67) :: .blk b11 (mapB x69) :: R) at hp100
    refine Eo.nil ?_
    obtain rfl := Option.some.inj H
    refine Ec.ret ?_
    refine Ret.mk' (resA_cell hp100 0 rfl rfl rfl rfl) ?_
    exact ⟨b11, rfl, (Hp.drop (Hp.drop hp100 0) 0)⟩

def gexpr_sum__lin_L1 (N : Nat) (p0 : Texpr_sum) (l19 : (List ByteArray)) : Nat → Int → (List ByteArray) → (List Int) → Option (((List ByteArray) × (List Int)))
  | 0, _, _, _ => none
  | m + 1, y91, y92, y95 => (cond (decide (y91 < ((l19.length : Nat) : Int))) (((((atL l19 y91).bind fun x205 => (cond ((lookT p0.f_times x205) != 0) (((appL 16 y92 ([x205] : List ByteArray)).bind fun l214 => ((appL 8 y95 ([(lookT p0.f_times x205)] : List Int)).bind fun l225 => some (l214, l225)))) (some (y92, y95)))) : Option (((List ByteArray) × (List Int)))).bind fun v => match v with | (x199, x202) => gexpr_sum__lin_L1 N p0 l19 m (IntKind.wrap .i64 (y91 + 1)) x199 x202)) (some (y92, y95)))

def gexpr_sum__lin (n : Nat) (p0 : Texpr_sum) : Option (TLin) := ((keysT p0.f_times).bind fun l19 => ((gexpr_sum__lin_L1 n p0 l19 n 0 ([] : List ByteArray) ([] : List Int)).bind fun v => match v with | (x165, x168) => some (TLin.mk x165 x168 p0.f_off)))

def gexpr_sum__lin_post (bm_p0_f_times : Nat) (p0 : Texpr_sum) (R : List Res) (r : TLin) (x : A) (s : St) : Prop := ∃ (a1 a3 : A), x = (.agg [a1, a3, (.v (.int .i64 r.f_Off))]) ∧ Sl rS a1 r.f_Syms ∧ Sl (rI .i64) a3 r.f_Times ∧ Hp s (.blk bm_p0_f_times (mapB p0.f_times) :: .app a1 9 :: .app a3 3 :: R)

theorem gexpr_sum__lin_ok {n : Nat} {bm_p0_f_times : Nat} {p0 : Texpr_sum} {R : List Res} {σ : St} (hp : Hp σ (.blk bm_p0_f_times (mapB p0.f_times) :: R)) {r : TLin} (H : gexpr_sum__lin n p0 = some r) : Ca cfg 35 [(.agg [(.mp bm_p0_f_times), (.v (.int .i64 p0.f_off))])] σ (gexpr_sum__lin_post bm_p0_f_times p0 R r) := by
  unfold gexpr_sum__lin at H
  refine Ca.enterL (G := [(0, (.agg [(.mp bm_p0_f_times), (.v (.int .i64 p0.f_off))]))]) Tryz.func35 rfl rfl rfl rfl ?_
  refine Ec.seq ?_
  refine Ec.region ?_
  refine Eo.box hp rfl rfl rfl rfl rfl rfl rfl ?_
  intro b5 σ7 hp6
  refine Eo.alloc (z := [nilS, nilS, (.v (.int .i64 0))]) hp6 rfl rfl rfl rfl rfl ?_
  intro b8 σ10 hp9
  refine Eo.nil ?_
  refine Ec.seq ?_
  refine Ec.region ?_
  refine Eo.val (x := (.ptr b5 1)) rfl rfl rfl rfl ?_
  refine Eo.val (x := (.v (.int .i64 p0.f_off))) (op_loadB hp9 1 rfl rfl rfl rfl) rfl rfl rfl ?_
  refine Eo.val (x := (.agg [nilS, nilS, (.v (.int .i64 p0.f_off))])) (op_build (lay_cons rfl rfl rfl rfl rfl lay_nil) rfl (parts_cons rfl rfl rfl) Tryz.underlying25 rfl rfl) rfl rfl rfl ?_
  refine Eo.alloc (z := [nilS, nilS, (.v (.int .i64 0))]) hp9 rfl rfl rfl rfl rfl ?_
  intro b11 σ13 hp12
  refine Eo.store hp12 0 rfl (storeCells_mk rfl rfl rfl rfl rfl rfl) rfl rfl rfl rfl rfl ?_
  intro σ15 hp14
  change Hp σ15 (.blk b11 (.cells [nilS, nilS, (.v (.int .i64 p0.f_off))] 25) :: .blk b8 (.cells [nilS, nilS, (.v (.int .i64 0))] 25) :: .blk b5 (.cells [(.mp bm_p0_f_times), (.v (.int .i64 p0.f_off))] 67) :: .blk bm_p0_f_times (mapB p0.f_times) :: R) at hp14
  refine Eo.nil ?_
  refine Ec.seq ?_
  refine Ec.seq ?_
  refine Ec.region ?_
  refine Eo.val (x := (.ptr b5 0)) rfl rfl rfl rfl ?_
  refine Eo.val (x := (.mp bm_p0_f_times)) (op_loadB hp14 2 rfl rfl rfl rfl) rfl rfl rfl ?_
  refine Eo.call rfl rfl rfl rfl (gmapsKeys43_ok hp14) ?_
  rintro _ σ18 ⟨b16, rfl, hp17⟩
  change Hp σ18 (.blk b16 (.cells [(.mp bm_p0_f_times)] 65) :: .blk b11 (.cells [nilS, nilS, (.v (.int .i64 p0.f_off))] 25) :: .blk b8 (.cells [nilS, nilS, (.v (.int .i64 0))] 25) :: .blk b5 (.cells [(.mp bm_p0_f_times), (.v (.int .i64 p0.f_off))] 67) :: .blk bm_p0_f_times (mapB p0.f_times) :: R) at hp17
  obtain ⟨l19, hvl19, H⟩ := bind_some H
  refine Eo.call rfl rfl rfl rfl (sortedM_ok (C := cfg) (f := 42) (g := 49) rfl hp17 0 rfl 4 rfl hvl19) ?_
  rintro a20 σ23 ⟨_, rfl, h21, hp22⟩
  change Hp σ23 (.blk b16 (.cells [(.mp bm_p0_f_times)] 65) :: .blk b11 (.cells [nilS, nilS, (.v (.int .i64 p0.f_off))] 25) :: .blk b8 (.cells [nilS, nilS, (.v (.int .i64 0))] 25) :: .blk b5 (.cells [(.mp bm_p0_f_times), (.v (.int .i64 p0.f_off))] 67) :: .blk bm_p0_f_times (mapB p0.f_times) :: R) at hp22
  refine Eo.val (x := (.v (.int .i64 ((l19.length : Nat) : Int)))) (op_lenL h21 rfl rfl rfl rfl rfl Tryz.underlying22) rfl rfl rfl ?_
  refine Eo.val (x := (.v (.int .i64 0))) rfl rfl rfl rfl ?_
  refine Eo.nil ?_
  refine Ec.block ?_
  obtain ⟨v238, hv239, H⟩ := bind_some H
  refine Ec.cut (J := (fun (v : ((List ByteArray) × (List Int))) (x : X) (φ : Fr) (s : St) => match v with | (x165, x168) => x = (.exit 0) ∧ (∃ (a166 a169 : A), Sl rS a166 x165 ∧ Sl (rI .i64) a169 x168 ∧ Hp s (.blk b8 (.cells [nilS, nilS, (.v (.int .i64 0))] 25) :: .blk b11 (.cells [a166, a169, (.v (.int .i64 p0.f_off))] 25) :: .blk bm_p0_f_times (mapB p0.f_times) :: .app a166 9 :: .app a169 3 :: R) ∧ Fl [(2, (.ptr b8 0)), (3, (.ptr b11 0))] φ)) v238) (Ec.weak (.cons rfl (.cons rfl (.cons rfl (.cons rfl (.cons rfl (.cons rfl (.nil'))))))) (Ec.loopF (f := (fun m (i : (Int × (List ByteArray) × (List Int)) × (A × A)) => gexpr_sum__lin_L1 n p0 l19 m i.1.1 i.1.2.1 i.1.2.2)) (G := (fun (i : (Int × (List ByteArray) × (List Int)) × (A × A)) => ([(1, (.ptr b5 0)), (2, (.ptr b8 0)), (3, (.ptr b11 0)), (12, a20), (13, (.v (.int .i64 ((l19.length : Nat) : Int)))), (14, (.v (.int .i64 i.1.1)))] : List (Nat × A)))) (I := (fun (i : (Int × (List ByteArray) × (List Int)) × (A × A)) (s : St) => Sl rS i.2.1 i.1.2.1 ∧ Sl (rI .i64) i.2.2 i.1.2.2 ∧ Hp s (.blk b5 (.cells [(.mp bm_p0_f_times), (.v (.int .i64 p0.f_off))] 67) :: .blk bm_p0_f_times (mapB p0.f_times) :: .blk b8 (.cells [nilS, nilS, (.v (.int .i64 0))] 25) :: .blk b11 (.cells [i.2.1, i.2.2, (.v (.int .i64 p0.f_off))] 25) :: .app i.2.1 9 :: .app i.2.2 3 :: R))) (J := (fun (v : ((List ByteArray) × (List Int))) (x : X) (φ : Fr) (s : St) => match v with | (x165, x168) => x = (.exit 0) ∧ (∃ (a166 a169 : A), Sl rS a166 x165 ∧ Sl (rI .i64) a169 x168 ∧ Hp s (.blk b8 (.cells [nilS, nilS, (.v (.int .i64 0))] 25) :: .blk b11 (.cells [a166, a169, (.v (.int .i64 p0.f_off))] 25) :: .blk bm_p0_f_times (mapB p0.f_times) :: .app a166 9 :: .app a169 3 :: R) ∧ Fl [(2, (.ptr b8 0)), (3, (.ptr b11 0))] φ))) (fun _ => rfl) ?_ n ((0, ([] : List ByteArray), ([] : List Int)), (nilS, nilS)) _ v238 ⟨Sl.nil, Sl.nil, (Hp.front (Hp.front (Hp.front (Hp.front (Hp.front (Hp.appNil (Hp.appNil (Hp.drop hp22 0) 9) 3) 1) 2) 3) 5) 5)⟩ hv239)) ?_
  · rintro m ⟨⟨y91, y92, y95⟩, ⟨a93, a96⟩⟩ σ0 v ⟨h94, h97, hp0⟩ H ih
    change gexpr_sum__lin_L1 n p0 l19 (m + 1) y91 y92 y95 = some v at H
    rw [gexpr_sum__lin_L1] at H
    change Ec _ _ _ [(1, (.ptr b5 0)), (2, (.ptr b8 0)), (3, (.ptr b11 0)), (12, a20), (13, (.v (.int .i64 ((l19.length : Nat) : Int)))), (14, (.v (.int .i64 y91)))] σ0 _
    refine Ec.seq ?_
    refine Ec.region ?_
    refine Eo.val (x := (.v (.bool (decide (y91 < ((l19.length : Nat) : Int)))))) rfl rfl rfl rfl ?_
    refine Eo.nil ?_
    refine Ec.seq ?_
    refine Ec.cond (t := (decide (y91 < ((l19.length : Nat) : Int)))) rfl (fun hc171 => ?_) (fun hc171 => ?_)
    · have H := cond_t hc171 H
      refine Ec.skip ?_
      refine Ec.seq ?_
      obtain ⟨v236, hv237, H⟩ := bind_some H
      refine Ec.cut (J := (fun (v : ((List ByteArray) × (List Int))) (x : X) (φ : Fr) (s : St) => match v with | (x199, x202) => x = .normal ∧ (∃ (a200 a203 : A), Sl rS a200 x199 ∧ Sl (rI .i64) a203 x202 ∧ Hp s (.blk b5 (.cells [(.mp bm_p0_f_times), (.v (.int .i64 p0.f_off))] 67) :: .blk bm_p0_f_times (mapB p0.f_times) :: .blk b8 (.cells [nilS, nilS, (.v (.int .i64 0))] 25) :: .blk b11 (.cells [a200, a203, (.v (.int .i64 p0.f_off))] 25) :: .app a200 9 :: .app a203 3 :: R) ∧ Fl [(1, (.ptr b5 0)), (2, (.ptr b8 0)), (3, (.ptr b11 0)), (12, a20), (13, (.v (.int .i64 ((l19.length : Nat) : Int)))), (14, (.v (.int .i64 y91)))] φ)) v236) ?_ ?_
      · have H := hv237
        refine Ec.block ?_
        refine Ec.seq ?_
        refine Ec.region ?_
        obtain ⟨x205, hvx205, H⟩ := bind_some H
        refine Eo.idx h21 hvx205 rfl rfl rfl Tryz.underlying22 rfl rfl rfl rfl ?_
        rintro cs206 p207 _ hat208 rfl
        refine Eo.val (x := (.v (.string x205))) (op_loadSp hat208 0 rfl rfl rfl rfl rfl) rfl rfl rfl ?_
        refine Eo.val (x := (.v (.string x205))) rfl rfl rfl rfl ?_
        refine Eo.nil ?_
        refine Ec.seq ?_
        refine Ec.region ?_
        refine Eo.val (x := (.ptr b5 0)) rfl rfl rfl rfl ?_
        refine Eo.val (x := (.mp bm_p0_f_times)) (op_loadB hp0 0 rfl rfl rfl rfl) rfl rfl rfl ?_
        refine Eo.val (x := (.v (.string x205))) rfl rfl rfl rfl ?_
        refine Eo.val (x := (.v (.int .i64 (lookT p0.f_times x205)))) (op_lookM hp0 1 rfl rfl rfl rfl rfl rfl) rfl rfl rfl ?_
        refine Eo.val (x := (.v (.bool ((lookT p0.f_times x205) != 0)))) rfl rfl rfl rfl ?_
        refine Eo.nil ?_
        refine Ec.cond (t := ((lookT p0.f_times x205) != 0)) rfl (fun hc209 => ?_) (fun hc209 => ?_)
        · have H := cond_t hc209 H
          refine Ec.seq ?_
          refine Ec.region ?_
          refine Eo.val (x := (.ptr b11 0)) rfl rfl rfl rfl ?_
          refine Eo.val (x := a93) (op_loadB hp0 3 rfl rfl rfl rfl) rfl rfl rfl ?_
          refine Eo.val (x := (.v (.string x205))) rfl rfl rfl rfl ?_
          refine Eo.val (x := (.sl 1 [(.v (.string x205))] .ex)) (op_buildS (lay_cons rfl rfl rfl rfl rfl lay_nil) rfl (parts_cons rfl rfl rfl) Tryz.underlying22 rfl rfl rfl rfl (by decide) rfl) rfl rfl rfl ?_
          have h213 : Sl rS (.sl 1 [(.v (.string x205))] .ex) ([x205] : List ByteArray) := .inr ⟨_, _, rfl, (.cons (c := [(.v (.string x205))]) rfl .nil)⟩
          have hp212 := Hp.appEx hp0 9 1 [(.v (.string x205))]
          obtain ⟨l214, hvl214, H⟩ := bind_some H
          refine Eo.append hp212 5 rfl h94 (New.of h213) hvl214 rfl rfl rfl rfl rfl rfl rfl Tryz.underlying22 rfl Tryz.underlying22 rfl rfl rfl rfl rfl rfl rfl rfl ?_
          intro a215 σ218 h216 hp217
          change Hp σ218 (.app (.sl 1 [(.v (.string x205))] .ex) 9 :: .blk b5 (.cells [(.mp bm_p0_f_times), (.v (.int .i64 p0.f_off))] 67) :: .blk bm_p0_f_times (mapB p0.f_times) :: .blk b8 (.cells [nilS, nilS, (.v (.int .i64 0))] 25) :: .blk b11 (.cells [a93, a96, (.v (.int .i64 p0.f_off))] 25) :: .app a215 9 :: .app a96 3 :: R) at hp217
          refine Eo.val (x := (.ptr b11 0)) rfl rfl rfl rfl ?_
          refine Eo.store hp217 4 rfl (storeCells_mk (h216.cells) rfl rfl (by simp [allOne, A.cells, h216.isOne]) rfl rfl) rfl rfl rfl rfl rfl ?_
          intro σ220 hp219
          change Hp σ220 (.app (.sl 1 [(.v (.string x205))] .ex) 9 :: .blk b5 (.cells [(.mp bm_p0_f_times), (.v (.int .i64 p0.f_off))] 67) :: .blk bm_p0_f_times (mapB p0.f_times) :: .blk b8 (.cells [nilS, nilS, (.v (.int .i64 0))] 25) :: .blk b11 (.cells [a215, a96, (.v (.int .i64 p0.f_off))] 25) :: .app a215 9 :: .app a96 3 :: R) at hp219
          refine Eo.nil ?_
          refine Ec.region ?_
          refine Eo.val (x := (.ptr b11 1)) rfl rfl rfl rfl ?_
          refine Eo.val (x := a96) (op_loadB hp219 4 rfl rfl rfl rfl) rfl rfl rfl ?_
          refine Eo.val (x := (.ptr b5 0)) rfl rfl rfl rfl ?_
          refine Eo.val (x := (.mp bm_p0_f_times)) (op_loadB hp219 1 rfl rfl rfl rfl) rfl rfl rfl ?_
          refine Eo.val (x := (.v (.string x205))) rfl rfl rfl rfl ?_
          refine Eo.val (x := (.v (.int .i64 (lookT p0.f_times x205)))) (op_lookM hp219 2 rfl rfl rfl rfl rfl rfl) rfl rfl rfl ?_
          refine Eo.val (x := (.sl 1 [(.v (.int .i64 (lookT p0.f_times x205)))] .ex)) (op_buildS (lay_cons rfl rfl rfl rfl rfl lay_nil) rfl (parts_cons rfl rfl rfl) Tryz.underlying23 rfl rfl rfl rfl (by decide) rfl) rfl rfl rfl ?_
          have h224 : Sl (rI .i64) (.sl 1 [(.v (.int .i64 (lookT p0.f_times x205)))] .ex) ([(lookT p0.f_times x205)] : List Int) := .inr ⟨_, _, rfl, (.cons (c := [(.v (.int .i64 (lookT p0.f_times x205)))]) rfl .nil)⟩
          have hp223 := Hp.appEx hp219 3 1 [(.v (.int .i64 (lookT p0.f_times x205)))]
          obtain ⟨l225, hvl225, H⟩ := bind_some H
          refine Eo.append hp223 7 rfl h97 (New.of h224) hvl225 rfl rfl rfl rfl rfl rfl rfl Tryz.underlying23 rfl Tryz.underlying23 rfl rfl rfl rfl rfl rfl rfl rfl ?_
          intro a226 σ229 h227 hp228
          change Hp σ229 (.app (.sl 1 [(.v (.int .i64 (lookT p0.f_times x205)))] .ex) 3 :: .app (.sl 1 [(.v (.string x205))] .ex) 9 :: .blk b5 (.cells [(.mp bm_p0_f_times), (.v (.int .i64 p0.f_off))] 67) :: .blk bm_p0_f_times (mapB p0.f_times) :: .blk b8 (.cells [nilS, nilS, (.v (.int .i64 0))] 25) :: .blk b11 (.cells [a215, a96, (.v (.int .i64 p0.f_off))] 25) :: .app a215 9 :: .app a226 3 :: R) at hp228
          refine Eo.val (x := (.ptr b11 1)) rfl rfl rfl rfl ?_
          refine Eo.store hp228 5 rfl (storeCells_mk (h227.cells) rfl rfl (by simp [allOne, A.cells, h227.isOne]) rfl rfl) rfl rfl rfl rfl rfl ?_
          intro σ231 hp230
          change Hp σ231 (.app (.sl 1 [(.v (.int .i64 (lookT p0.f_times x205)))] .ex) 3 :: .app (.sl 1 [(.v (.string x205))] .ex) 9 :: .blk b5 (.cells [(.mp bm_p0_f_times), (.v (.int .i64 p0.f_off))] 67) :: .blk bm_p0_f_times (mapB p0.f_times) :: .blk b8 (.cells [nilS, nilS, (.v (.int .i64 0))] 25) :: .blk b11 (.cells [a215, a226, (.v (.int .i64 p0.f_off))] 25) :: .app a215 9 :: .app a226 3 :: R) at hp230
          refine Eo.nil ?_
          obtain rfl := Option.some.inj H
          exact And.intro rfl ⟨a215, a226, h216, h227, (Hp.front (Hp.front (Hp.front (Hp.front (Hp.front (Hp.front (Hp.drop (Hp.drop hp230 0) 0) 5) 5) 5) 5) 5) 5), (.cons rfl (.cons rfl (.cons rfl (.cons rfl (.cons rfl (.cons rfl (.nil')))))))⟩
        · have H := cond_f hc209 H
          refine Ec.skip ?_
          obtain rfl := Option.some.inj H
          exact And.intro rfl ⟨a93, a96, h94, h97, (Hp.front (Hp.front (Hp.front (Hp.front (Hp.front (Hp.front hp0 5) 5) 5) 5) 5) 5), (.cons rfl (.cons rfl (.cons rfl (.cons rfl (.cons rfl (.cons rfl (.nil')))))))⟩
      · skip
        intro x φ234 σ233 hJ
        obtain ⟨x199, x202⟩ := v236
        obtain ⟨rfl, a200, a203, h201, h204, hp232, hf235⟩ := hJ
        refine Ec.of (F := [(1, (.ptr b5 0)), (2, (.ptr b8 0)), (3, (.ptr b11 0)), (12, a20), (13, (.v (.int .i64 ((l19.length : Nat) : Int)))), (14, (.v (.int .i64 y91)))]) hf235 ?_
        refine Ec.region ?_
        refine Eo.val (x := (.v (.int .i64 (IntKind.wrap .i64 (y91 + 1))))) rfl rfl rfl rfl ?_
        refine Eo.val (x := (.v (.int .i64 (IntKind.wrap .i64 (y91 + 1))))) rfl rfl rfl rfl ?_
        refine Eo.nil ?_
        exact Ec.of (.cons rfl (.cons rfl (.cons rfl (.cons rfl (.cons rfl (.cons rfl (.nil'))))))) (ih (((IntKind.wrap .i64 (y91 + 1)), x199, x202), (a200, a203)) _ ⟨h201, h204, (Hp.front (Hp.front (Hp.front (Hp.front (Hp.front (Hp.front hp232 5) 5) 5) 5) 5) 5)⟩ H)
    · have H := cond_f hc171 H
      refine Ec.exit ?_
      obtain rfl := Option.some.inj H
      exact And.intro rfl ⟨a93, a96, h94, h97, (Hp.front (Hp.front (Hp.front (Hp.front (Hp.front (Hp.drop hp0 0) 4) 4) 2) 4) 4), (.cons rfl (.cons rfl (.nil')))⟩
  · skip
    intro x φ242 σ241 hJ
    obtain ⟨x165, x168⟩ := v238
    obtain ⟨rfl, a166, a169, h167, h170, hp240, hf243⟩ := hJ
    refine Ec.of (F := [(2, (.ptr b8 0)), (3, (.ptr b11 0))]) hf243 ?_
    refine Ec.seq ?_
    refine Ec.region ?_
    refine Eo.val (x := (.agg [a166, a169, (.v (.int .i64 p0.f_off))])) (op_loadB hp240 1 rfl rfl rfl rfl) rfl rfl rfl ?_
    refine Eo.store hp240 0 rfl (storeCells_mk rfl rfl rfl (by simp [allOne, A.cells, h167.isOne, h170.isOne]) rfl rfl) rfl rfl rfl rfl rfl ?_
    intro σ245 hp244
    change Hp σ245 (.blk b8 (.cells [a166, a169, (.v (.int .i64 p0.f_off))] 25) :: .blk b11 (.cells [a166, a169, (.v (.int .i64 p0.f_off))] 25) :: .blk bm_p0_f_times (mapB p0.f_times) :: .app a166 9 :: .app a169 3 :: R) at hp244
    refine Eo.nil ?_
    obtain rfl := Option.some.inj H
    refine Ec.ret ?_
    refine Ret.mk' (resA_cell hp244 0 rfl rfl rfl rfl) ?_
    exact ⟨a166, a169, rfl, h167, h170, (Hp.front (Hp.front (Hp.front (Hp.drop (Hp.drop hp244 0) 0) 2) 2) 2)⟩

def gexpr_plus_L1 (N : Nat) (p1 : TLin) (p2 : Int) : Nat → Int → (List (ByteArray × Int)) → Option ((List (ByteArray × Int)))
  | 0, _, _ => none
  | m + 1, y56, y57 => (cond (decide (y56 < ((p1.f_Syms.length : Nat) : Int))) (((atL p1.f_Syms y56).bind fun x84 => ((((atL p1.f_Times y56).bind fun x95 => some (updT y57 x84 (IntKind.wrap .i64 ((lookT y57 x84) + (IntKind.wrap .i64 (p2 * x95)))))) : Option ((List (ByteArray × Int)))).bind fun x94 => gexpr_plus_L1 N p1 p2 m (IntKind.wrap .i64 (y56 + 1)) x94))) (some y57))

def gexpr_plus (n : Nat) (p0 : TLin) (p1 : TLin) (p2 : Int) : Option (TLin) := ((gexpr_of n p0).bind fun r22 => ((gexpr_plus_L1 n p1 p2 n 0 r22.f_times).bind fun x82 => ((gexpr_sum__lin n (Texpr_sum.mk x82 (IntKind.wrap .i64 (r22.f_off + (IntKind.wrap .i64 (p2 * p1.f_Off)))))).bind fun r113 => some r113)))

def gexpr_plus_post (R : List Res) (r : TLin) (x : A) (s : St) : Prop := ∃ (a9 a11 : A), x = (.agg [a9, a11, (.v (.int .i64 r.f_Off))]) ∧ Sl rS a9 r.f_Syms ∧ Sl (rI .i64) a11 r.f_Times ∧ Hp s (.app a9 9 :: .app a11 3 :: R)

theorem gexpr_plus_ok {n : Nat} {p0 : TLin} {p1 : TLin} {p2 : Int} {a1 a3 a5 a7 : A} {R : List Res} {σ : St} (h2 : Sl rS a1 p0.f_Syms) (h4 : Sl (rI .i64) a3 p0.f_Times) (h6 : Sl rS a5 p1.f_Syms) (h8 : Sl (rI .i64) a7 p1.f_Times) (hp : Hp σ R) {r : TLin} (H : gexpr_plus n p0 p1 p2 = some r) : Ca cfg 26 [(.agg [a1, a3, (.v (.int .i64 p0.f_Off))]), (.agg [a5, a7, (.v (.int .i64 p1.f_Off))]), (.v (.int .i64 p2))] σ (gexpr_plus_post R r) := by
  unfold gexpr_plus at H
  refine Ca.enterL (G := [(0, (.agg [a1, a3, (.v (.int .i64 p0.f_Off))])), (1, (.agg [a5, a7, (.v (.int .i64 p1.f_Off))])), (2, (.v (.int .i64 p2)))]) Tryz.func26 rfl rfl rfl rfl ?_
  refine Ec.seq ?_
  refine Ec.region ?_
  refine Eo.box hp rfl (by simp [allOne, A.cells, h2.isOne, h4.isOne]) rfl rfl rfl rfl rfl ?_
  intro b13 σ15 hp14
  refine Eo.box hp14 rfl (by simp [allOne, A.cells, h6.isOne, h8.isOne]) rfl rfl rfl rfl rfl ?_
  intro b16 σ18 hp17
  refine Eo.alloc (z := [nilS, nilS, (.v (.int .i64 0))]) hp17 rfl rfl rfl rfl rfl ?_
  intro b19 σ21 hp20
  refine Eo.nil ?_
  refine Ec.seq ?_
  refine Ec.region ?_
  refine Eo.val (x := (.agg [a1, a3, (.v (.int .i64 p0.f_Off))])) (op_loadB hp20 2 rfl rfl rfl rfl) rfl rfl rfl ?_
  obtain ⟨r22, hvr22, H⟩ := bind_some H
  refine Eo.call rfl rfl rfl rfl (gexpr_of_ok h2 h4 hp20 hvr22) ?_
  rintro _ σ24 ⟨bm_r22_f_times, rfl, hp23⟩
  change Hp σ24 (.blk bm_r22_f_times (mapB r22.f_times) :: .blk b19 (.cells [nilS, nilS, (.v (.int .i64 0))] 25) :: .blk b16 (.cells [a5, a7, (.v (.int .i64 p1.f_Off))] 25) :: .blk b13 (.cells [a1, a3, (.v (.int .i64 p0.f_Off))] 25) :: R) at hp23
  refine Eo.alloc (z := [(.v (.map none)), (.v (.int .i64 0))]) hp23 rfl rfl rfl rfl rfl ?_
  intro b25 σ27 hp26
  refine Eo.store hp26 0 rfl (storeCells_mk rfl rfl rfl rfl rfl rfl) rfl rfl rfl rfl rfl ?_
  intro σ29 hp28
  change Hp σ29 (.blk b25 (.cells [(.mp bm_r22_f_times), (.v (.int .i64 r22.f_off))] 67) :: .blk bm_r22_f_times (mapB r22.f_times) :: .blk b19 (.cells [nilS, nilS, (.v (.int .i64 0))] 25) :: .blk b16 (.cells [a5, a7, (.v (.int .i64 p1.f_Off))] 25) :: .blk b13 (.cells [a1, a3, (.v (.int .i64 p0.f_Off))] 25) :: R) at hp28
  refine Eo.nil ?_
  refine Ec.seq ?_
  refine Ec.region ?_
  refine Eo.val (x := (.ptr b25 1)) rfl rfl rfl rfl ?_
  refine Eo.val (x := (.v (.int .i64 r22.f_off))) (op_loadB hp28 0 rfl rfl rfl rfl) rfl rfl rfl ?_
  refine Eo.val (x := (.v (.int .i64 p2))) rfl rfl rfl rfl ?_
  refine Eo.val (x := (.ptr b16 2)) rfl rfl rfl rfl ?_
  refine Eo.val (x := (.v (.int .i64 p1.f_Off))) (op_loadB hp28 3 rfl rfl rfl rfl) rfl rfl rfl ?_
  refine Eo.val (x := (.v (.int .i64 (IntKind.wrap .i64 (p2 * p1.f_Off))))) rfl rfl rfl rfl ?_
  refine Eo.val (x := (.v (.int .i64 (IntKind.wrap .i64 (r22.f_off + (IntKind.wrap .i64 (p2 * p1.f_Off))))))) rfl rfl rfl rfl ?_
  refine Eo.val (x := (.ptr b25 1)) rfl rfl rfl rfl ?_
  refine Eo.store hp28 0 rfl (storeCells_mk rfl rfl rfl rfl rfl rfl) rfl rfl rfl rfl rfl ?_
  intro σ31 hp30
  change Hp σ31 (.blk b25 (.cells [(.mp bm_r22_f_times), (.v (.int .i64 (IntKind.wrap .i64 (r22.f_off + (IntKind.wrap .i64 (p2 * p1.f_Off))))))] 67) :: .blk bm_r22_f_times (mapB r22.f_times) :: .blk b19 (.cells [nilS, nilS, (.v (.int .i64 0))] 25) :: .blk b16 (.cells [a5, a7, (.v (.int .i64 p1.f_Off))] 25) :: .blk b13 (.cells [a1, a3, (.v (.int .i64 p0.f_Off))] 25) :: R) at hp30
  refine Eo.nil ?_
  refine Ec.seq ?_
  refine Ec.seq ?_
  refine Ec.region ?_
  refine Eo.val (x := (.ptr b16 0)) rfl rfl rfl rfl ?_
  refine Eo.val (x := a5) (op_loadB hp30 3 rfl rfl rfl rfl) rfl rfl rfl ?_
  refine Eo.val (x := (.v (.int .i64 ((p1.f_Syms.length : Nat) : Int)))) (op_lenL h6 rfl rfl rfl rfl rfl Tryz.underlying22) rfl rfl rfl ?_
  refine Eo.val (x := (.v (.int .i64 0))) rfl rfl rfl rfl ?_
  refine Eo.nil ?_
  refine Ec.block ?_
  obtain ⟨x82, hv108, H⟩ := bind_some H
  refine Ec.cut (J := (fun (x82 : (List (ByteArray × Int))) (x : X) (φ : Fr) (s : St) => x = (.exit 0) ∧ (Hp s (.blk b19 (.cells [nilS, nilS, (.v (.int .i64 0))] 25) :: .blk b25 (.cells [(.mp bm_r22_f_times), (.v (.int .i64 (IntKind.wrap .i64 (r22.f_off + (IntKind.wrap .i64 (p2 * p1.f_Off))))))] 67) :: .blk bm_r22_f_times (mapB x82) :: R) ∧ Fl [(6, (.ptr b19 0)), (7, (.ptr b25 0))] φ)) x82) (Ec.weak (.cons rfl (.cons rfl (.cons rfl (.cons rfl (.cons rfl (.cons rfl (.cons rfl (.nil')))))))) (Ec.loopF (f := (fun m (i : (Int × (List (ByteArray × Int))) × Unit) => gexpr_plus_L1 n p1 p2 m i.1.1 i.1.2)) (G := (fun (i : (Int × (List (ByteArray × Int))) × Unit) => ([(2, (.v (.int .i64 p2))), (4, (.ptr b16 0)), (6, (.ptr b19 0)), (7, (.ptr b25 0)), (21, a5), (22, (.v (.int .i64 ((p1.f_Syms.length : Nat) : Int)))), (23, (.v (.int .i64 i.1.1)))] : List (Nat × A)))) (I := (fun (i : (Int × (List (ByteArray × Int))) × Unit) (s : St) => Hp s (.blk b16 (.cells [a5, a7, (.v (.int .i64 p1.f_Off))] 25) :: .blk b19 (.cells [nilS, nilS, (.v (.int .i64 0))] 25) :: .blk b25 (.cells [(.mp bm_r22_f_times), (.v (.int .i64 (IntKind.wrap .i64 (r22.f_off + (IntKind.wrap .i64 (p2 * p1.f_Off))))))] 67) :: .blk bm_r22_f_times (mapB i.1.2) :: R))) (J := (fun (x82 : (List (ByteArray × Int))) (x : X) (φ : Fr) (s : St) => x = (.exit 0) ∧ (Hp s (.blk b19 (.cells [nilS, nilS, (.v (.int .i64 0))] 25) :: .blk b25 (.cells [(.mp bm_r22_f_times), (.v (.int .i64 (IntKind.wrap .i64 (r22.f_off + (IntKind.wrap .i64 (p2 * p1.f_Off))))))] 67) :: .blk bm_r22_f_times (mapB x82) :: R) ∧ Fl [(6, (.ptr b19 0)), (7, (.ptr b25 0))] φ))) (fun _ => rfl) ?_ n ((0, r22.f_times), ()) _ x82 (Hp.front (Hp.front (Hp.front (Hp.front (Hp.drop hp30 4) 1) 1) 2) 3) hv108)) ?_
  · rintro m ⟨⟨y56, y57⟩, _⟩ σ0 v hp0 H ih
    change gexpr_plus_L1 n p1 p2 (m + 1) y56 y57 = some v at H
    rw [gexpr_plus_L1] at H
    change Ec _ _ _ [(2, (.v (.int .i64 p2))), (4, (.ptr b16 0)), (6, (.ptr b19 0)), (7, (.ptr b25 0)), (21, a5), (22, (.v (.int .i64 ((p1.f_Syms.length : Nat) : Int)))), (23, (.v (.int .i64 y56)))] σ0 _
    refine Ec.seq ?_
    refine Ec.region ?_
    refine Eo.val (x := (.v (.bool (decide (y56 < ((p1.f_Syms.length : Nat) : Int)))))) rfl rfl rfl rfl ?_
    refine Eo.nil ?_
    refine Ec.seq ?_
    refine Ec.cond (t := (decide (y56 < ((p1.f_Syms.length : Nat) : Int)))) rfl (fun hc83 => ?_) (fun hc83 => ?_)
    · have H := cond_t hc83 H
      refine Ec.skip ?_
      refine Ec.seq ?_
      refine Ec.block ?_
      refine Ec.seq ?_
      refine Ec.region ?_
      refine Eo.val (x := (.v (.int .i64 y56))) rfl rfl rfl rfl ?_
      obtain ⟨x84, hvx84, H⟩ := bind_some H
      refine Eo.idx h6 hvx84 rfl rfl rfl Tryz.underlying22 rfl rfl rfl rfl ?_
      rintro cs85 p86 _ hat87 rfl
      refine Eo.val (x := (.v (.string x84))) (op_loadSp hat87 0 rfl rfl rfl rfl rfl) rfl rfl rfl ?_
      refine Eo.val (x := (.v (.int .i64 y56))) rfl rfl rfl rfl ?_
      refine Eo.val (x := (.v (.string x84))) rfl rfl rfl rfl ?_
      refine Eo.nil ?_
      obtain ⟨x94, hv106, H⟩ := bind_some H
      refine Ec.cut (J := (fun (x94 : (List (ByteArray × Int))) (x : X) (φ : Fr) (s : St) => x = .normal ∧ (Hp s (.blk b16 (.cells [a5, a7, (.v (.int .i64 p1.f_Off))] 25) :: .blk b19 (.cells [nilS, nilS, (.v (.int .i64 0))] 25) :: .blk b25 (.cells [(.mp bm_r22_f_times), (.v (.int .i64 (IntKind.wrap .i64 (r22.f_off + (IntKind.wrap .i64 (p2 * p1.f_Off))))))] 67) :: .blk bm_r22_f_times (mapB x94) :: R) ∧ Fl [(2, (.v (.int .i64 p2))), (4, (.ptr b16 0)), (6, (.ptr b19 0)), (7, (.ptr b25 0)), (21, a5), (22, (.v (.int .i64 ((p1.f_Syms.length : Nat) : Int)))), (23, (.v (.int .i64 y56)))] φ)) x94) ?_ ?_
      · have H := hv106
        refine Ec.drawn2 (by kernel_rfl) ?_
        refine Eo.val (x := (.ptr b25 0)) rfl rfl rfl rfl ?_
        refine Eo.val (x := (.mp bm_r22_f_times)) (op_loadB hp0 2 rfl rfl rfl rfl) rfl rfl rfl ?_
        refine Eo.val (x := (.v (.string x84))) rfl rfl rfl rfl ?_
        refine Eo.val (x := (.v (.int .i64 (lookT y57 x84)))) (op_lookM hp0 3 rfl rfl rfl rfl rfl rfl) rfl rfl rfl ?_
        refine Eo.val (x := (.v (.int .i64 p2))) rfl rfl rfl rfl ?_
        refine Eo.val (x := (.ptr b16 1)) rfl rfl rfl rfl ?_
        refine Eo.val (x := a7) (op_loadB hp0 0 rfl rfl rfl rfl) rfl rfl rfl ?_
        refine Eo.val (x := (.v (.int .i64 y56))) rfl rfl rfl rfl ?_
        obtain ⟨x95, hvx95, H⟩ := bind_some H
        refine Eo.idx h8 hvx95 rfl rfl rfl Tryz.underlying23 rfl rfl rfl rfl ?_
        rintro cs96 p97 _ hat98 rfl
        refine Eo.val (x := (.v (.int .i64 x95))) (op_loadSp hat98 0 rfl rfl rfl rfl rfl) rfl rfl rfl ?_
        refine Eo.val (x := (.v (.int .i64 (IntKind.wrap .i64 (p2 * x95))))) rfl rfl rfl rfl ?_
        refine Eo.val (x := (.v (.int .i64 (IntKind.wrap .i64 ((lookT y57 x84) + (IntKind.wrap .i64 (p2 * x95))))))) rfl rfl rfl rfl ?_
        refine Eo.mapU hp0 3 rfl rfl rfl rfl rfl rfl rfl rfl ?_
        intro σ100 hp99
        change Hp σ100 (.blk b16 (.cells [a5, a7, (.v (.int .i64 p1.f_Off))] 25) :: .blk b19 (.cells [nilS, nilS, (.v (.int .i64 0))] 25) :: .blk b25 (.cells [(.mp bm_r22_f_times), (.v (.int .i64 (IntKind.wrap .i64 (r22.f_off + (IntKind.wrap .i64 (p2 * p1.f_Off))))))] 67) :: .blk bm_r22_f_times (mapB (updT y57 x84 (IntKind.wrap .i64 ((lookT y57 x84) + (IntKind.wrap .i64 (p2 * x95)))))) :: R) at hp99
        refine Eo.nil ?_
        obtain rfl := Option.some.inj H
        exact And.intro rfl (And.intro rfl ⟨(Hp.front (Hp.front (Hp.front (Hp.front hp99 3) 3) 3) 3), (.cons rfl (.cons rfl (.cons rfl (.cons rfl (.cons rfl (.cons rfl (.cons rfl (.nil'))))))))⟩)
      · skip
        intro x φ103 σ102 hJ
        obtain ⟨rfl, hp101, hf104⟩ := hJ
        refine Ec.of (F := [(2, (.v (.int .i64 p2))), (4, (.ptr b16 0)), (6, (.ptr b19 0)), (7, (.ptr b25 0)), (21, a5), (22, (.v (.int .i64 ((p1.f_Syms.length : Nat) : Int)))), (23, (.v (.int .i64 y56)))]) hf104 ?_
        refine Ec.region ?_
        refine Eo.val (x := (.v (.int .i64 (IntKind.wrap .i64 (y56 + 1))))) rfl rfl rfl rfl ?_
        refine Eo.val (x := (.v (.int .i64 (IntKind.wrap .i64 (y56 + 1))))) rfl rfl rfl rfl ?_
        refine Eo.nil ?_
        exact Ec.of (.cons rfl (.cons rfl (.cons rfl (.cons rfl (.cons rfl (.cons rfl (.cons rfl (.nil')))))))) (ih (((IntKind.wrap .i64 (y56 + 1)), x94), ()) _ (Hp.front (Hp.front (Hp.front (Hp.front hp101 3) 3) 3) 3) H)
    · have H := cond_f hc83 H
      refine Ec.exit ?_
      obtain rfl := Option.some.inj H
      exact And.intro rfl ⟨(Hp.front (Hp.front (Hp.front (Hp.drop hp0 0) 2) 2) 2), (.cons rfl (.cons rfl (.nil')))⟩
  · skip
    intro x φ111 σ110 hJ
    obtain ⟨rfl, hp109, hf112⟩ := hJ
    refine Ec.of (F := [(6, (.ptr b19 0)), (7, (.ptr b25 0))]) hf112 ?_
    refine Ec.seq ?_
    refine Ec.region ?_
    refine Eo.val (x := (.agg [(.mp bm_r22_f_times), (.v (.int .i64 (IntKind.wrap .i64 (r22.f_off + (IntKind.wrap .i64 (p2 * p1.f_Off))))))])) (op_loadB hp109 1 rfl rfl rfl rfl) rfl rfl rfl ?_
    obtain ⟨r113, hvr113, H⟩ := bind_some H
    refine Eo.call rfl rfl rfl rfl (gexpr_sum__lin_ok (Hp.front (Hp.front (Hp.front hp109 1) 1) 2) hvr113) ?_
    rintro _ σ119 ⟨a114, a116, rfl, h115, h117, hp118⟩
    change Hp σ119 (.blk bm_r22_f_times (mapB x82) :: .app a114 9 :: .app a116 3 :: .blk b19 (.cells [nilS, nilS, (.v (.int .i64 0))] 25) :: .blk b25 (.cells [(.mp bm_r22_f_times), (.v (.int .i64 (IntKind.wrap .i64 (r22.f_off + (IntKind.wrap .i64 (p2 * p1.f_Off))))))] 67) :: R) at hp118
    refine Eo.store hp118 3 rfl (storeCells_mk rfl rfl rfl (by simp [allOne, A.cells, h115.isOne, h117.isOne]) rfl rfl) rfl rfl rfl rfl rfl ?_
    intro σ121 hp120
    change Hp σ121 (.blk bm_r22_f_times (mapB x82) :: .app a114 9 :: .app a116 3 :: .blk b19 (.cells [a114, a116, (.v (.int .i64 r113.f_Off))] 25) :: .blk b25 (.cells [(.mp bm_r22_f_times), (.v (.int .i64 (IntKind.wrap .i64 (r22.f_off + (IntKind.wrap .i64 (p2 * p1.f_Off))))))] 67) :: R) at hp120
    refine Eo.nil ?_
    obtain rfl := Option.some.inj H
    refine Ec.ret ?_
    refine Ret.mk' (resA_cell hp120 3 rfl rfl rfl rfl) ?_
    exact ⟨a114, a116, rfl, h115, h117, (Hp.front (Hp.front (Hp.drop (Hp.drop (Hp.drop hp120 0) 2) 2) 1) 1)⟩

def gexpr_Add (n : Nat) (p0 : TLin) (p1 : TLin) : Option ((TLin × Int)) := ((gexpr_normal n p0).bind fun r22 => (((cond (!r22) (some true) (((gexpr_normal n p1).bind fun r31 => some (!r31)))) : Option (Bool)).bind fun x29 => (cond x29 (some ((TLin.mk ([] : List ByteArray) ([] : List Int) 0), 121)) (((gexpr_plus n p0 p1 1).bind fun r41 => (cond (decide (((r41.f_Syms.length : Nat) : Int) > 16)) (some ((TLin.mk ([] : List ByteArray) ([] : List Int) 0), 123)) (some (r41, 0))))))))

def gexpr_Add_post (R : List Res) (r : (TLin × Int)) (x : A) (s : St) : Prop := ∃ (a9 a11 : A), x = (.tup [(.agg [a9, a11, (.v (.int .i64 r.1.f_Off))]), (.v (.int .i64 r.2))]) ∧ Sl rS a9 r.1.f_Syms ∧ Sl (rI .i64) a11 r.1.f_Times ∧ Hp s (.app a9 9 :: .app a11 3 :: R)

theorem gexpr_Add_ok {n : Nat} {p0 : TLin} {p1 : TLin} {a1 a3 a5 a7 : A} {R : List Res} {σ : St} (h2 : Sl rS a1 p0.f_Syms) (h4 : Sl (rI .i64) a3 p0.f_Times) (h6 : Sl rS a5 p1.f_Syms) (h8 : Sl (rI .i64) a7 p1.f_Times) (hp : Hp σ R) {r : (TLin × Int)} (H : gexpr_Add n p0 p1 = some r) : Ca cfg 14 [(.agg [a1, a3, (.v (.int .i64 p0.f_Off))]), (.agg [a5, a7, (.v (.int .i64 p1.f_Off))])] σ (gexpr_Add_post R r) := by
  unfold gexpr_Add at H
  refine Ca.enterL (G := [(0, (.agg [a1, a3, (.v (.int .i64 p0.f_Off))])), (1, (.agg [a5, a7, (.v (.int .i64 p1.f_Off))]))]) Tryz.func14 rfl rfl rfl rfl ?_
  refine Ec.seq ?_
  refine Ec.region ?_
  refine Eo.box hp rfl (by simp [allOne, A.cells, h2.isOne, h4.isOne]) rfl rfl rfl rfl rfl ?_
  intro b13 σ15 hp14
  refine Eo.box hp14 rfl (by simp [allOne, A.cells, h6.isOne, h8.isOne]) rfl rfl rfl rfl rfl ?_
  intro b16 σ18 hp17
  refine Eo.alloc (z := [nilS, nilS, (.v (.int .i64 0))]) hp17 rfl rfl rfl rfl rfl ?_
  intro b19 σ21 hp20
  refine Eo.val (x := (.v (.int .i64 0))) rfl rfl rfl rfl ?_
  refine Eo.nil ?_
  refine Ec.seq ?_
  refine Ec.seq ?_
  refine Ec.region ?_
  refine Eo.val (x := (.agg [a1, a3, (.v (.int .i64 p0.f_Off))])) (op_loadB hp20 2 rfl rfl rfl rfl) rfl rfl rfl ?_
  obtain ⟨r22, hvr22, H⟩ := bind_some H
  refine Eo.call rfl rfl rfl rfl (gexpr_normal_ok h2 h4 hp20 hvr22) ?_
  rintro _ σ24 ⟨rfl, hp23⟩
  refine Eo.val (x := (.v (.bool (!r22)))) rfl rfl rfl rfl ?_
  refine Eo.val (x := (.v (.bool (!r22)))) rfl rfl rfl rfl ?_
  obtain ⟨x29, hv59, H⟩ := bind_some H
  refine Eo.cutN 4 (J := (fun (x29 : Bool) (x : X) (φ : Fr) (s : St) => x = .normal ∧ (Hp s (.blk b13 (.cells [a1, a3, (.v (.int .i64 p0.f_Off))] 25) :: .blk b16 (.cells [a5, a7, (.v (.int .i64 p1.f_Off))] 25) :: .blk b19 (.cells [nilS, nilS, (.v (.int .i64 0))] 25) :: R) ∧ Fl [(2, (.ptr b13 0)), (3, (.ptr b16 0)), (4, (.ptr b19 0)), (14, (.v (.bool x29)))] φ)) x29) ?_ ?_
  · have H := hv59
    cases hc30 : (!r22)
    · have H := cond_f hc30 H
      refine Eo.val (x := (.agg [a5, a7, (.v (.int .i64 p1.f_Off))])) (op_loadB hp23 1 rfl rfl rfl rfl) rfl rfl rfl ?_
      obtain ⟨r31, hvr31, H⟩ := bind_some H
      refine Eo.call rfl rfl rfl rfl (gexpr_normal_ok h6 h8 hp23 hvr31) ?_
      rintro _ σ33 ⟨rfl, hp32⟩
      refine Eo.val (x := (.v (.bool (!r31)))) rfl rfl rfl rfl ?_
      refine Eo.val (x := (.v (.bool (!r31)))) rfl rfl rfl rfl ?_
      refine Eo.nil ?_
      obtain rfl := Option.some.inj H
      exact And.intro rfl ⟨(Hp.front (Hp.front hp32 1) 2), (.cons rfl (.cons rfl (.cons rfl (.cons rfl (.nil')))))⟩
    · have H := cond_t hc30 H
      refine Eo.off rfl rfl rfl ?_
      refine Eo.off rfl rfl rfl ?_
      refine Eo.off rfl rfl rfl ?_
      refine Eo.val (x := (.v (.bool true))) rfl rfl rfl rfl ?_
      refine Eo.nil ?_
      obtain rfl := Option.some.inj H
      exact And.intro rfl ⟨(Hp.front (Hp.front hp23 1) 2), (.cons rfl (.cons rfl (.cons rfl (.cons rfl (.nil')))))⟩
  · skip
    intro x φ36 σ35 hJ
    obtain ⟨rfl, hp34, hf37⟩ := hJ
    refine ⟨rfl, Eo.of (F := [(2, (.ptr b13 0)), (3, (.ptr b16 0)), (4, (.ptr b19 0)), (14, (.v (.bool x29)))]) hf37 ?_⟩
    refine Eo.nil ?_
    refine Ec.cond (t := x29) rfl (fun hc38 => ?_) (fun hc38 => ?_)
    · have H := cond_t hc38 H
      refine Ec.seq ?_
      refine Ec.region ?_
      refine Eo.val (x := (.agg [nilS, nilS, (.v (.int .i64 0))])) (op_build lay_nil rfl rfl Tryz.underlying25 rfl rfl) rfl rfl rfl ?_
      refine Eo.store hp34 2 rfl (storeCells_mk rfl rfl rfl rfl rfl rfl) rfl rfl rfl rfl rfl ?_
      intro σ40 hp39
      change Hp σ40 (.blk b13 (.cells [a1, a3, (.v (.int .i64 p0.f_Off))] 25) :: .blk b16 (.cells [a5, a7, (.v (.int .i64 p1.f_Off))] 25) :: .blk b19 (.cells [nilS, nilS, (.v (.int .i64 0))] 25) :: R) at hp39
      refine Eo.val (x := (.v (.int .i64 121))) rfl rfl rfl rfl ?_
      refine Eo.nil ?_
      obtain rfl := Option.some.inj H
      refine Ec.ret ?_
      refine Ret.mk' (resA_cell hp39 2 rfl rfl rfl (resA_tmp rfl rfl)) ?_
      exact ⟨nilS, nilS, rfl, Sl.nil, Sl.nil, (Hp.front (Hp.appNil (Hp.appNil (Hp.drop (Hp.drop (Hp.drop hp39 0) 0) 0) 9) 3) 1)⟩
    · have H := cond_f hc38 H
      refine Ec.skip ?_
      refine Ec.seq ?_
      refine Ec.region ?_
      refine Eo.val (x := (.agg [a1, a3, (.v (.int .i64 p0.f_Off))])) (op_loadB hp34 0 rfl rfl rfl rfl) rfl rfl rfl ?_
      refine Eo.val (x := (.agg [a5, a7, (.v (.int .i64 p1.f_Off))])) (op_loadB hp34 1 rfl rfl rfl rfl) rfl rfl rfl ?_
      obtain ⟨r41, hvr41, H⟩ := bind_some H
      refine Eo.call rfl rfl rfl rfl (gexpr_plus_ok h2 h4 h6 h8 hp34 hvr41) ?_
      rintro _ σ47 ⟨a42, a44, rfl, h43, h45, hp46⟩
      change Hp σ47 (.app a42 9 :: .app a44 3 :: .blk b13 (.cells [a1, a3, (.v (.int .i64 p0.f_Off))] 25) :: .blk b16 (.cells [a5, a7, (.v (.int .i64 p1.f_Off))] 25) :: .blk b19 (.cells [nilS, nilS, (.v (.int .i64 0))] 25) :: R) at hp46
      refine Eo.alloc (z := [nilS, nilS, (.v (.int .i64 0))]) hp46 rfl rfl rfl rfl rfl ?_
      intro b48 σ50 hp49
      refine Eo.store hp49 0 rfl (storeCells_mk rfl rfl rfl (by simp [allOne, A.cells, h43.isOne, h45.isOne]) rfl rfl) rfl rfl rfl rfl rfl ?_
      intro σ52 hp51
      change Hp σ52 (.blk b48 (.cells [a42, a44, (.v (.int .i64 r41.f_Off))] 25) :: .app a42 9 :: .app a44 3 :: .blk b13 (.cells [a1, a3, (.v (.int .i64 p0.f_Off))] 25) :: .blk b16 (.cells [a5, a7, (.v (.int .i64 p1.f_Off))] 25) :: .blk b19 (.cells [nilS, nilS, (.v (.int .i64 0))] 25) :: R) at hp51
      refine Eo.nil ?_
      refine Ec.seq ?_
      refine Ec.seq ?_
      refine Ec.region ?_
      refine Eo.val (x := (.ptr b48 0)) rfl rfl rfl rfl ?_
      refine Eo.val (x := a42) (op_loadB hp51 0 rfl rfl rfl rfl) rfl rfl rfl ?_
      refine Eo.val (x := (.v (.int .i64 ((r41.f_Syms.length : Nat) : Int)))) (op_lenL h43 rfl rfl rfl rfl rfl Tryz.underlying22) rfl rfl rfl ?_
      refine Eo.val (x := (.v (.bool (decide (((r41.f_Syms.length : Nat) : Int) > 16))))) rfl rfl rfl rfl ?_
      refine Eo.nil ?_
      refine Ec.cond (t := (decide (((r41.f_Syms.length : Nat) : Int) > 16))) rfl (fun hc53 => ?_) (fun hc53 => ?_)
      · have H := cond_t hc53 H
        refine Ec.seq ?_
        refine Ec.region ?_
        refine Eo.val (x := (.agg [nilS, nilS, (.v (.int .i64 0))])) (op_build lay_nil rfl rfl Tryz.underlying25 rfl rfl) rfl rfl rfl ?_
        refine Eo.store hp51 5 rfl (storeCells_mk rfl rfl rfl rfl rfl rfl) rfl rfl rfl rfl rfl ?_
        intro σ55 hp54
        change Hp σ55 (.blk b48 (.cells [a42, a44, (.v (.int .i64 r41.f_Off))] 25) :: .app a42 9 :: .app a44 3 :: .blk b13 (.cells [a1, a3, (.v (.int .i64 p0.f_Off))] 25) :: .blk b16 (.cells [a5, a7, (.v (.int .i64 p1.f_Off))] 25) :: .blk b19 (.cells [nilS, nilS, (.v (.int .i64 0))] 25) :: R) at hp54
        refine Eo.val (x := (.v (.int .i64 123))) rfl rfl rfl rfl ?_
        refine Eo.nil ?_
        obtain rfl := Option.some.inj H
        refine Ec.ret ?_
        refine Ret.mk' (resA_cell hp54 5 rfl rfl rfl (resA_tmp rfl rfl)) ?_
        exact ⟨nilS, nilS, rfl, Sl.nil, Sl.nil, (Hp.front (Hp.appNil (Hp.appNil (Hp.drop (Hp.drop (Hp.drop (Hp.drop (Hp.drop (Hp.drop hp54 0) 0) 0) 0) 0) 0) 9) 3) 1)⟩
      · have H := cond_f hc53 H
        refine Ec.skip ?_
        refine Ec.seq ?_
        refine Ec.region ?_
        refine Eo.val (x := (.agg [a42, a44, (.v (.int .i64 r41.f_Off))])) (op_loadB hp51 0 rfl rfl rfl rfl) rfl rfl rfl ?_
        refine Eo.store hp51 5 rfl (storeCells_mk rfl rfl rfl (by simp [allOne, A.cells, h43.isOne, h45.isOne]) rfl rfl) rfl rfl rfl rfl rfl ?_
        intro σ57 hp56
        change Hp σ57 (.blk b48 (.cells [a42, a44, (.v (.int .i64 r41.f_Off))] 25) :: .app a42 9 :: .app a44 3 :: .blk b13 (.cells [a1, a3, (.v (.int .i64 p0.f_Off))] 25) :: .blk b16 (.cells [a5, a7, (.v (.int .i64 p1.f_Off))] 25) :: .blk b19 (.cells [a42, a44, (.v (.int .i64 r41.f_Off))] 25) :: R) at hp56
        refine Eo.val (x := (.v (.int .i64 0))) rfl rfl rfl rfl ?_
        refine Eo.nil ?_
        obtain rfl := Option.some.inj H
        refine Ec.ret ?_
        refine Ret.mk' (resA_cell hp56 5 rfl rfl rfl (resA_tmp rfl rfl)) ?_
        exact ⟨a42, a44, rfl, h43, h45, (Hp.front (Hp.front (Hp.drop (Hp.drop (Hp.drop (Hp.drop hp56 0) 2) 2) 2) 1) 1)⟩

def gexpr_Times (n : Nat) (p0 : TLin) (p1 : Int) : Option (TLin) := ((gexpr_normal n p0).bind fun r15 => (cond (!r15) (some (TLin.mk ([] : List ByteArray) ([] : List Int) 0)) (((gexpr_plus n (TLin.mk ([] : List ByteArray) ([] : List Int) 0) p0 p1).bind fun r21 => some r21))))

def gexpr_Times_post (R : List Res) (r : TLin) (x : A) (s : St) : Prop := ∃ (a5 a7 : A), x = (.agg [a5, a7, (.v (.int .i64 r.f_Off))]) ∧ Sl rS a5 r.f_Syms ∧ Sl (rI .i64) a7 r.f_Times ∧ Hp s (.app a5 9 :: .app a7 3 :: R)

theorem gexpr_Times_ok {n : Nat} {p0 : TLin} {p1 : Int} {a1 a3 : A} {R : List Res} {σ : St} (h2 : Sl rS a1 p0.f_Syms) (h4 : Sl (rI .i64) a3 p0.f_Times) (hp : Hp σ R) {r : TLin} (H : gexpr_Times n p0 p1 = some r) : Ca cfg 15 [(.agg [a1, a3, (.v (.int .i64 p0.f_Off))]), (.v (.int .i64 p1))] σ (gexpr_Times_post R r) := by
  unfold gexpr_Times at H
  refine Ca.enterL (G := [(0, (.agg [a1, a3, (.v (.int .i64 p0.f_Off))])), (1, (.v (.int .i64 p1)))]) Tryz.func15 rfl rfl rfl rfl ?_
  refine Ec.seq ?_
  refine Ec.region ?_
  refine Eo.box hp rfl (by simp [allOne, A.cells, h2.isOne, h4.isOne]) rfl rfl rfl rfl rfl ?_
  intro b9 σ11 hp10
  refine Eo.alloc (z := [nilS, nilS, (.v (.int .i64 0))]) hp10 rfl rfl rfl rfl rfl ?_
  intro b12 σ14 hp13
  refine Eo.nil ?_
  refine Ec.seq ?_
  refine Ec.seq ?_
  refine Ec.region ?_
  refine Eo.val (x := (.agg [a1, a3, (.v (.int .i64 p0.f_Off))])) (op_loadB hp13 1 rfl rfl rfl rfl) rfl rfl rfl ?_
  obtain ⟨r15, hvr15, H⟩ := bind_some H
  refine Eo.call rfl rfl rfl rfl (gexpr_normal_ok h2 h4 hp13 hvr15) ?_
  rintro _ σ17 ⟨rfl, hp16⟩
  refine Eo.val (x := (.v (.bool (!r15)))) rfl rfl rfl rfl ?_
  refine Eo.nil ?_
  refine Ec.cond (t := (!r15)) rfl (fun hc18 => ?_) (fun hc18 => ?_)
  · have H := cond_t hc18 H
    refine Ec.seq ?_
    refine Ec.region ?_
    refine Eo.val (x := (.agg [nilS, nilS, (.v (.int .i64 0))])) (op_build lay_nil rfl rfl Tryz.underlying25 rfl rfl) rfl rfl rfl ?_
    refine Eo.store hp16 0 rfl (storeCells_mk rfl rfl rfl rfl rfl rfl) rfl rfl rfl rfl rfl ?_
    intro σ20 hp19
    change Hp σ20 (.blk b12 (.cells [nilS, nilS, (.v (.int .i64 0))] 25) :: .blk b9 (.cells [a1, a3, (.v (.int .i64 p0.f_Off))] 25) :: R) at hp19
    refine Eo.nil ?_
    obtain rfl := Option.some.inj H
    refine Ec.ret ?_
    refine Ret.mk' (resA_cell hp19 0 rfl rfl rfl rfl) ?_
    exact ⟨nilS, nilS, rfl, Sl.nil, Sl.nil, (Hp.front (Hp.appNil (Hp.appNil (Hp.drop (Hp.drop hp19 0) 0) 9) 3) 1)⟩
  · have H := cond_f hc18 H
    refine Ec.skip ?_
    refine Ec.seq ?_
    refine Ec.region ?_
    refine Eo.val (x := (.agg [nilS, nilS, (.v (.int .i64 0))])) (op_build lay_nil rfl rfl Tryz.underlying25 rfl rfl) rfl rfl rfl ?_
    refine Eo.val (x := (.agg [a1, a3, (.v (.int .i64 p0.f_Off))])) (op_loadB hp16 1 rfl rfl rfl rfl) rfl rfl rfl ?_
    refine Eo.val (x := (.v (.int .i64 p1))) rfl rfl rfl rfl ?_
    obtain ⟨r21, hvr21, H⟩ := bind_some H
    refine Eo.call rfl rfl rfl rfl (gexpr_plus_ok Sl.nil Sl.nil h2 h4 hp16 hvr21) ?_
    rintro _ σ27 ⟨a22, a24, rfl, h23, h25, hp26⟩
    change Hp σ27 (.app a22 9 :: .app a24 3 :: .blk b12 (.cells [nilS, nilS, (.v (.int .i64 0))] 25) :: .blk b9 (.cells [a1, a3, (.v (.int .i64 p0.f_Off))] 25) :: R) at hp26
    refine Eo.store hp26 2 rfl (storeCells_mk rfl rfl rfl (by simp [allOne, A.cells, h23.isOne, h25.isOne]) rfl rfl) rfl rfl rfl rfl rfl ?_
    intro σ29 hp28
    change Hp σ29 (.app a22 9 :: .app a24 3 :: .blk b12 (.cells [a22, a24, (.v (.int .i64 r21.f_Off))] 25) :: .blk b9 (.cells [a1, a3, (.v (.int .i64 p0.f_Off))] 25) :: R) at hp28
    refine Eo.nil ?_
    obtain rfl := Option.some.inj H
    refine Ec.ret ?_
    refine Ret.mk' (resA_cell hp28 2 rfl rfl rfl rfl) ?_
    exact ⟨a22, a24, rfl, h23, h25, (Hp.front (Hp.front (Hp.drop (Hp.drop hp28 2) 2) 1) 1)⟩

def gdovetaillaw12_ExprEvals (n : Nat) (p0 : TLin) (p1 : TLin) (p2 : (List Int)) : Option (Bool) := ((appL 16 ([] : List ByteArray) p0.f_Syms).bind fun l16 => ((appL 16 l16 p1.f_Syms).bind fun l21 => ((gexpr_Eval n p0 l21 p2).bind fun v => match v with | (r27, r28) => ((gdovetailref12_Eval n p0 l21 p2).bind fun v => match v with | (r32, r33) => (cond ((r27 != r32) || (!(r28 == r33))) (some false) (((gexpr_Eval n p1 l21 p2).bind fun v => match v with | (r43, r44) => ((((gdovetailref12_Copy n p0).bind fun r84 => ((gdovetailref12_Copy n p1).bind fun r91 => ((gexpr_Add n r84 r91).bind fun v => match v with | (r99, r100) => some (r100, r99.f_Syms, r99.f_Times, r99.f_Off)))) : Option ((Int × (List ByteArray) × (List Int) × Int))).bind fun v => match v with | (x76, x77, x80, x83) => (cond (((!r28) || (!r44)) || (x76 != 0)) (some true) (((gexpr_Eval n (TLin.mk x77 x80 x83) l21 p2).bind fun v => match v with | (r128, r129) => ((gdovetailref12_Copy n p0).bind fun r132 => ((gexpr_Times n r132 7).bind fun r139 => ((gexpr_Eval n r139 l21 p2).bind fun v => match v with | (r147, r148) => some (((r129 && r148) && (r128 == (IntKind.wrap .i64 (r27 + r43)))) && (r147 == (IntKind.wrap .i64 (7 * r27))))))))))))))))))

def gdovetaillaw12_ExprEvals_post (R : List Res) (r : Bool) (x : A) (s : St) : Prop := x = (.v (.bool r)) ∧ Hp s (R)
end Go.DM
