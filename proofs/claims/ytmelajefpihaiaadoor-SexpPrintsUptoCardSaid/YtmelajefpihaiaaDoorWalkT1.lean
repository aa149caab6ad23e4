/- Typed functions of the program's functions, and the walks that show that the calls come to them. No condition. -/
import Derived.Test.YtmelajefpihaiaaDoorRuleT
import Derived.Test.YtmelajefpihaiaaDoorProg
namespace Go.DM
open Go Go.Proofs
set_option maxRecDepth 100000
set_option maxHeartbeats 1000000
noncomputable def cfg : Cfg := { P := Tryd.prog, glob := fun _ => none, prim := fun f => if f = 46 then some itoaG else if f = 48 then some indexByteG else if f = 51 then some containsRuneG else if f = 55 then some (atoiG 99) else none }
theorem prim46_ok {p0 : Int} {R : List Res} {σ : St} (hp : Hp σ R) {r : ByteArray} (H : itoaT p0 = some r) : Ca cfg 46 [(.v (.int .i64 p0))] σ (fun x σ' => x = (.v (.string r)) ∧ Hp σ' (R)) := itoaT_ok (C := cfg) (f := 46) rfl hp H
theorem prim48_ok {p0 : ByteArray} {p1 : Int} {R : List Res} {σ : St} (hp : Hp σ R) {r : Int} (H : indexByteT p0 p1 = some r) : Ca cfg 48 [(.v (.string p0)), (.v (.int .u8 p1))] σ (fun x σ' => x = (.v (.int .i64 r)) ∧ Hp σ' (R)) := indexByteT_ok (C := cfg) (f := 48) rfl hp H
theorem prim51_ok {p0 : ByteArray} {p1 : Int} {R : List Res} {σ : St} (hp : Hp σ R) {r : Bool} (H : containsRuneT p0 p1 = some r) : Ca cfg 51 [(.v (.string p0)), (.v (.int .i32 p1))] σ (fun x σ' => x = (.v (.bool r)) ∧ Hp σ' (R)) := containsRuneT_ok (C := cfg) (f := 51) rfl hp H
theorem prim55_ok {p0 : ByteArray} {R : List Res} {σ : St} (hp : Hp σ R) {r : (Int × Bool)} (H : atoiT p0 = some r) : Ca cfg 55 [(.v (.string p0))] σ (fun x σ' => x = (.tup [(.v (.int .i64 r.1)), (errA 99 r.2)]) ∧ Hp σ' (R)) := atoiT_ok (C := cfg) (f := 55) rfl hp H
/-! strings.Builder -/
theorem bld_copyCheck {b : Nat} {a0 a : A} {R : List Res} {σ : St} (h0 : AddrOk a0 b) (hp : Hp σ (.blk b (.cells [a0, a] 59) :: R)) :
    Ca cfg 47 [.ptr b 0] σ (fun x σ' => x = .tup [] ∧ Hp σ' (.blk b (.cells [.ptr b 0, a] 59) :: R)) := by
  refine Ca.enterL (G := [(0, .ptr b 0)]) Tryd.func47 rfl rfl rfl rfl ?_
  refine Ec.seq (Ec.region ?_)
  refine Eo.val (x := .ptr b 0) rfl rfl rfl rfl ?_
  refine Eo.val (x := .ptr b 0) rfl rfl rfl rfl ?_
  refine Eo.val (x := .ptr b 0) rfl rfl rfl rfl ?_
  refine Eo.val (x := a0) (op_loadB hp 0 rfl rfl rfl rfl) rfl rfl rfl ?_
  rcases h0 with rfl | rfl
  · refine Eo.val (x := .v (.bool true)) rfl rfl rfl rfl ?_
    refine Eo.nil ?_
    refine Ec.cond (t := true) rfl (fun _ => ?_) (fun h => nomatch h)
    refine Ec.region ?_
    refine Eo.val (x := .ptr b 0) rfl rfl rfl rfl ?_
    refine Eo.val (x := .ptr b 0) rfl rfl rfl rfl ?_
    refine Eo.val (x := .ptr b 0) (op_toUnsafe hp 0 rfl rfl rfl rfl rfl rfl (by decide) (Nat.zero_lt_succ _)) rfl rfl rfl ?_
    refine Eo.val (x := .ptr b 0) rfl rfl rfl rfl ?_
    refine Eo.val (x := .ptr b 0) (op_fromUnsafe hp 0 rfl rfl rfl rfl rfl rfl (by decide) (by kernel_rfl)) rfl rfl rfl ?_
    refine Eo.val (x := .ptr b 0) rfl rfl rfl rfl ?_
    refine Eo.val (x := .ptr b 0) rfl rfl rfl rfl ?_
    refine Eo.store hp 0 rfl (storeCells_mk rfl rfl rfl rfl rfl rfl) rfl rfl rfl rfl rfl ?_
    intro σ1 hp1
    refine Eo.nil ?_
    exact Ret.mkN rfl ⟨rfl, hp1⟩
  · refine Eo.val (x := .v (.bool false)) rfl rfl rfl rfl ?_
    refine Eo.nil ?_
    refine Ec.cond (t := false) rfl (fun h => nomatch h) (fun _ => ?_)
    refine Ec.seq (Ec.region ?_)
    refine Eo.val (x := .ptr b 0) rfl rfl rfl rfl ?_
    refine Eo.val (x := .ptr b 0) rfl rfl rfl rfl ?_
    refine Eo.val (x := .ptr b 0) rfl rfl rfl rfl ?_
    refine Eo.val (x := .ptr b 0) (op_loadB hp 0 rfl rfl rfl rfl) rfl rfl rfl ?_
    refine Eo.val (x := .ptr b 0) rfl rfl rfl rfl ?_
    refine Eo.val (x := .v (.bool false)) (op_ptrNe rfl rfl rfl rfl rfl) rfl rfl rfl ?_
    refine Eo.nil ?_
    refine Ec.cond (t := false) rfl (fun h => nomatch h) (fun _ => ?_)
    refine Ec.skip ?_
    exact Ret.mkN rfl ⟨rfl, hp⟩
theorem bld_WriteByte {b : Nat} {a0 a : A} {l l' : List Int} {c : Int} {R : List Res} {σ : St} (h0 : AddrOk a0 b) (hb : BufIs a l) (hp : Hp σ (.blk b (.cells [a0, a] 59) :: .app a 5 :: R)) (H : appL 1 l [c] = some l') :
    Ca cfg 25 [.ptr b 0, .v (.int .u8 c)] σ (fun x σ' => ∃ a0' a', x = .v .nilIface ∧ AddrOk a0' b ∧ BufIs a' l' ∧ Hp σ' (.blk b (.cells [a0', a'] 59) :: .app a' 5 :: R)) := by
  refine Ca.enterL (G := [(0, .ptr b 0), (1, .v (.int .u8 c))]) Tryd.func25 rfl rfl rfl rfl ?_
  refine Ec.seq (Ec.region ?_)
  refine Eo.val (x := .v .nilIface) rfl rfl rfl rfl ?_
  refine Eo.nil ?_
  refine Ec.seq (Ec.region ?_)
  refine Eo.val (x := .ptr b 0) rfl rfl rfl rfl ?_
  refine Eo.call rfl rfl rfl rfl (bld_copyCheck h0 hp) ?_
  rintro _ σ1 ⟨rfl, hp1⟩
  refine Eo.nil ?_
  refine Ec.seq (Ec.region ?_)
  refine Eo.val (x := .ptr b 0) rfl rfl rfl rfl ?_
  refine Eo.val (x := .ptr b 0) rfl rfl rfl rfl ?_
  refine Eo.val (x := .ptr b 0) rfl rfl rfl rfl ?_
  refine Eo.val (x := .ptr b (0 + 1)) rfl rfl rfl rfl ?_
  refine Eo.val (x := a) (op_loadB hp1 0 rfl rfl rfl rfl) rfl rfl rfl ?_
  refine Eo.val (x := .v (.int .u8 c)) rfl rfl rfl rfl ?_
  refine Eo.val (x := .sl 1 [.v (.int .u8 c)] .ex) rfl rfl rfl rfl ?_
  have hs : Sl (rI .u8) (.sl 1 [.v (.int .u8 c)] .ex) [c] := .inr ⟨_, _, rfl, .cons (c := [.v (.int .u8 c)]) rfl .nil⟩
  refine Eo.append' hp1 1 rfl hb.1 hb.2 (New.of hs) H rfl rfl rfl rfl rfl rfl rfl Tryd.underlying57 rfl Tryd.underlying57 rfl rfl rfl rfl rfl rfl rfl rfl ?_
  intro a' σ2 h2 h2n hp2
  change Hp σ2 (.blk b (.cells [.ptr b 0, a] 59) :: .app a' 5 :: R) at hp2
  refine Eo.val (x := .ptr b 0) rfl rfl rfl rfl ?_
  refine Eo.val (x := .ptr b (0 + 1)) rfl rfl rfl rfl ?_
  refine Eo.store hp2 0 rfl (storeCells_mk h2.cells rfl rfl (by simp [allOne, h2.isOne]) rfl rfl) rfl rfl rfl rfl rfl ?_
  intro σ3 hp3
  change Hp σ3 (.blk b (.cells [.ptr b 0, a'] 59) :: .app a' 5 :: R) at hp3
  refine Eo.nil ?_
  refine Ec.seq (Ec.region ?_)
  refine Eo.val (x := .v .nilIface) rfl rfl rfl rfl ?_
  refine Eo.nil ?_
  exact Ec.ret (Ret.mk rfl ⟨_, _, rfl, .inr rfl, ⟨h2, h2n⟩, hp3⟩)
theorem bld_WriteString {b : Nat} {a0 a : A} {l l' : List Int} {s : ByteArray} {R : List Res} {σ : St} (h0 : AddrOk a0 b) (hb : BufIs a l) (hp : Hp σ (.blk b (.cells [a0, a] 59) :: .app a 5 :: R)) (H : appL 1 l (bs s) = some l') :
    Ca cfg 45 [.ptr b 0, .v (.string s)] σ (fun x σ' => ∃ a0' a', x = .tup [.v (.int .i64 ((s.size : Nat) : Int)), .v .nilIface] ∧ AddrOk a0' b ∧ BufIs a' l' ∧ Hp σ' (.blk b (.cells [a0', a'] 59) :: .app a' 5 :: R)) := by
  refine Ca.enterL (G := [(0, .ptr b 0), (1, .v (.string s))]) Tryd.func45 rfl rfl rfl rfl ?_
  refine Ec.seq (Ec.region ?_)
  refine Eo.val (x := .v (.int .i64 0)) rfl rfl rfl rfl ?_
  refine Eo.val (x := .v .nilIface) rfl rfl rfl rfl ?_
  refine Eo.nil ?_
  refine Ec.seq (Ec.region ?_)
  refine Eo.val (x := .ptr b 0) rfl rfl rfl rfl ?_
  refine Eo.call rfl rfl rfl rfl (bld_copyCheck h0 hp) ?_
  rintro _ σ1 ⟨rfl, hp1⟩
  refine Eo.nil ?_
  refine Ec.seq (Ec.region ?_)
  refine Eo.val (x := .ptr b 0) rfl rfl rfl rfl ?_
  refine Eo.val (x := .ptr b 0) rfl rfl rfl rfl ?_
  refine Eo.val (x := .ptr b 0) rfl rfl rfl rfl ?_
  refine Eo.val (x := .ptr b (0 + 1)) rfl rfl rfl rfl ?_
  refine Eo.val (x := a) (op_loadB hp1 0 rfl rfl rfl rfl) rfl rfl rfl ?_
  refine Eo.val (x := .v (.string s)) rfl rfl rfl rfl ?_
  refine Eo.append' hp1 1 rfl hb.1 hb.2 New.str H rfl rfl rfl rfl rfl rfl rfl Tryd.underlying9 rfl Tryd.underlying57 rfl rfl rfl rfl rfl rfl rfl rfl ?_
  intro a' σ2 h2 h2n hp2
  change Hp σ2 (.blk b (.cells [.ptr b 0, a] 59) :: .app a' 5 :: R) at hp2
  refine Eo.val (x := .ptr b 0) rfl rfl rfl rfl ?_
  refine Eo.val (x := .ptr b (0 + 1)) rfl rfl rfl rfl ?_
  refine Eo.store hp2 0 rfl (storeCells_mk h2.cells rfl rfl (by simp [allOne, h2.isOne]) rfl rfl) rfl rfl rfl rfl rfl ?_
  intro σ3 hp3
  change Hp σ3 (.blk b (.cells [.ptr b 0, a'] 59) :: .app a' 5 :: R) at hp3
  refine Eo.nil ?_
  refine Ec.seq (Ec.region ?_)
  refine Eo.val (x := .v (.string s)) rfl rfl rfl rfl ?_
  refine Eo.val (x := .v (.int .i64 ((s.size : Nat) : Int))) (op_len rfl rfl rfl rfl rfl Tryd.underlying9) rfl rfl rfl ?_
  refine Eo.val (x := .v (.int .i64 ((s.size : Nat) : Int))) rfl rfl rfl rfl ?_
  refine Eo.val (x := .v .nilIface) rfl rfl rfl rfl ?_
  refine Eo.nil ?_
  exact Ec.ret (Ret.mk rfl ⟨_, _, rfl, .inr rfl, ⟨h2, h2n⟩, hp3⟩)
theorem bld_String {b : Nat} {a0 a : A} {l : List Int} {r : ByteArray} {R : List Res} {σ : St} (_ : AddrOk a0 b) (hb : BufIs a l) (hp : Hp σ (.blk b (.cells [a0, a] 59) :: .app a 5 :: R)) (H : strT l = some r) :
    Ca cfg 27 [.ptr b 0] σ (fun x σ' => x = .v (.string r) ∧ Hp σ' (.blk b (.cells [a0, a] 59) :: .app a 5 :: R)) := by
  refine Ca.enterL (G := [(0, .ptr b 0)]) Tryd.func27 rfl rfl rfl rfl ?_
  obtain ⟨hl, rfl⟩ := strT_some H
  refine Ec.seq (Ec.region ?_)
  refine Eo.val (x := .v (.string (ByteArray.mk #[]))) rfl rfl rfl rfl ?_
  refine Eo.nil ?_
  refine Ec.seq ?_
  refine Ec.cut (J := fun x φ s => x = .normal ∧ (Hp s (.blk b (.cells [a0, a] 59) :: .app a 5 :: R) ∧ Fl [(2, .v (.string (ofB l)))] φ)) ?_ ?_
  · refine Ec.drawn (by kernel_rfl) ?_
    refine Eo.val (x := .ptr b 0) rfl rfl rfl rfl ?_
    refine Eo.val (x := .ptr b 0) rfl rfl rfl rfl ?_
    refine Eo.val (x := .ptr b (0 + 1)) rfl rfl rfl rfl ?_
    refine Eo.val (x := a) (op_loadB hp 0 rfl rfl rfl rfl) rfl rfl rfl ?_
    rcases hb.str hp with ⟨rfl, rfl⟩ | ⟨cs, id, rfl, hcs, hne, hlv⟩
    · refine Eo.val (x := .v (.pointer none)) (op_sliceDataNil rfl rfl rfl rfl) rfl rfl rfl ?_
      refine Eo.val (x := .ptr b 0) rfl rfl rfl rfl ?_
      refine Eo.val (x := .ptr b 0) rfl rfl rfl rfl ?_
      refine Eo.val (x := .ptr b (0 + 1)) rfl rfl rfl rfl ?_
      refine Eo.val (x := nilS) (op_loadB hp 0 rfl rfl rfl rfl) rfl rfl rfl ?_
      refine Eo.val (x := .v (.int .i64 0)) (op_lenNil rfl rfl rfl rfl rfl Tryd.underlying57) rfl rfl rfl ?_
      refine Eo.val (x := .v (.string (ofB []))) (op_unsafeStringNil rfl rfl rfl rfl rfl rfl) rfl rfl rfl ?_
      refine Eo.val (x := .v (.string (ofB []))) rfl rfl rfl rfl ?_
      exact Eo.nil (And.intro rfl (And.intro rfl ⟨hp, .cons rfl .nil'⟩))
    · refine Eo.val (x := .sp cs 0 (.gr id)) (op_sliceData rfl rfl rfl rfl hne) rfl rfl rfl ?_
      refine Eo.val (x := .ptr b 0) rfl rfl rfl rfl ?_
      refine Eo.val (x := .ptr b 0) rfl rfl rfl rfl ?_
      refine Eo.val (x := .ptr b (0 + 1)) rfl rfl rfl rfl ?_
      refine Eo.val (x := .sl 1 cs (.gr id)) (op_loadB hp 0 rfl rfl rfl rfl) rfl rfl rfl ?_
      refine Eo.val (x := .v (.int .i64 ((l.length : Nat) : Int))) (op_lenL hb.1 rfl rfl rfl rfl rfl Tryd.underlying57) rfl rfl rfl ?_
      refine Eo.val (x := .v (.string (ofB l))) (op_unsafeString hcs hne hl hlv rfl rfl rfl rfl rfl rfl Tryd.underlying78 Tryd.underlying5 rfl rfl) rfl rfl rfl ?_
      refine Eo.val (x := .v (.string (ofB l))) rfl rfl rfl rfl ?_
      exact Eo.nil (And.intro rfl (And.intro rfl ⟨hp, .cons rfl .nil'⟩))
  · intro x φ s hJ
    obtain ⟨rfl, hp1, hf⟩ := hJ
    refine Ec.of hf ?_
    exact Ec.ret (Ret.mk rfl ⟨rfl, hp1⟩)
theorem bld_Len {b : Nat} {a0 a : A} {l : List Int} {L : List Res} {σ : St} (hb : BufIs a l) (hp : Hp σ L) (i : Nat) (hi : L[i]? = some (.blk b (.cells [a0, a] 59))) :
    Ca cfg 26 [.ptr b 0] σ (fun x σ' => x = .v (.int .i64 ((l.length : Nat) : Int)) ∧ σ' = σ) := by
  refine Ca.enterL (G := [(0, .ptr b 0)]) Tryd.func26 rfl rfl rfl rfl ?_
  refine Ec.seq (Ec.region ?_)
  refine Eo.val (x := .v (.int .i64 0)) rfl rfl rfl rfl ?_
  refine Eo.nil ?_
  refine Ec.seq (Ec.region ?_)
  refine Eo.val (x := .ptr b 0) rfl rfl rfl rfl ?_
  refine Eo.val (x := .ptr b 0) rfl rfl rfl rfl ?_
  refine Eo.val (x := .ptr b (0 + 1)) rfl rfl rfl rfl ?_
  refine Eo.val (x := a) (op_loadB hp i hi rfl rfl rfl) rfl rfl rfl ?_
  refine Eo.val (x := .v (.int .i64 ((l.length : Nat) : Int))) (op_lenL hb.1 rfl rfl rfl rfl rfl Tryd.underlying57) rfl rfl rfl ?_
  refine Eo.val (x := .v (.int .i64 ((l.length : Nat) : Int))) rfl rfl rfl rfl ?_
  refine Eo.nil ?_
  exact Ec.ret (Ret.mk rfl ⟨rfl, rfl⟩)

inductive TTree where
  | mk (f_Kind : Int) (f_Word : ByteArray) (f_Num : Int) (f_Kids : (List TTree))

def TTree.f_Kind : TTree → Int | .mk x _ _ _ => x

def TTree.f_Word : TTree → ByteArray | .mk _ x _ _ => x

def TTree.f_Num : TTree → Int | .mk _ _ x _ => x

def TTree.f_Kids : TTree → (List TTree) | .mk _ _ _ x => x

def rTTreeD : Nat → RepT TTree
  | 0 => ⟨4, fun _ _ => False, by intro x c h; exact h.elim, by decide, by intro x c h; exact h.elim⟩
  | d + 1 => ⟨4, fun x c => ∃ (a0 : A), c = [.v (.int .i64 x.f_Kind), .v (.string x.f_Word), .v (.int .i64 x.f_Num), a0] ∧ Sl (rTTreeD d) a0 x.f_Kids, by rintro x c ⟨a0, rfl, _⟩; rfl, by decide, by rintro x c ⟨a0, rfl, h0⟩; simp [allOne, h0.isOne]⟩

theorem rTTreeD_sz : ∀ d, (rTTreeD d).sz = 4
  | 0 => rfl
  | _ + 1 => rfl

theorem rTTreeD_up : ∀ d x c, (rTTreeD d).rep x c → (rTTreeD (d + 1)).rep x c
  | 0, _, _, h => h.elim
  | d + 1, _, _, ⟨a0, h, h0⟩ => ⟨a0, h, h0.mono ((rTTreeD_sz _).trans (rTTreeD_sz _).symm) (rTTreeD_up d)⟩

def rTTree : RepT TTree := ⟨4, fun x c => ∃ d, (rTTreeD d).rep x c, by rintro x c ⟨d, h⟩; exact ((rTTreeD d).len _ _ h).trans (rTTreeD_sz d), by decide, by rintro x c ⟨d, h⟩; exact (rTTreeD d).one _ _ h⟩

theorem rTTree_of {x : TTree} {c : List A} : (∃ (a0 : A), c = [.v (.int .i64 x.f_Kind), .v (.string x.f_Word), .v (.int .i64 x.f_Num), a0] ∧ Sl rTTree a0 x.f_Kids) → rTTree.rep x c := by
  rintro ⟨a0, h, h0⟩
  obtain ⟨d0, h0⟩ := h0.sup (rD := rTTreeD) (fun d => (rTTreeD_sz d).symm) rTTreeD_up (fun _ _ h => h)
  exact ⟨d0 + 1, a0, h, h0⟩

theorem rTTree_un {x : TTree} {c : List A} : rTTree.rep x c → ∃ (a0 : A), c = [.v (.int .i64 x.f_Kind), .v (.string x.f_Word), .v (.int .i64 x.f_Num), a0] ∧ Sl rTTree a0 x.f_Kids := by
  rintro ⟨d, h⟩
  cases d with
  | zero => exact h.elim
  | succ d =>
    obtain ⟨a0, h, h0⟩ := h
    exact ⟨a0, h, h0.mono (rTTreeD_sz d) (fun _ _ h => ⟨d, h⟩)⟩

structure Tsexp_fault where
  f_at : Int
  f_e : Int
  deriving DecidableEq

def rTsexp_fault : RepT Tsexp_fault := ⟨2, fun x c => c = [.v (.int .i64 x.f_at), .v (.int .i64 x.f_e)], by rintro x c rfl; rfl, by decide, by rintro x c rfl; simp [allOne]⟩


def gsexp_parser__skip_L1 (N : Nat) (p0_0 : ByteArray) : Nat → Int → Option (LR Int Int)
  | 0, _ => none
  | m + 1, y67 => ((some (decide (y67 < ((p0_0.size : Nat) : Int))) : Option (Bool)).bind fun x135 => (cond x135 (((((atS p0_0 y67).bind fun b143 => some b143) : Option (Int)).bind fun x142 => (cond ((x142 == 32) || (x142 == 10)) (gsexp_parser__skip_L1 N p0_0 m (IntKind.wrap .i64 (y67 + 1))) ((cond (x142 == 59) (((((subS p0_0 y67 ((p0_0.size : Nat) : Int)).bind fun s162 => ((indexByteT s162 10).bind fun r163 => some r163)) : Option (Int)).bind fun x161 => (((cond (decide (x161 < 0)) (((some (IntKind.wrap .i64 (((p0_0.size : Nat) : Int) - y67)) : Option (Int)).bind fun x180 => some x180)) (some x161)) : Option (Int)).bind fun x178 => gsexp_parser__skip_L1 N p0_0 m (IntKind.wrap .i64 (y67 + x178))))) (some (.ret y67))))))) (some (.out y67))))

def gsexp_parser__skip (n : Nat) (p0_0 : ByteArray) (p0_1 : Int) (_p0_2 : Int) : Option (Int) := ((gsexp_parser__skip_L1 n p0_0 n p0_1).bind fun v => match v with | .out x134 => some x134 | .ret r207 => some r207)

def gsexp_parser__skip_post (bq0 : Nat) (p0_0 : ByteArray) (p0_2 : Int) (R : List Res) (r : Int) (x : A) (s : St) : Prop := x = (.tup []) ∧ Hp s (.blk bq0 (.cells [(.v (.string p0_0)), (.v (.int .i64 r)), (.v (.int .i64 p0_2))] 50) :: R)

theorem gsexp_parser__skip_ok {n : Nat} {bq0 : Nat} {p0_0 : ByteArray} {p0_1 : Int} {p0_2 : Int} {R : List Res} {σ : St} (hp : Hp σ (.blk bq0 (.cells [(.v (.string p0_0)), (.v (.int .i64 p0_1)), (.v (.int .i64 p0_2))] 50) :: R)) {r : Int} (H : gsexp_parser__skip n p0_0 p0_1 p0_2 = some r) : Ca cfg 31 [(.ptr bq0 0)] σ (gsexp_parser__skip_post bq0 p0_0 p0_2 R r) := by
  unfold gsexp_parser__skip at H
  refine Ca.enterL (G := [(0, (.ptr bq0 0))]) Tryd.func31 rfl rfl rfl rfl ?_
  refine Ec.block ?_
  obtain ⟨v201, hv202, H⟩ := bind_some H
  refine Ec.cut (J := (fun (v : LR Int Int) (x : X) (φ : Fr) (s : St) => match v with | .out x134 => x = (.exit 0) ∧ (Hp s (.blk bq0 (.cells [(.v (.string p0_0)), (.v (.int .i64 x134)), (.v (.int .i64 p0_2))] 50) :: R) ∧ Fl [] φ) | .ret r => x = .ret ∧ Ret cfg Tryd.f31 (gsexp_parser__skip_post bq0 p0_0 p0_2 R r) .ret φ s) v201) (Ec.weak (.cons rfl (.nil')) (Ec.loopF (f := (fun m (i : Int × Unit) => gsexp_parser__skip_L1 n p0_0 m i.1)) (G := (fun (i : Int × Unit) => ([(0, (.ptr bq0 0))] : List (Nat × A)))) (I := (fun (i : Int × Unit) (s : St) => Hp s (.blk bq0 (.cells [(.v (.string p0_0)), (.v (.int .i64 i.1)), (.v (.int .i64 p0_2))] 50) :: R))) (J := (fun (v : LR Int Int) (x : X) (φ : Fr) (s : St) => match v with | .out x134 => x = (.exit 0) ∧ (Hp s (.blk bq0 (.cells [(.v (.string p0_0)), (.v (.int .i64 x134)), (.v (.int .i64 p0_2))] 50) :: R) ∧ Fl [] φ) | .ret r => x = .ret ∧ Ret cfg Tryd.f31 (gsexp_parser__skip_post bq0 p0_0 p0_2 R r) .ret φ s)) (fun _ => rfl) ?_ n (p0_1, ()) _ v201 hp hv202)) ?_
  · rintro m ⟨y67, _⟩ σ0 v hp0 H ih
    change gsexp_parser__skip_L1 n p0_0 (m + 1) y67 = some v at H
    rw [gsexp_parser__skip_L1] at H
    change Ec _ _ _ [(0, (.ptr bq0 0))] σ0 _
    refine Ec.seq ?_
    refine Ec.seq ?_
    obtain ⟨x135, hv200, H⟩ := bind_some H
    refine Ec.cut (J := (fun (x135 : Bool) (x : X) (φ : Fr) (s : St) => x = .normal ∧ (Hp s (.blk bq0 (.cells [(.v (.string p0_0)), (.v (.int .i64 y67)), (.v (.int .i64 p0_2))] 50) :: R) ∧ Fl [(0, (.ptr bq0 0)), (13, (.v (.bool x135)))] φ)) x135) ?_ ?_
    · have H := hv200
      refine Ec.drawn2 (by kernel_rfl) ?_
      refine Eo.val (x := (.ptr bq0 0)) rfl rfl rfl rfl ?_
      refine Eo.val (x := (.ptr bq0 0)) rfl rfl rfl rfl ?_
      refine Eo.val (x := (.ptr bq0 1)) rfl rfl rfl rfl ?_
      refine Eo.val (x := (.v (.int .i64 y67))) (op_loadB hp0 0 rfl rfl rfl rfl) rfl rfl rfl ?_
      refine Eo.val (x := (.ptr bq0 0)) rfl rfl rfl rfl ?_
      refine Eo.val (x := (.ptr bq0 0)) rfl rfl rfl rfl ?_
      refine Eo.val (x := (.ptr bq0 0)) rfl rfl rfl rfl ?_
      refine Eo.val (x := (.v (.string p0_0))) (op_loadB hp0 0 rfl rfl rfl rfl) rfl rfl rfl ?_
      refine Eo.val (x := (.v (.int .i64 ((p0_0.size : Nat) : Int)))) (op_len rfl rfl rfl rfl rfl Tryd.underlying9) rfl rfl rfl ?_
      refine Eo.val (x := (.v (.bool (decide (y67 < ((p0_0.size : Nat) : Int)))))) rfl rfl rfl rfl ?_
      refine Eo.nil ?_
      obtain rfl := Option.some.inj H
      exact And.intro rfl (And.intro rfl ⟨hp0, (.cons rfl (.cons rfl (.nil')))⟩)
    · skip
      intro x φ138 σ137 hJ
      obtain ⟨rfl, hp136, hf139⟩ := hJ
      refine Ec.of (F := [(0, (.ptr bq0 0)), (13, (.v (.bool x135)))]) hf139 ?_
      refine Ec.cond (t := x135) rfl (fun hc140 => ?_) (fun hc140 => ?_)
      · have H := cond_t hc140 H
        refine Ec.skip ?_
        refine Ec.block ?_
        refine Ec.seq ?_
        obtain ⟨x142, hv198, H⟩ := bind_some H
        refine Ec.cut (J := (fun (x142 : Int) (x : X) (φ : Fr) (s : St) => x = .normal ∧ (Hp s (.blk bq0 (.cells [(.v (.string p0_0)), (.v (.int .i64 y67)), (.v (.int .i64 p0_2))] 50) :: R) ∧ Fl [(0, (.ptr bq0 0)), (2, (.v (.int .u8 x142)))] φ)) x142) ?_ ?_
        · have H := hv198
          refine Ec.drawn2 (by kernel_rfl) ?_
          refine Eo.val (x := (.ptr bq0 0)) rfl rfl rfl rfl ?_
          refine Eo.val (x := (.ptr bq0 0)) rfl rfl rfl rfl ?_
          refine Eo.val (x := (.ptr bq0 0)) rfl rfl rfl rfl ?_
          refine Eo.val (x := (.v (.string p0_0))) (op_loadB hp136 0 rfl rfl rfl rfl) rfl rfl rfl ?_
          refine Eo.val (x := (.ptr bq0 0)) rfl rfl rfl rfl ?_
          refine Eo.val (x := (.ptr bq0 0)) rfl rfl rfl rfl ?_
          refine Eo.val (x := (.ptr bq0 1)) rfl rfl rfl rfl ?_
          refine Eo.val (x := (.v (.int .i64 y67))) (op_loadB hp136 0 rfl rfl rfl rfl) rfl rfl rfl ?_
          obtain ⟨b143, hvb143, H⟩ := bind_some H
          refine Eo.val (op_byteS hvb143 rfl rfl rfl Tryd.underlying9) rfl rfl rfl ?_
          refine Eo.val (x := (.v (.int .u8 b143))) rfl rfl rfl rfl ?_
          refine Eo.nil ?_
          obtain rfl := Option.some.inj H
          exact And.intro rfl (And.intro rfl ⟨hp136, (.cons rfl (.cons rfl (.nil')))⟩)
        · skip
          intro x φ146 σ145 hJ
          obtain ⟨rfl, hp144, hf147⟩ := hJ
          refine Ec.of (F := [(0, (.ptr bq0 0)), (2, (.v (.int .u8 x142)))]) hf147 ?_
          refine Ec.block ?_
          refine Ec.seq ?_
          refine Ec.region ?_
          refine Eo.val (x := (.v (.int .u8 x142))) rfl rfl rfl rfl ?_
          refine Eo.val (x := (.v (.bool (x142 == 32)))) rfl rfl rfl rfl ?_
          refine Eo.val (x := (.v (.bool (x142 == 32)))) rfl rfl rfl rfl ?_
          refine Eo.cutF 3 [(0, (.ptr bq0 0)), (2, (.v (.int .u8 x142))), (29, (.v (.bool ((x142 == 32) || (x142 == 10)))))] ?_ ?_
          · skip
            cases hc150 : (x142 == 32)
            · skip
              refine Eo.val (x := (.v (.int .u8 x142))) rfl rfl rfl rfl ?_
              refine Eo.val (x := (.v (.bool (x142 == 10)))) rfl rfl rfl rfl ?_
              refine Eo.val (x := (.v (.bool (x142 == 10)))) rfl rfl rfl rfl ?_
              exact Eo.nil (And.intro rfl (And.intro rfl (.cons rfl (.cons rfl (.cons rfl (.nil'))))))
            · skip
              refine Eo.off rfl rfl rfl ?_
              refine Eo.off rfl rfl rfl ?_
              refine Eo.val (x := (.v (.bool true))) rfl rfl rfl rfl ?_
              exact Eo.nil (And.intro rfl (And.intro rfl (.cons rfl (.cons rfl (.cons rfl (.nil'))))))
          · skip
            refine Eo.val (x := (.v (.bool ((x142 == 32) || (x142 == 10))))) rfl rfl rfl rfl ?_
            refine Eo.nil ?_
            refine Ec.cond (t := ((x142 == 32) || (x142 == 10))) rfl (fun hc153 => ?_) (fun hc153 => ?_)
            · have H := cond_t hc153 H
              refine Ec.region ?_
              refine Eo.val (x := (.ptr bq0 0)) rfl rfl rfl rfl ?_
              refine Eo.val (x := (.ptr bq0 0)) rfl rfl rfl rfl ?_
              refine Eo.val (x := (.ptr bq0 1)) rfl rfl rfl rfl ?_
              refine Eo.val (x := (.v (.int .i64 y67))) (op_loadB hp144 0 rfl rfl rfl rfl) rfl rfl rfl ?_
              refine Eo.val (x := (.v (.int .i64 (IntKind.wrap .i64 (y67 + 1))))) rfl rfl rfl rfl ?_
              refine Eo.val (x := (.ptr bq0 0)) rfl rfl rfl rfl ?_
              refine Eo.val (x := (.ptr bq0 1)) rfl rfl rfl rfl ?_
              refine Eo.store hp144 0 rfl (storeCells_mk rfl rfl rfl rfl rfl rfl) rfl rfl rfl rfl rfl ?_
              intro σ155 hp154
              change Hp σ155 (.blk bq0 (.cells [(.v (.string p0_0)), (.v (.int .i64 (IntKind.wrap .i64 (y67 + 1)))), (.v (.int .i64 p0_2))] 50) :: R) at hp154
              refine Eo.nil ?_
              exact Ec.of (.cons rfl (.nil')) (ih ((IntKind.wrap .i64 (y67 + 1)), ()) _ hp154 H)
            · have H := cond_f hc153 H
              refine Ec.seq ?_
              refine Ec.region ?_
              refine Eo.val (x := (.v (.int .u8 x142))) rfl rfl rfl rfl ?_
              refine Eo.val (x := (.v (.bool (x142 == 59)))) rfl rfl rfl rfl ?_
              refine Eo.val (x := (.v (.bool (x142 == 59)))) rfl rfl rfl rfl ?_
              refine Eo.nil ?_
              refine Ec.cond (t := (x142 == 59)) rfl (fun hc156 => ?_) (fun hc156 => ?_)
              · have H := cond_t hc156 H
                refine Ec.seq ?_
                obtain ⟨x161, hv196, H⟩ := bind_some H
                refine Ec.cut (J := (fun (x161 : Int) (x : X) (φ : Fr) (s : St) => x = .normal ∧ (Hp s (.blk bq0 (.cells [(.v (.string p0_0)), (.v (.int .i64 y67)), (.v (.int .i64 p0_2))] 50) :: R) ∧ Fl [(0, (.ptr bq0 0)), (3, (.v (.int .i64 x161)))] φ)) x161) ?_ ?_
                · have H := hv196
                  refine Ec.drawn2 (by kernel_rfl) ?_
                  refine Eo.val (x := (.ptr bq0 0)) rfl rfl rfl rfl ?_
                  refine Eo.val (x := (.ptr bq0 0)) rfl rfl rfl rfl ?_
                  refine Eo.val (x := (.ptr bq0 0)) rfl rfl rfl rfl ?_
                  refine Eo.val (x := (.v (.string p0_0))) (op_loadB hp144 0 rfl rfl rfl rfl) rfl rfl rfl ?_
                  refine Eo.val (x := (.ptr bq0 0)) rfl rfl rfl rfl ?_
                  refine Eo.val (x := (.ptr bq0 0)) rfl rfl rfl rfl ?_
                  refine Eo.val (x := (.ptr bq0 1)) rfl rfl rfl rfl ?_
                  refine Eo.val (x := (.v (.int .i64 y67))) (op_loadB hp144 0 rfl rfl rfl rfl) rfl rfl rfl ?_
                  obtain ⟨s162, hvs162, H⟩ := bind_some H
                  refine Eo.val (op_partS hvs162 rfl rfl Tryd.underlying9 (.inr ⟨_, _, rfl, rfl⟩) (.inl ⟨rfl, rfl⟩)) rfl rfl rfl ?_
                  obtain ⟨r163, hvr163, H⟩ := bind_some H
                  refine Eo.call rfl rfl rfl rfl (prim48_ok hp144 hvr163) ?_
                  rintro _ σ165 ⟨rfl, hp164⟩
                  refine Eo.val (x := (.v (.int .i64 r163))) rfl rfl rfl rfl ?_
                  refine Eo.nil ?_
                  obtain rfl := Option.some.inj H
                  exact And.intro rfl (And.intro rfl ⟨hp164, (.cons rfl (.cons rfl (.nil')))⟩)
                · skip
                  intro x φ168 σ167 hJ
                  obtain ⟨rfl, hp166, hf169⟩ := hJ
                  refine Ec.of (F := [(0, (.ptr bq0 0)), (3, (.v (.int .i64 x161)))]) hf169 ?_
                  refine Ec.seq ?_
                  refine Ec.seq ?_
                  refine Ec.region ?_
                  refine Eo.val (x := (.v (.int .i64 x161))) rfl rfl rfl rfl ?_
                  refine Eo.val (x := (.v (.bool (decide (x161 < 0))))) rfl rfl rfl rfl ?_
                  refine Eo.nil ?_
                  obtain ⟨x178, hv194, H⟩ := bind_some H
                  refine Ec.cut (J := (fun (x178 : Int) (x : X) (φ : Fr) (s : St) => x = .normal ∧ (Hp s (.blk bq0 (.cells [(.v (.string p0_0)), (.v (.int .i64 y67)), (.v (.int .i64 p0_2))] 50) :: R) ∧ Fl [(0, (.ptr bq0 0)), (3, (.v (.int .i64 x178)))] φ)) x178) ?_ ?_
                  · have H := hv194
                    refine Ec.cond (t := (decide (x161 < 0))) rfl (fun hc179 => ?_) (fun hc179 => ?_)
                    · have H := cond_t hc179 H
                      obtain ⟨x180, hv186, H⟩ := bind_some H
                      refine Ec.cut (J := (fun (x180 : Int) (x : X) (φ : Fr) (s : St) => x = .normal ∧ (Hp s (.blk bq0 (.cells [(.v (.string p0_0)), (.v (.int .i64 y67)), (.v (.int .i64 p0_2))] 50) :: R) ∧ Fl [(0, (.ptr bq0 0)), (3, (.v (.int .i64 x180)))] φ)) x180) ?_ ?_
                      · have H := hv186
                        refine Ec.drawn2 (by kernel_rfl) ?_
                        refine Eo.val (x := (.ptr bq0 0)) rfl rfl rfl rfl ?_
                        refine Eo.val (x := (.ptr bq0 0)) rfl rfl rfl rfl ?_
                        refine Eo.val (x := (.ptr bq0 0)) rfl rfl rfl rfl ?_
                        refine Eo.val (x := (.v (.string p0_0))) (op_loadB hp166 0 rfl rfl rfl rfl) rfl rfl rfl ?_
                        refine Eo.val (x := (.v (.int .i64 ((p0_0.size : Nat) : Int)))) (op_len rfl rfl rfl rfl rfl Tryd.underlying9) rfl rfl rfl ?_
                        refine Eo.val (x := (.ptr bq0 0)) rfl rfl rfl rfl ?_
                        refine Eo.val (x := (.ptr bq0 0)) rfl rfl rfl rfl ?_
                        refine Eo.val (x := (.ptr bq0 1)) rfl rfl rfl rfl ?_
                        refine Eo.val (x := (.v (.int .i64 y67))) (op_loadB hp166 0 rfl rfl rfl rfl) rfl rfl rfl ?_
                        refine Eo.val (x := (.v (.int .i64 (IntKind.wrap .i64 (((p0_0.size : Nat) : Int) - y67))))) rfl rfl rfl rfl ?_
                        refine Eo.val (x := (.v (.int .i64 (IntKind.wrap .i64 (((p0_0.size : Nat) : Int) - y67))))) rfl rfl rfl rfl ?_
                        refine Eo.nil ?_
                        obtain rfl := Option.some.inj H
                        exact And.intro rfl (And.intro rfl ⟨hp166, (.cons rfl (.cons rfl (.nil')))⟩)
                      · skip
                        intro x φ183 σ182 hJ
                        obtain ⟨rfl, hp181, hf184⟩ := hJ
                        obtain rfl := Option.some.inj H
                        exact And.intro rfl ⟨hp181, (Fl.trans (G := [(0, (.ptr bq0 0)), (3, (.v (.int .i64 x180)))]) (.cons rfl (.cons rfl (.nil'))) hf184)⟩
                    · have H := cond_f hc179 H
                      refine Ec.skip ?_
                      obtain rfl := Option.some.inj H
                      exact And.intro rfl ⟨hp166, (.cons rfl (.cons rfl (.nil')))⟩
                  · skip
                    intro x φ189 σ188 hJ
                    obtain ⟨rfl, hp187, hf190⟩ := hJ
                    refine Ec.of (F := [(0, (.ptr bq0 0)), (3, (.v (.int .i64 x178)))]) hf190 ?_
                    refine Ec.region ?_
                    refine Eo.val (x := (.ptr bq0 0)) rfl rfl rfl rfl ?_
                    refine Eo.val (x := (.ptr bq0 0)) rfl rfl rfl rfl ?_
                    refine Eo.val (x := (.ptr bq0 1)) rfl rfl rfl rfl ?_
                    refine Eo.val (x := (.v (.int .i64 y67))) (op_loadB hp187 0 rfl rfl rfl rfl) rfl rfl rfl ?_
                    refine Eo.val (x := (.v (.int .i64 x178))) rfl rfl rfl rfl ?_
                    refine Eo.val (x := (.v (.int .i64 (IntKind.wrap .i64 (y67 + x178))))) rfl rfl rfl rfl ?_
                    refine Eo.val (x := (.ptr bq0 0)) rfl rfl rfl rfl ?_
                    refine Eo.val (x := (.ptr bq0 1)) rfl rfl rfl rfl ?_
                    refine Eo.store hp187 0 rfl (storeCells_mk rfl rfl rfl rfl rfl rfl) rfl rfl rfl rfl rfl ?_
                    intro σ192 hp191
                    change Hp σ192 (.blk bq0 (.cells [(.v (.string p0_0)), (.v (.int .i64 (IntKind.wrap .i64 (y67 + x178)))), (.v (.int .i64 p0_2))] 50) :: R) at hp191
                    refine Eo.nil ?_
                    exact Ec.of (.cons rfl (.nil')) (ih ((IntKind.wrap .i64 (y67 + x178)), ()) _ hp191 H)
              · have H := cond_f hc156 H
                obtain rfl := Option.some.inj H
                refine Ec.ret ?_
                refine And.intro rfl (Ret.mk rfl ?_)
                exact ⟨rfl, hp144⟩
      · have H := cond_f hc140 H
        refine Ec.exit ?_
        obtain rfl := Option.some.inj H
        exact And.intro rfl ⟨hp136, (.nil')⟩
  · rcases v201 with x134 | r207
    · intro x φ205 σ204 hJ
      obtain ⟨rfl, hp203, hf206⟩ := hJ
      obtain rfl := Option.some.inj H
      refine Ret.mkNφ (C := cfg) (fn := Tryd.f31) hf206 rfl ?_
      exact ⟨rfl, hp203⟩
    · intro x φ208 σ209 hJ
      obtain rfl := Option.some.inj H
      obtain ⟨rfl, hr⟩ := hJ
      exact hr

def gsexp_wrong (_n : Nat) (p0 : Int) : Option ((PR Unit Tsexp_fault)) := some (.pan (Tsexp_fault.mk p0 31))

def gsexp_wrong_post (R : List Res) (r : (PR Unit Tsexp_fault)) : Out → St → Prop := match r with | .val _r => OutV (fun x s => x = (.tup []) ∧ Hp s (R)) | .pan p => OutP (.ifc 47 (.agg [(.v (.int .i64 p.f_at)), (.v (.int .i64 p.f_e))])) R

theorem gsexp_wrong_ok {n : Nat} {p0 : Int} {R : List Res} {σ : St} (hp : Hp σ R) {r : (PR Unit Tsexp_fault)} (H : gsexp_wrong n p0 = some r) : CaO cfg 32 [(.v (.int .i64 p0))] σ (gsexp_wrong_post R r) := by
  unfold gsexp_wrong at H
  refine CaO.enterL (G := [(0, (.v (.int .i64 p0)))]) Tryd.func32 rfl rfl rfl rfl ?_
  refine Ec.region ?_
  refine Eo.val (x := (.v (.int .i64 p0))) rfl rfl rfl rfl ?_
  refine Eo.val (x := (.agg [(.v (.int .i64 p0)), (.v (.int .i64 31))])) (op_build (lay_cons rfl rfl rfl rfl rfl (lay_cons rfl rfl rfl rfl rfl lay_nil)) rfl (parts_cons rfl rfl (parts_cons rfl rfl rfl)) Tryd.underlying47 rfl rfl) rfl rfl rfl ?_
  refine Eo.val (x := (.ifc 47 (.agg [(.v (.int .i64 p0)), (.v (.int .i64 31))]))) (op_iface rfl rfl Tryd.underlying47 rfl) rfl rfl rfl ?_
  refine Eo.panic rfl rfl rfl ?_
  obtain rfl := Option.some.inj H
  exact Fin.pan (C := cfg) (fn := Tryd.f32) ⟨rfl, hp⟩

def gsexp_parser__count (_n : Nat) (_p0_0 : ByteArray) (p0_1 : Int) (p0_2 : Int) (p1 : Int) : Option ((PR Int Tsexp_fault)) := (((cond ((decide ((IntKind.wrap .i64 (p0_2 + 1)) > 65536)) || (decide (p1 > 32))) (some (.ret (.pan (Tsexp_fault.mk p0_1 33)))) (some (.out ()))) : Option (LR Unit (PR Int Tsexp_fault))).bind fun v => match v with | .out _ => some (.val (IntKind.wrap .i64 (p0_2 + 1))) | .ret r14 => some r14)

def gsexp_parser__count_post (bq0 : Nat) (p0_0 : ByteArray) (p0_1 : Int) (R : List Res) (r : (PR Int Tsexp_fault)) : Out → St → Prop := match r with | .val r => OutV (fun x s => x = (.tup []) ∧ Hp s (.blk bq0 (.cells [(.v (.string p0_0)), (.v (.int .i64 p0_1)), (.v (.int .i64 r))] 50) :: R)) | .pan p => OutP (.ifc 47 (.agg [(.v (.int .i64 p.f_at)), (.v (.int .i64 p.f_e))])) R

theorem gsexp_parser__count_ok {n : Nat} {bq0 : Nat} {p0_0 : ByteArray} {p0_1 : Int} {p0_2 : Int} {p1 : Int} {R : List Res} {σ : St} (hp : Hp σ (.blk bq0 (.cells [(.v (.string p0_0)), (.v (.int .i64 p0_1)), (.v (.int .i64 p0_2))] 50) :: R)) {r : (PR Int Tsexp_fault)} (H : gsexp_parser__count n p0_0 p0_1 p0_2 p1 = some r) : CaO cfg 33 [(.ptr bq0 0), (.v (.int .i64 p1))] σ (gsexp_parser__count_post bq0 p0_0 p0_1 R r) := by
  unfold gsexp_parser__count at H
  refine CaO.enterL (G := [(0, (.ptr bq0 0)), (1, (.v (.int .i64 p1)))]) Tryd.func33 rfl rfl rfl rfl ?_
  refine Ec.seq ?_
  refine Ec.region ?_
  refine Eo.val (x := (.ptr bq0 0)) rfl rfl rfl rfl ?_
  refine Eo.val (x := (.ptr bq0 0)) rfl rfl rfl rfl ?_
  refine Eo.val (x := (.ptr bq0 2)) rfl rfl rfl rfl ?_
  refine Eo.val (x := (.v (.int .i64 p0_2))) (op_loadB hp 0 rfl rfl rfl rfl) rfl rfl rfl ?_
  refine Eo.val (x := (.v (.int .i64 (IntKind.wrap .i64 (p0_2 + 1))))) rfl rfl rfl rfl ?_
  refine Eo.val (x := (.ptr bq0 0)) rfl rfl rfl rfl ?_
  refine Eo.val (x := (.ptr bq0 2)) rfl rfl rfl rfl ?_
  refine Eo.store hp 0 rfl (storeCells_mk rfl rfl rfl rfl rfl rfl) rfl rfl rfl rfl rfl ?_
  intro σ2 hp1
  change Hp σ2 (.blk bq0 (.cells [(.v (.string p0_0)), (.v (.int .i64 p0_1)), (.v (.int .i64 (IntKind.wrap .i64 (p0_2 + 1))))] 50) :: R) at hp1
  refine Eo.nil ?_
  refine Ec.seq ?_
  refine Ec.region ?_
  refine Eo.val (x := (.ptr bq0 0)) rfl rfl rfl rfl ?_
  refine Eo.val (x := (.ptr bq0 0)) rfl rfl rfl rfl ?_
  refine Eo.val (x := (.ptr bq0 2)) rfl rfl rfl rfl ?_
  refine Eo.val (x := (.v (.int .i64 (IntKind.wrap .i64 (p0_2 + 1))))) (op_loadB hp1 0 rfl rfl rfl rfl) rfl rfl rfl ?_
  refine Eo.val (x := (.v (.bool (decide ((IntKind.wrap .i64 (p0_2 + 1)) > 65536))))) rfl rfl rfl rfl ?_
  refine Eo.val (x := (.v (.bool (decide ((IntKind.wrap .i64 (p0_2 + 1)) > 65536))))) rfl rfl rfl rfl ?_
  refine Eo.cutF 3 [(0, (.ptr bq0 0)), (19, (.v (.bool ((decide ((IntKind.wrap .i64 (p0_2 + 1)) > 65536)) || (decide (p1 > 32))))))] ?_ ?_
  · skip
    cases hc5 : (decide ((IntKind.wrap .i64 (p0_2 + 1)) > 65536))
    · skip
      refine Eo.val (x := (.v (.int .i64 p1))) rfl rfl rfl rfl ?_
      refine Eo.val (x := (.v (.bool (decide (p1 > 32))))) rfl rfl rfl rfl ?_
      refine Eo.val (x := (.v (.bool (decide (p1 > 32))))) rfl rfl rfl rfl ?_
      exact Eo.nil (And.intro rfl (And.intro rfl (.cons rfl (.cons rfl (.nil')))))
    · skip
      refine Eo.off rfl rfl rfl ?_
      refine Eo.off rfl rfl rfl ?_
      refine Eo.val (x := (.v (.bool true))) rfl rfl rfl rfl ?_
      exact Eo.nil (And.intro rfl (And.intro rfl (.cons rfl (.cons rfl (.nil')))))
  · skip
    refine Eo.nil ?_
    obtain ⟨v17, hv18, H⟩ := bind_some H
    refine Ec.cut (J := (fun (v : LR Unit (PR Int Tsexp_fault)) (x : X) (φ : Fr) (s : St) => match v with | .out _ => x = .normal ∧ (Hp s (.blk bq0 (.cells [(.v (.string p0_0)), (.v (.int .i64 p0_1)), (.v (.int .i64 (IntKind.wrap .i64 (p0_2 + 1))))] 50) :: R) ∧ Fl [] φ) | .ret r => FinR cfg Tryd.f33 (gsexp_parser__count_post bq0 p0_0 p0_1 R r) x φ s) v17) ?_ ?_
    · have H := hv18
      refine Ec.cond (t := ((decide ((IntKind.wrap .i64 (p0_2 + 1)) > 65536)) || (decide (p1 > 32)))) rfl (fun hc9 => ?_) (fun hc9 => ?_)
      · have H := cond_t hc9 H
        refine Ec.region ?_
        refine Eo.val (x := (.ptr bq0 0)) rfl rfl rfl rfl ?_
        refine Eo.val (x := (.ptr bq0 0)) rfl rfl rfl rfl ?_
        refine Eo.val (x := (.ptr bq0 1)) rfl rfl rfl rfl ?_
        refine Eo.val (x := (.v (.int .i64 p0_1))) (op_loadB hp1 0 rfl rfl rfl rfl) rfl rfl rfl ?_
        refine Eo.val (x := (.agg [(.v (.int .i64 p0_1)), (.v (.int .i64 33))])) (op_build (lay_cons rfl rfl rfl rfl rfl (lay_cons rfl rfl rfl rfl rfl lay_nil)) rfl (parts_cons rfl rfl (parts_cons rfl rfl rfl)) Tryd.underlying47 rfl rfl) rfl rfl rfl ?_
        refine Eo.val (x := (.ifc 47 (.agg [(.v (.int .i64 p0_1)), (.v (.int .i64 33))]))) (op_iface rfl rfl Tryd.underlying47 rfl) rfl rfl rfl ?_
        refine Eo.panic rfl rfl rfl ?_
        obtain rfl := Option.some.inj H
        exact Fin.pan (C := cfg) (fn := Tryd.f33) ⟨rfl, (Hp.drop hp1 0)⟩
      · have H := cond_f hc9 H
        refine Ec.skip ?_
        obtain rfl := Option.some.inj H
        exact And.intro rfl ⟨hp1, (.nil')⟩
    · rcases v17 with _ | r14
      · intro x φ12 σ11 hJ
        obtain ⟨rfl, hp10, hf13⟩ := hJ
        obtain rfl := Option.some.inj H
        refine Fin.mkNφ (C := cfg) (fn := Tryd.f33) hf13 rfl ?_
        exact ⟨rfl, hp10⟩
      · intro x φ15 σ16 hJ
        obtain rfl := Option.some.inj H
        cases x <;> first | exact hJ | exact hJ.elim

def gsexp_parser__quoted_L1 (N : Nat) (p0_0 : ByteArray) (p0_1 : Int) : Nat → Int → Option (LR Unit (PR (TTree × Int) Tsexp_fault))
  | 0, _ => none
  | m + 1, y80 => (cond (decide (y80 < ((p0_0.size : Nat) : Int))) (((((atS p0_0 y80).bind fun b186 => (cond (b186 == 34) (((((subS p0_0 (IntKind.wrap .i64 (p0_1 + 1)) y80).bind fun s190 => some s190) : Option (ByteArray)).bind fun x189 => some (.ret (.val ((TTree.mk 3 x189 0 ([] : List TTree)), (IntKind.wrap .i64 (y80 + 1))))))) ((cond (b186 == 10) (some (.ex ())) ((cond ((decide (b186 < 32)) || (decide (b186 > 126))) (((gsexp_wrong N y80).bind fun v => match v with | .val _ => some (.out ()) | .pan p212 => some (.ret (.pan p212)))) (some (.out ())))))))) : Option (LX Unit Unit (PR (TTree × Int) Tsexp_fault))).bind fun v => match v with | .out _ => gsexp_parser__quoted_L1 N p0_0 p0_1 m (IntKind.wrap .i64 (y80 + 1)) | .ex _ => some (.out ()) | .ret r224 => some (.ret r224))) (some (.out ())))

def gsexp_parser__quoted (n : Nat) (p0_0 : ByteArray) (p0_1 : Int) (_p0_2 : Int) : Option ((PR (TTree × Int) Tsexp_fault)) := ((gsexp_parser__quoted_L1 n p0_0 p0_1 n (IntKind.wrap .i64 (p0_1 + 1))).bind fun v => match v with | .out _ => ((gsexp_wrong n p0_1).bind fun v => match v with | .val _ => some (.val ((TTree.mk 0 (ByteArray.mk #[]) 0 ([] : List TTree)), p0_1)) | .pan p241 => some (.pan p241)) | .ret r245 => some r245)

def gsexp_parser__quoted_post (bq0 : Nat) (p0_0 : ByteArray) (p0_2 : Int) (R : List Res) (r : (PR (TTree × Int) Tsexp_fault)) : Out → St → Prop := match r with | .val r => OutV (fun x s => ∃ (a1 : A), x = (.agg [(.v (.int .i64 r.1.f_Kind)), (.v (.string r.1.f_Word)), (.v (.int .i64 r.1.f_Num)), a1]) ∧ Sl rTTree a1 r.1.f_Kids ∧ Hp s (.blk bq0 (.cells [(.v (.string p0_0)), (.v (.int .i64 r.2)), (.v (.int .i64 p0_2))] 50) :: .app a1 34 :: R)) | .pan p => OutP (.ifc 47 (.agg [(.v (.int .i64 p.f_at)), (.v (.int .i64 p.f_e))])) R

theorem gsexp_parser__quoted_ok {n : Nat} {bq0 : Nat} {p0_0 : ByteArray} {p0_1 : Int} {p0_2 : Int} {R : List Res} {σ : St} (hp : Hp σ (.blk bq0 (.cells [(.v (.string p0_0)), (.v (.int .i64 p0_1)), (.v (.int .i64 p0_2))] 50) :: R)) {r : (PR (TTree × Int) Tsexp_fault)} (H : gsexp_parser__quoted n p0_0 p0_1 p0_2 = some r) : CaO cfg 34 [(.ptr bq0 0)] σ (gsexp_parser__quoted_post bq0 p0_0 p0_2 R r) := by
  unfold gsexp_parser__quoted at H
  refine CaO.enterL (G := [(0, (.ptr bq0 0))]) Tryd.func34 rfl rfl rfl rfl ?_
  refine Ec.seq ?_
  refine Ec.region ?_
  refine Eo.alloc (z := [(.v (.int .i64 0)), (.v (.string (ByteArray.mk #[]))), (.v (.int .i64 0)), nilS]) hp rfl rfl rfl rfl rfl ?_
  intro b3 σ5 hp4
  refine Eo.nil ?_
  refine Ec.seq ?_
  refine Ec.seq ?_
  refine Ec.region ?_
  refine Eo.val (x := (.ptr bq0 0)) rfl rfl rfl rfl ?_
  refine Eo.val (x := (.ptr bq0 0)) rfl rfl rfl rfl ?_
  refine Eo.val (x := (.ptr bq0 1)) rfl rfl rfl rfl ?_
  refine Eo.val (x := (.v (.int .i64 p0_1))) (op_loadB hp4 1 rfl rfl rfl rfl) rfl rfl rfl ?_
  refine Eo.val (x := (.v (.int .i64 (IntKind.wrap .i64 (p0_1 + 1))))) rfl rfl rfl rfl ?_
  refine Eo.val (x := (.v (.int .i64 (IntKind.wrap .i64 (p0_1 + 1))))) rfl rfl rfl rfl ?_
  refine Eo.nil ?_
  refine Ec.block ?_
  obtain ⟨v229, hv230, H⟩ := bind_some H
  refine Ec.cut (J := (fun (v : LR Unit (PR (TTree × Int) Tsexp_fault)) (x : X) (φ : Fr) (s : St) => match v with | .out _ => x = (.exit 0) ∧ (Hp s (.blk bq0 (.cells [(.v (.string p0_0)), (.v (.int .i64 p0_1)), (.v (.int .i64 p0_2))] 50) :: .blk b3 (.cells [(.v (.int .i64 0)), (.v (.string (ByteArray.mk #[]))), (.v (.int .i64 0)), nilS] 34) :: R) ∧ Fl [(0, (.ptr bq0 0)), (2, (.ptr b3 0))] φ) | .ret r => FinR cfg Tryd.f34 (gsexp_parser__quoted_post bq0 p0_0 p0_2 R r) x φ s) v229) (Ec.weak (.cons rfl (.cons rfl (.cons rfl (.nil')))) (Ec.loopF (f := (fun m (i : Int × Unit) => gsexp_parser__quoted_L1 n p0_0 p0_1 m i.1)) (G := (fun (i : Int × Unit) => ([(0, (.ptr bq0 0)), (2, (.ptr b3 0)), (3, (.v (.int .i64 i.1)))] : List (Nat × A)))) (I := (fun (i : Int × Unit) (s : St) => Hp s (.blk bq0 (.cells [(.v (.string p0_0)), (.v (.int .i64 p0_1)), (.v (.int .i64 p0_2))] 50) :: .blk b3 (.cells [(.v (.int .i64 0)), (.v (.string (ByteArray.mk #[]))), (.v (.int .i64 0)), nilS] 34) :: R))) (J := (fun (v : LR Unit (PR (TTree × Int) Tsexp_fault)) (x : X) (φ : Fr) (s : St) => match v with | .out _ => x = (.exit 0) ∧ (Hp s (.blk bq0 (.cells [(.v (.string p0_0)), (.v (.int .i64 p0_1)), (.v (.int .i64 p0_2))] 50) :: .blk b3 (.cells [(.v (.int .i64 0)), (.v (.string (ByteArray.mk #[]))), (.v (.int .i64 0)), nilS] 34) :: R) ∧ Fl [(0, (.ptr bq0 0)), (2, (.ptr b3 0))] φ) | .ret r => FinR cfg Tryd.f34 (gsexp_parser__quoted_post bq0 p0_0 p0_2 R r) x φ s)) (fun _ => rfl) ?_ n ((IntKind.wrap .i64 (p0_1 + 1)), ()) _ v229 (Hp.front hp4 1) hv230)) ?_
  · rintro m ⟨y80, _⟩ σ0 v hp0 H ih
    change gsexp_parser__quoted_L1 n p0_0 p0_1 (m + 1) y80 = some v at H
    rw [gsexp_parser__quoted_L1] at H
    change Ec _ _ _ [(0, (.ptr bq0 0)), (2, (.ptr b3 0)), (3, (.v (.int .i64 y80)))] σ0 _
    refine Ec.seq ?_
    refine Ec.seq ?_
    refine Ec.region ?_
    refine Eo.val (x := (.v (.int .i64 y80))) rfl rfl rfl rfl ?_
    refine Eo.val (x := (.ptr bq0 0)) rfl rfl rfl rfl ?_
    refine Eo.val (x := (.ptr bq0 0)) rfl rfl rfl rfl ?_
    refine Eo.val (x := (.ptr bq0 0)) rfl rfl rfl rfl ?_
    refine Eo.val (x := (.v (.string p0_0))) (op_loadB hp0 0 rfl rfl rfl rfl) rfl rfl rfl ?_
    refine Eo.val (x := (.v (.int .i64 ((p0_0.size : Nat) : Int)))) (op_len rfl rfl rfl rfl rfl Tryd.underlying9) rfl rfl rfl ?_
    refine Eo.val (x := (.v (.bool (decide (y80 < ((p0_0.size : Nat) : Int)))))) rfl rfl rfl rfl ?_
    refine Eo.nil ?_
    refine Ec.cond (t := (decide (y80 < ((p0_0.size : Nat) : Int)))) rfl (fun hc155 => ?_) (fun hc155 => ?_)
    · have H := cond_t hc155 H
      refine Ec.skip ?_
      refine Ec.seq ?_
      obtain ⟨v227, hv228, H⟩ := bind_some H
      refine Ec.cut (J := (fun (v : LX Unit Unit (PR (TTree × Int) Tsexp_fault)) (x : X) (φ : Fr) (s : St) => match v with | .out _ => x = .normal ∧ (Hp s (.blk bq0 (.cells [(.v (.string p0_0)), (.v (.int .i64 p0_1)), (.v (.int .i64 p0_2))] 50) :: .blk b3 (.cells [(.v (.int .i64 0)), (.v (.string (ByteArray.mk #[]))), (.v (.int .i64 0)), nilS] 34) :: R) ∧ Fl [(0, (.ptr bq0 0)), (2, (.ptr b3 0)), (3, (.v (.int .i64 y80)))] φ) | .ex _ => x = (.exit 0) ∧ (Hp s (.blk bq0 (.cells [(.v (.string p0_0)), (.v (.int .i64 p0_1)), (.v (.int .i64 p0_2))] 50) :: .blk b3 (.cells [(.v (.int .i64 0)), (.v (.string (ByteArray.mk #[]))), (.v (.int .i64 0)), nilS] 34) :: R) ∧ Fl [(0, (.ptr bq0 0)), (2, (.ptr b3 0))] φ) | .ret r => FinR cfg Tryd.f34 (gsexp_parser__quoted_post bq0 p0_0 p0_2 R r) x φ s) v227) ?_ ?_
      · have H := hv228
        refine Ec.block ?_
        refine Ec.seq ?_
        refine Ec.region ?_
        refine Eo.val (x := (.ptr bq0 0)) rfl rfl rfl rfl ?_
        refine Eo.val (x := (.ptr bq0 0)) rfl rfl rfl rfl ?_
        refine Eo.val (x := (.ptr bq0 0)) rfl rfl rfl rfl ?_
        refine Eo.val (x := (.v (.string p0_0))) (op_loadB hp0 0 rfl rfl rfl rfl) rfl rfl rfl ?_
        refine Eo.val (x := (.v (.int .i64 y80))) rfl rfl rfl rfl ?_
        obtain ⟨b186, hvb186, H⟩ := bind_some H
        refine Eo.val (op_byteS hvb186 rfl rfl rfl Tryd.underlying9) rfl rfl rfl ?_
        refine Eo.val (x := (.v (.int .u8 b186))) rfl rfl rfl rfl ?_
        refine Eo.nil ?_
        refine Ec.seq ?_
        refine Ec.seq ?_
        refine Ec.region ?_
        refine Eo.val (x := (.v (.int .u8 b186))) rfl rfl rfl rfl ?_
        refine Eo.val (x := (.v (.bool (b186 == 34)))) rfl rfl rfl rfl ?_
        refine Eo.nil ?_
        refine Ec.cond (t := (b186 == 34)) rfl (fun hc187 => ?_) (fun hc187 => ?_)
        · have H := cond_t hc187 H
          refine Ec.seq ?_
          obtain ⟨x189, hv200, H⟩ := bind_some H
          refine Ec.cut (J := (fun (x189 : ByteArray) (x : X) (φ : Fr) (s : St) => x = .normal ∧ (Hp s (.blk bq0 (.cells [(.v (.string p0_0)), (.v (.int .i64 p0_1)), (.v (.int .i64 p0_2))] 50) :: .blk b3 (.cells [(.v (.int .i64 0)), (.v (.string (ByteArray.mk #[]))), (.v (.int .i64 0)), nilS] 34) :: R) ∧ Fl [(0, (.ptr bq0 0)), (2, (.ptr b3 0)), (3, (.v (.int .i64 y80))), (5, (.v (.string x189)))] φ)) x189) ?_ ?_
          · have H := hv200
            refine Ec.drawn2 (by kernel_rfl) ?_
            refine Eo.val (x := (.ptr bq0 0)) rfl rfl rfl rfl ?_
            refine Eo.val (x := (.ptr bq0 0)) rfl rfl rfl rfl ?_
            refine Eo.val (x := (.ptr bq0 0)) rfl rfl rfl rfl ?_
            refine Eo.val (x := (.v (.string p0_0))) (op_loadB hp0 0 rfl rfl rfl rfl) rfl rfl rfl ?_
            refine Eo.val (x := (.ptr bq0 0)) rfl rfl rfl rfl ?_
            refine Eo.val (x := (.ptr bq0 0)) rfl rfl rfl rfl ?_
            refine Eo.val (x := (.ptr bq0 1)) rfl rfl rfl rfl ?_
            refine Eo.val (x := (.v (.int .i64 p0_1))) (op_loadB hp0 0 rfl rfl rfl rfl) rfl rfl rfl ?_
            refine Eo.val (x := (.v (.int .i64 (IntKind.wrap .i64 (p0_1 + 1))))) rfl rfl rfl rfl ?_
            refine Eo.val (x := (.v (.int .i64 y80))) rfl rfl rfl rfl ?_
            obtain ⟨s190, hvs190, H⟩ := bind_some H
            refine Eo.val (op_partS hvs190 rfl rfl Tryd.underlying9 (.inr ⟨_, _, rfl, rfl⟩) (.inr ⟨_, _, rfl, rfl⟩)) rfl rfl rfl ?_
            refine Eo.val (x := (.v (.string s190))) rfl rfl rfl rfl ?_
            refine Eo.nil ?_
            obtain rfl := Option.some.inj H
            exact And.intro rfl (And.intro rfl ⟨(Hp.front (Hp.front hp0 1) 1), (.cons rfl (.cons rfl (.cons rfl (.cons rfl (.nil')))))⟩)
          · skip
            intro x φ193 σ192 hJ
            obtain ⟨rfl, hp191, hf194⟩ := hJ
            refine Ec.of (F := [(0, (.ptr bq0 0)), (2, (.ptr b3 0)), (3, (.v (.int .i64 y80))), (5, (.v (.string x189)))]) hf194 ?_
            refine Ec.seq ?_
            refine Ec.region ?_
            refine Eo.val (x := (.ptr bq0 0)) rfl rfl rfl rfl ?_
            refine Eo.val (x := (.v (.int .i64 y80))) rfl rfl rfl rfl ?_
            refine Eo.val (x := (.v (.int .i64 (IntKind.wrap .i64 (y80 + 1))))) rfl rfl rfl rfl ?_
            refine Eo.val (x := (.ptr bq0 0)) rfl rfl rfl rfl ?_
            refine Eo.val (x := (.ptr bq0 1)) rfl rfl rfl rfl ?_
            refine Eo.store hp191 0 rfl (storeCells_mk rfl rfl rfl rfl rfl rfl) rfl rfl rfl rfl rfl ?_
            intro σ196 hp195
            change Hp σ196 (.blk bq0 (.cells [(.v (.string p0_0)), (.v (.int .i64 (IntKind.wrap .i64 (y80 + 1)))), (.v (.int .i64 p0_2))] 50) :: .blk b3 (.cells [(.v (.int .i64 0)), (.v (.string (ByteArray.mk #[]))), (.v (.int .i64 0)), nilS] 34) :: R) at hp195
            refine Eo.nil ?_
            refine Ec.seq ?_
            refine Ec.region ?_
            refine Eo.val (x := (.v (.string x189))) rfl rfl rfl rfl ?_
            refine Eo.val (x := (.agg [(.v (.int .i64 3)), (.v (.string x189)), (.v (.int .i64 0)), nilS])) (op_build (lay_cons rfl rfl rfl rfl rfl (lay_cons rfl rfl rfl rfl rfl lay_nil)) rfl (parts_cons rfl rfl (parts_cons rfl rfl rfl)) Tryd.underlying34 rfl rfl) rfl rfl rfl ?_
            refine Eo.store hp195 1 rfl (storeCells_mk rfl rfl rfl rfl rfl rfl) rfl rfl rfl rfl rfl ?_
            intro σ198 hp197
            change Hp σ198 (.blk bq0 (.cells [(.v (.string p0_0)), (.v (.int .i64 (IntKind.wrap .i64 (y80 + 1)))), (.v (.int .i64 p0_2))] 50) :: .blk b3 (.cells [(.v (.int .i64 3)), (.v (.string x189)), (.v (.int .i64 0)), nilS] 34) :: R) at hp197
            refine Eo.nil ?_
            obtain rfl := Option.some.inj H
            refine Ec.ret ?_
            refine Fin.mk' (resA_cell hp197 1 rfl rfl rfl rfl) ?_
            exact ⟨nilS, rfl, Sl.nil, (Hp.front (Hp.appNil (Hp.drop hp197 1) 34) 1)⟩
        · have H := cond_f hc187 H
          refine Ec.skip ?_
          refine Ec.seq ?_
          refine Ec.seq ?_
          refine Ec.region ?_
          refine Eo.val (x := (.v (.int .u8 b186))) rfl rfl rfl rfl ?_
          refine Eo.val (x := (.v (.bool (b186 == 10)))) rfl rfl rfl rfl ?_
          refine Eo.nil ?_
          refine Ec.cond (t := (b186 == 10)) rfl (fun hc201 => ?_) (fun hc201 => ?_)
          · have H := cond_t hc201 H
            refine Ec.exit ?_
            obtain rfl := Option.some.inj H
            exact And.intro rfl ⟨(Hp.front (Hp.front hp0 1) 1), (.cons rfl (.cons rfl (.nil')))⟩
          · have H := cond_f hc201 H
            refine Ec.skip ?_
            refine Ec.seq ?_
            refine Ec.region ?_
            refine Eo.val (x := (.v (.int .u8 b186))) rfl rfl rfl rfl ?_
            refine Eo.val (x := (.v (.bool (decide (b186 < 32))))) rfl rfl rfl rfl ?_
            refine Eo.val (x := (.v (.bool (decide (b186 < 32))))) rfl rfl rfl rfl ?_
            refine Eo.cutF 3 [(0, (.ptr bq0 0)), (2, (.ptr b3 0)), (3, (.v (.int .i64 y80))), (53, (.v (.bool ((decide (b186 < 32)) || (decide (b186 > 126))))))] ?_ ?_
            · skip
              cases hc204 : (decide (b186 < 32))
              · skip
                refine Eo.val (x := (.v (.int .u8 b186))) rfl rfl rfl rfl ?_
                refine Eo.val (x := (.v (.bool (decide (b186 > 126))))) rfl rfl rfl rfl ?_
                refine Eo.val (x := (.v (.bool (decide (b186 > 126))))) rfl rfl rfl rfl ?_
                exact Eo.nil (And.intro rfl (And.intro rfl (.cons rfl (.cons rfl (.cons rfl (.cons rfl (.nil')))))))
              · skip
                refine Eo.off rfl rfl rfl ?_
                refine Eo.off rfl rfl rfl ?_
                refine Eo.val (x := (.v (.bool true))) rfl rfl rfl rfl ?_
                exact Eo.nil (And.intro rfl (And.intro rfl (.cons rfl (.cons rfl (.cons rfl (.cons rfl (.nil')))))))
            · skip
              refine Eo.nil ?_
              refine Ec.cond (t := ((decide (b186 < 32)) || (decide (b186 > 126)))) rfl (fun hc207 => ?_) (fun hc207 => ?_)
              · have H := cond_t hc207 H
                refine Ec.region ?_
                refine Eo.val (x := (.v (.int .i64 y80))) rfl rfl rfl rfl ?_
                obtain ⟨v210, hv211, H⟩ := bind_some H
                rcases v210 with r213 | p212
                · skip
                  refine Eo.callV (gsexp_wrong_ok hp0 hv211) rfl rfl rfl rfl ?_
                  rintro _ σ209 ⟨rfl, hp208⟩
                  change Hp σ209 (.blk bq0 (.cells [(.v (.string p0_0)), (.v (.int .i64 p0_1)), (.v (.int .i64 p0_2))] 50) :: .blk b3 (.cells [(.v (.int .i64 0)), (.v (.string (ByteArray.mk #[]))), (.v (.int .i64 0)), nilS] 34) :: R) at hp208
                  refine Eo.nil ?_
                  obtain rfl := Option.some.inj H
                  exact And.intro rfl ⟨(Hp.front (Hp.front hp208 1) 1), (.cons rfl (.cons rfl (.cons rfl (.nil'))))⟩
                · skip
                  refine Eo.callX (gsexp_wrong_ok hp0 hv211) rfl rfl ?_
                  intro σ215 hp214
                  obtain rfl := Option.some.inj H
                  exact Fin.pan (C := cfg) (fn := Tryd.f34) ⟨rfl, (Hp.drop (Hp.drop hp214 0) 0)⟩
              · have H := cond_f hc207 H
                refine Ec.skip ?_
                obtain rfl := Option.some.inj H
                exact And.intro rfl ⟨(Hp.front (Hp.front hp0 1) 1), (.cons rfl (.cons rfl (.cons rfl (.nil'))))⟩
      · rcases v227 with _ | _ | r224
        · intro x φ218 σ217 hJ
          obtain ⟨rfl, hp216, hf219⟩ := hJ
          refine Ec.of (F := [(0, (.ptr bq0 0)), (2, (.ptr b3 0)), (3, (.v (.int .i64 y80)))]) hf219 ?_
          refine Ec.region ?_
          refine Eo.val (x := (.v (.int .i64 y80))) rfl rfl rfl rfl ?_
          refine Eo.val (x := (.v (.int .i64 (IntKind.wrap .i64 (y80 + 1))))) rfl rfl rfl rfl ?_
          refine Eo.val (x := (.v (.int .i64 (IntKind.wrap .i64 (y80 + 1))))) rfl rfl rfl rfl ?_
          refine Eo.nil ?_
          exact Ec.of (.cons rfl (.cons rfl (.cons rfl (.nil')))) (ih ((IntKind.wrap .i64 (y80 + 1)), ()) _ (Hp.front (Hp.front hp216 1) 1) H)
        · intro x φ222 σ221 hJ
          obtain ⟨rfl, hp220, hf223⟩ := hJ
          obtain rfl := Option.some.inj H
          exact And.intro rfl ⟨(Hp.front (Hp.front hp220 1) 1), (Fl.trans (G := [(0, (.ptr bq0 0)), (2, (.ptr b3 0))]) (.cons rfl (.cons rfl (.nil'))) hf223)⟩
        · intro x φ225 σ226 hJ
          obtain rfl := Option.some.inj H
          cases x <;> first | exact hJ | exact hJ.elim
    · have H := cond_f hc155 H
      refine Ec.exit ?_
      obtain rfl := Option.some.inj H
      exact And.intro rfl ⟨(Hp.front (Hp.front hp0 1) 1), (.cons rfl (.cons rfl (.nil')))⟩
  · rcases v229 with _ | r245
    · intro x φ233 σ232 hJ
      obtain ⟨rfl, hp231, hf234⟩ := hJ
      refine Ec.of (F := [(0, (.ptr bq0 0)), (2, (.ptr b3 0))]) hf234 ?_
      refine Ec.seq ?_
      refine Ec.region ?_
      refine Eo.val (x := (.ptr bq0 0)) rfl rfl rfl rfl ?_
      refine Eo.val (x := (.ptr bq0 0)) rfl rfl rfl rfl ?_
      refine Eo.val (x := (.ptr bq0 1)) rfl rfl rfl rfl ?_
      refine Eo.val (x := (.v (.int .i64 p0_1))) (op_loadB hp231 0 rfl rfl rfl rfl) rfl rfl rfl ?_
      obtain ⟨v239, hv240, H⟩ := bind_some H
      rcases v239 with r242 | p241
      · skip
        refine Eo.callV (gsexp_wrong_ok hp231 hv240) rfl rfl rfl rfl ?_
        rintro _ σ236 ⟨rfl, hp235⟩
        change Hp σ236 (.blk bq0 (.cells [(.v (.string p0_0)), (.v (.int .i64 p0_1)), (.v (.int .i64 p0_2))] 50) :: .blk b3 (.cells [(.v (.int .i64 0)), (.v (.string (ByteArray.mk #[]))), (.v (.int .i64 0)), nilS] 34) :: R) at hp235
        refine Eo.nil ?_
        refine Ec.seq ?_
        refine Ec.region ?_
        refine Eo.val (x := (.agg [(.v (.int .i64 0)), (.v (.string (ByteArray.mk #[]))), (.v (.int .i64 0)), nilS])) (op_build lay_nil rfl rfl Tryd.underlying34 rfl rfl) rfl rfl rfl ?_
        refine Eo.store hp235 1 rfl (storeCells_mk rfl rfl rfl rfl rfl rfl) rfl rfl rfl rfl rfl ?_
        intro σ238 hp237
        change Hp σ238 (.blk bq0 (.cells [(.v (.string p0_0)), (.v (.int .i64 p0_1)), (.v (.int .i64 p0_2))] 50) :: .blk b3 (.cells [(.v (.int .i64 0)), (.v (.string (ByteArray.mk #[]))), (.v (.int .i64 0)), nilS] 34) :: R) at hp237
        refine Eo.nil ?_
        obtain rfl := Option.some.inj H
        refine Ec.ret ?_
        refine Fin.mk' (resA_cell hp237 1 rfl rfl rfl rfl) ?_
        exact ⟨nilS, rfl, Sl.nil, (Hp.front (Hp.appNil (Hp.drop hp237 1) 34) 1)⟩
      · skip
        refine Eo.callX (gsexp_wrong_ok hp231 hv240) rfl rfl ?_
        intro σ244 hp243
        obtain rfl := Option.some.inj H
        exact Fin.pan (C := cfg) (fn := Tryd.f34) ⟨rfl, (Hp.drop (Hp.drop hp243 0) 0)⟩
    · intro x φ246 σ247 hJ
      obtain rfl := Option.some.inj H
      cases x <;> first | exact hJ | exact hJ.elim

def gsexp_parser__counted (_n : Nat) (_p0_0 : ByteArray) (_p0_1 : Int) (p0_2 : Int) (p1 : Int) : Option ((PR Int Tsexp_fault)) := (((cond (decide ((IntKind.wrap .i64 (p0_2 + 1)) > 65536)) (some (.ret (.pan (Tsexp_fault.mk p1 33)))) (some (.out ()))) : Option (LR Unit (PR Int Tsexp_fault))).bind fun v => match v with | .out _ => some (.val (IntKind.wrap .i64 (p0_2 + 1))) | .ret r9 => some r9)

def gsexp_parser__counted_post (bq0 : Nat) (p0_0 : ByteArray) (p0_1 : Int) (R : List Res) (r : (PR Int Tsexp_fault)) : Out → St → Prop := match r with | .val r => OutV (fun x s => x = (.tup []) ∧ Hp s (.blk bq0 (.cells [(.v (.string p0_0)), (.v (.int .i64 p0_1)), (.v (.int .i64 r))] 50) :: R)) | .pan p => OutP (.ifc 47 (.agg [(.v (.int .i64 p.f_at)), (.v (.int .i64 p.f_e))])) R

theorem gsexp_parser__counted_ok {n : Nat} {bq0 : Nat} {p0_0 : ByteArray} {p0_1 : Int} {p0_2 : Int} {p1 : Int} {R : List Res} {σ : St} (hp : Hp σ (.blk bq0 (.cells [(.v (.string p0_0)), (.v (.int .i64 p0_1)), (.v (.int .i64 p0_2))] 50) :: R)) {r : (PR Int Tsexp_fault)} (H : gsexp_parser__counted n p0_0 p0_1 p0_2 p1 = some r) : CaO cfg 35 [(.ptr bq0 0), (.v (.int .i64 p1))] σ (gsexp_parser__counted_post bq0 p0_0 p0_1 R r) := by
  unfold gsexp_parser__counted at H
  refine CaO.enterL (G := [(0, (.ptr bq0 0)), (1, (.v (.int .i64 p1)))]) Tryd.func35 rfl rfl rfl rfl ?_
  refine Ec.seq ?_
  refine Ec.region ?_
  refine Eo.val (x := (.ptr bq0 0)) rfl rfl rfl rfl ?_
  refine Eo.val (x := (.ptr bq0 0)) rfl rfl rfl rfl ?_
  refine Eo.val (x := (.ptr bq0 2)) rfl rfl rfl rfl ?_
  refine Eo.val (x := (.v (.int .i64 p0_2))) (op_loadB hp 0 rfl rfl rfl rfl) rfl rfl rfl ?_
  refine Eo.val (x := (.v (.int .i64 (IntKind.wrap .i64 (p0_2 + 1))))) rfl rfl rfl rfl ?_
  refine Eo.val (x := (.ptr bq0 0)) rfl rfl rfl rfl ?_
  refine Eo.val (x := (.ptr bq0 2)) rfl rfl rfl rfl ?_
  refine Eo.store hp 0 rfl (storeCells_mk rfl rfl rfl rfl rfl rfl) rfl rfl rfl rfl rfl ?_
  intro σ2 hp1
  change Hp σ2 (.blk bq0 (.cells [(.v (.string p0_0)), (.v (.int .i64 p0_1)), (.v (.int .i64 (IntKind.wrap .i64 (p0_2 + 1))))] 50) :: R) at hp1
  refine Eo.nil ?_
  refine Ec.seq ?_
  refine Ec.region ?_
  refine Eo.val (x := (.ptr bq0 0)) rfl rfl rfl rfl ?_
  refine Eo.val (x := (.ptr bq0 0)) rfl rfl rfl rfl ?_
  refine Eo.val (x := (.ptr bq0 2)) rfl rfl rfl rfl ?_
  refine Eo.val (x := (.v (.int .i64 (IntKind.wrap .i64 (p0_2 + 1))))) (op_loadB hp1 0 rfl rfl rfl rfl) rfl rfl rfl ?_
  refine Eo.val (x := (.v (.bool (decide ((IntKind.wrap .i64 (p0_2 + 1)) > 65536))))) rfl rfl rfl rfl ?_
  refine Eo.nil ?_
  obtain ⟨v12, hv13, H⟩ := bind_some H
  refine Ec.cut (J := (fun (v : LR Unit (PR Int Tsexp_fault)) (x : X) (φ : Fr) (s : St) => match v with | .out _ => x = .normal ∧ (Hp s (.blk bq0 (.cells [(.v (.string p0_0)), (.v (.int .i64 p0_1)), (.v (.int .i64 (IntKind.wrap .i64 (p0_2 + 1))))] 50) :: R) ∧ Fl [] φ) | .ret r => FinR cfg Tryd.f35 (gsexp_parser__counted_post bq0 p0_0 p0_1 R r) x φ s) v12) ?_ ?_
  · have H := hv13
    refine Ec.cond (t := (decide ((IntKind.wrap .i64 (p0_2 + 1)) > 65536))) rfl (fun hc4 => ?_) (fun hc4 => ?_)
    · have H := cond_t hc4 H
      refine Ec.region ?_
      refine Eo.val (x := (.v (.int .i64 p1))) rfl rfl rfl rfl ?_
      refine Eo.val (x := (.agg [(.v (.int .i64 p1)), (.v (.int .i64 33))])) (op_build (lay_cons rfl rfl rfl rfl rfl (lay_cons rfl rfl rfl rfl rfl lay_nil)) rfl (parts_cons rfl rfl (parts_cons rfl rfl rfl)) Tryd.underlying47 rfl rfl) rfl rfl rfl ?_
      refine Eo.val (x := (.ifc 47 (.agg [(.v (.int .i64 p1)), (.v (.int .i64 33))]))) (op_iface rfl rfl Tryd.underlying47 rfl) rfl rfl rfl ?_
      refine Eo.panic rfl rfl rfl ?_
      obtain rfl := Option.some.inj H
      exact Fin.pan (C := cfg) (fn := Tryd.f35) ⟨rfl, (Hp.drop hp1 0)⟩
    · have H := cond_f hc4 H
      refine Ec.skip ?_
      obtain rfl := Option.some.inj H
      exact And.intro rfl ⟨hp1, (.nil')⟩
  · rcases v12 with _ | r9
    · intro x φ7 σ6 hJ
      obtain ⟨rfl, hp5, hf8⟩ := hJ
      obtain rfl := Option.some.inj H
      refine Fin.mkNφ (C := cfg) (fn := Tryd.f35) hf8 rfl ?_
      exact ⟨rfl, hp5⟩
    · intro x φ10 σ11 hJ
      obtain rfl := Option.some.inj H
      cases x <;> first | exact hJ | exact hJ.elim

def gsexp_within (_n : Nat) (p0 : Int) : Option (Bool) := (((cond ((decide (p0 > 32)) && (decide (p0 < 127))) (((containsRuneT (ByteArray.mk #[40, 41, 34, 59]) (IntKind.wrap .i32 p0)).bind fun r12 => some (!r12))) (some false)) : Option (Bool)).bind fun x10 => some x10)

def gsexp_within_post (R : List Res) (r : Bool) (x : A) (s : St) : Prop := x = (.v (.bool r)) ∧ Hp s (R)

theorem gsexp_within_ok {n : Nat} {p0 : Int} {R : List Res} {σ : St} (hp : Hp σ R) {r : Bool} (H : gsexp_within n p0 = some r) : Ca cfg 42 [(.v (.int .u8 p0))] σ (gsexp_within_post R r) := by
  unfold gsexp_within at H
  refine Ca.enterL (G := [(0, (.v (.int .u8 p0)))]) Tryd.func42 rfl rfl rfl rfl ?_
  refine Ec.seq ?_
  refine Ec.region ?_
  refine Eo.val (x := (.v (.bool false))) rfl rfl rfl rfl ?_
  refine Eo.nil ?_
  refine Ec.seq ?_
  refine Ec.region ?_
  refine Eo.val (x := (.v (.int .u8 p0))) rfl rfl rfl rfl ?_
  refine Eo.val (x := (.v (.bool (decide (p0 > 32))))) rfl rfl rfl rfl ?_
  refine Eo.val (x := (.v (.bool (decide (p0 > 32))))) rfl rfl rfl rfl ?_
  refine Eo.cutF 3 [(0, (.v (.int .u8 p0))), (2, (.v (.bool false))), (8, (.v (.bool ((decide (p0 > 32)) && (decide (p0 < 127))))))] ?_ ?_
  · skip
    cases hc3 : (decide (p0 > 32))
    · skip
      refine Eo.off rfl rfl rfl ?_
      refine Eo.off rfl rfl rfl ?_
      refine Eo.val (x := (.v (.bool false))) rfl rfl rfl rfl ?_
      exact Eo.nil (And.intro rfl (And.intro rfl (.cons rfl (.cons rfl (.cons rfl (.nil'))))))
    · skip
      refine Eo.val (x := (.v (.int .u8 p0))) rfl rfl rfl rfl ?_
      refine Eo.val (x := (.v (.bool (decide (p0 < 127))))) rfl rfl rfl rfl ?_
      refine Eo.val (x := (.v (.bool (decide (p0 < 127))))) rfl rfl rfl rfl ?_
      exact Eo.nil (And.intro rfl (And.intro rfl (.cons rfl (.cons rfl (.cons rfl (.nil'))))))
  · skip
    refine Eo.val (x := (.v (.bool ((decide (p0 > 32)) && (decide (p0 < 127)))))) rfl rfl rfl rfl ?_
    obtain ⟨x10, hv20, H⟩ := bind_some H
    refine Eo.cutN 5 (J := (fun (x10 : Bool) (x : X) (φ : Fr) (s : St) => x = .normal ∧ (Hp s (R) ∧ Fl [(2, (.v (.bool false))), (14, (.v (.bool x10)))] φ)) x10) ?_ ?_
    · have H := hv20
      cases hc11 : ((decide (p0 > 32)) && (decide (p0 < 127)))
      · have H := cond_f hc11 H
        refine Eo.off rfl rfl rfl ?_
        refine Eo.off rfl rfl rfl ?_
        refine Eo.off rfl rfl rfl ?_
        refine Eo.off rfl rfl rfl ?_
        refine Eo.val (x := (.v (.bool false))) rfl rfl rfl rfl ?_
        refine Eo.nil ?_
        obtain rfl := Option.some.inj H
        exact And.intro rfl ⟨hp, (.cons rfl (.cons rfl (.nil')))⟩
      · have H := cond_t hc11 H
        refine Eo.val (x := (.v (.int .u8 p0))) rfl rfl rfl rfl ?_
        refine Eo.val (x := (.v (.int .i32 (IntKind.wrap .i32 p0)))) rfl rfl rfl rfl ?_
        obtain ⟨r12, hvr12, H⟩ := bind_some H
        refine Eo.call rfl rfl rfl rfl (prim51_ok hp hvr12) ?_
        rintro _ σ14 ⟨rfl, hp13⟩
        refine Eo.val (x := (.v (.bool (!r12)))) rfl rfl rfl rfl ?_
        refine Eo.val (x := (.v (.bool (!r12)))) rfl rfl rfl rfl ?_
        refine Eo.nil ?_
        obtain rfl := Option.some.inj H
        exact And.intro rfl ⟨hp13, (.cons rfl (.cons rfl (.nil')))⟩
    · skip
      intro x φ17 σ16 hJ
      obtain ⟨rfl, hp15, hf18⟩ := hJ
      refine ⟨rfl, Eo.of (F := [(2, (.v (.bool false))), (14, (.v (.bool x10)))]) hf18 ?_⟩
      refine Eo.val (x := (.v (.bool x10))) rfl rfl rfl rfl ?_
      refine Eo.nil ?_
      obtain rfl := Option.some.inj H
      refine Ec.ret ?_
      refine Ret.mk rfl ?_
      exact ⟨rfl, hp15⟩

def gsexp_numeric (_n : Nat) (p0 : ByteArray) : Option (Bool) := ((atS p0 0).bind fun b1 => (((cond (b1 == 45) (some true) (((atS p0 0).bind fun b8 => (cond (decide (b8 ≥ 48)) (((atS p0 0).bind fun b10 => some (decide (b10 ≤ 57)))) (some false))))) : Option (Bool)).bind fun x6 => some x6))

def gsexp_numeric_post (R : List Res) (r : Bool) (x : A) (s : St) : Prop := x = (.v (.bool r)) ∧ Hp s (R)

theorem gsexp_numeric_ok {n : Nat} {p0 : ByteArray} {R : List Res} {σ : St} (hp : Hp σ R) {r : Bool} (H : gsexp_numeric n p0 = some r) : Ca cfg 43 [(.v (.string p0))] σ (gsexp_numeric_post R r) := by
  unfold gsexp_numeric at H
  refine Ca.enterL (G := [(0, (.v (.string p0)))]) Tryd.func43 rfl rfl rfl rfl ?_
  refine Ec.seq ?_
  refine Ec.region ?_
  refine Eo.val (x := (.v (.bool false))) rfl rfl rfl rfl ?_
  refine Eo.nil ?_
  refine Ec.seq ?_
  refine Ec.region ?_
  refine Eo.val (x := (.v (.string p0))) rfl rfl rfl rfl ?_
  obtain ⟨b1, hvb1, H⟩ := bind_some H
  refine Eo.val (op_byteS hvb1 rfl rfl rfl Tryd.underlying9) rfl rfl rfl ?_
  refine Eo.val (x := (.v (.bool (b1 == 45)))) rfl rfl rfl rfl ?_
  refine Eo.val (x := (.v (.bool (b1 == 45)))) rfl rfl rfl rfl ?_
  obtain ⟨x6, hv16, H⟩ := bind_some H
  refine Eo.cutN 9 (J := (fun (x6 : Bool) (x : X) (φ : Fr) (s : St) => x = .normal ∧ (Hp s (R) ∧ Fl [(2, (.v (.bool false))), (15, (.v (.bool x6)))] φ)) x6) ?_ ?_
  · have H := hv16
    cases hc7 : (b1 == 45)
    · have H := cond_f hc7 H
      refine Eo.val (x := (.v (.string p0))) rfl rfl rfl rfl ?_
      obtain ⟨b8, hvb8, H⟩ := bind_some H
      refine Eo.val (op_byteS hvb8 rfl rfl rfl Tryd.underlying9) rfl rfl rfl ?_
      refine Eo.val (x := (.v (.bool (decide (b8 ≥ 48))))) rfl rfl rfl rfl ?_
      refine Eo.val (x := (.v (.bool (decide (b8 ≥ 48))))) rfl rfl rfl rfl ?_
      cases hc9 : (decide (b8 ≥ 48))
      · have H := cond_f hc9 H
        refine Eo.off rfl rfl rfl ?_
        refine Eo.off rfl rfl rfl ?_
        refine Eo.off rfl rfl rfl ?_
        refine Eo.val (x := (.v (.bool false))) rfl rfl rfl rfl ?_
        refine Eo.val (x := (.v (.bool false))) rfl rfl rfl rfl ?_
        refine Eo.nil ?_
        obtain rfl := Option.some.inj H
        exact And.intro rfl ⟨hp, (.cons rfl (.cons rfl (.nil')))⟩
      · have H := cond_t hc9 H
        refine Eo.val (x := (.v (.string p0))) rfl rfl rfl rfl ?_
        obtain ⟨b10, hvb10, H⟩ := bind_some H
        refine Eo.val (op_byteS hvb10 rfl rfl rfl Tryd.underlying9) rfl rfl rfl ?_
        refine Eo.val (x := (.v (.bool (decide (b10 ≤ 57))))) rfl rfl rfl rfl ?_
        refine Eo.val (x := (.v (.bool (decide (b10 ≤ 57))))) rfl rfl rfl rfl ?_
        refine Eo.val (x := (.v (.bool (decide (b10 ≤ 57))))) rfl rfl rfl rfl ?_
        refine Eo.nil ?_
        obtain rfl := Option.some.inj H
        exact And.intro rfl ⟨hp, (.cons rfl (.cons rfl (.nil')))⟩
    · have H := cond_t hc7 H
      refine Eo.off rfl rfl rfl ?_
      refine Eo.off rfl rfl rfl ?_
      refine Eo.off rfl rfl rfl ?_
      refine Eo.off rfl rfl rfl ?_
      refine Eo.off rfl rfl rfl ?_
      refine Eo.off rfl rfl rfl ?_
      refine Eo.off rfl rfl rfl ?_
      refine Eo.off rfl rfl rfl ?_
      refine Eo.val (x := (.v (.bool true))) rfl rfl rfl rfl ?_
      refine Eo.nil ?_
      obtain rfl := Option.some.inj H
      exact And.intro rfl ⟨hp, (.cons rfl (.cons rfl (.nil')))⟩
  · skip
    intro x φ13 σ12 hJ
    obtain ⟨rfl, hp11, hf14⟩ := hJ
    refine ⟨rfl, Eo.of (F := [(2, (.v (.bool false))), (15, (.v (.bool x6)))]) hf14 ?_⟩
    refine Eo.val (x := (.v (.bool x6))) rfl rfl rfl rfl ?_
    refine Eo.nil ?_
    obtain rfl := Option.some.inj H
    refine Ec.ret ?_
    refine Ret.mk rfl ?_
    exact ⟨rfl, hp11⟩

def gsexp_number (_n : Nat) (p0 : ByteArray) : Option ((Int × Bool)) := ((atoiT p0).bind fun v => match v with | (r2, r3) => (((cond (((!r3) && (decide (r2 ≥ (-999999999999999999)))) && (decide (r2 ≤ 999999999999999999))) (((itoaT r2).bind fun r22 => some (decide (r22 = p0)))) (some false)) : Option (Bool)).bind fun x20 => some (r2, x20)))

def gsexp_number_post (R : List Res) (r : (Int × Bool)) (x : A) (s : St) : Prop := x = (.tup [(.v (.int .i64 r.1)), (.v (.bool r.2))]) ∧ Hp s (R)

theorem gsexp_number_ok {n : Nat} {p0 : ByteArray} {R : List Res} {σ : St} (hp : Hp σ R) {r : (Int × Bool)} (H : gsexp_number n p0 = some r) : Ca cfg 49 [(.v (.string p0))] σ (gsexp_number_post R r) := by
  unfold gsexp_number at H
  refine Ca.enterL (G := [(0, (.v (.string p0)))]) Tryd.func49 rfl rfl rfl rfl ?_
  refine Ec.seq ?_
  refine Ec.region ?_
  refine Eo.val (x := (.v (.int .i64 0))) rfl rfl rfl rfl ?_
  refine Eo.val (x := (.v (.bool false))) rfl rfl rfl rfl ?_
  refine Eo.nil ?_
  refine Ec.seq ?_
  refine Ec.region ?_
  refine Eo.val (x := (.v (.string p0))) rfl rfl rfl rfl ?_
  obtain ⟨r1, hvr1, H⟩ := bind_some H
  refine Eo.call rfl rfl rfl rfl (prim55_ok hp hvr1) ?_
  obtain ⟨r2, r3⟩ := r1
  rintro _ σ5 ⟨rfl, hp4⟩
  refine Eo.val (x := (.tup [(.v (.int .i64 r2)), (errA 99 r3)])) rfl rfl rfl rfl ?_
  refine Eo.val (x := (.v (.int .i64 r2))) rfl rfl rfl rfl ?_
  refine Eo.val (x := (errA 99 r3)) rfl rfl rfl rfl ?_
  refine Eo.val (x := (.v (.int .i64 r2))) rfl rfl rfl rfl ?_
  refine Eo.val (x := (errA 99 r3)) rfl rfl rfl rfl ?_
  refine Eo.nil ?_
  refine Ec.seq ?_
  refine Ec.region ?_
  refine Eo.val (x := (.v (.int .i64 r2))) rfl rfl rfl rfl ?_
  refine Eo.val (x := (errA 99 r3)) rfl rfl rfl rfl ?_
  refine Eo.val (x := (.v (.bool (!r3)))) (op_eqErr rfl rfl rfl Tryd.underlying62 rfl) rfl rfl rfl ?_
  refine Eo.val (x := (.v (.bool (!r3)))) rfl rfl rfl rfl ?_
  refine Eo.cutF 3 [(0, (.v (.string p0))), (2, (.v (.int .i64 0))), (3, (.v (.bool false))), (4, (.v (.int .i64 r2))), (11, (.v (.int .i64 r2))), (17, (.v (.bool ((!r3) && (decide (r2 ≥ (-999999999999999999)))))))] ?_ ?_
  · skip
    cases hc8 : (!r3)
    · skip
      refine Eo.off rfl rfl rfl ?_
      refine Eo.off rfl rfl rfl ?_
      refine Eo.val (x := (.v (.bool false))) rfl rfl rfl rfl ?_
      exact Eo.nil (And.intro rfl (And.intro rfl (.cons rfl (.cons rfl (.cons rfl (.cons rfl (.cons rfl (.cons rfl (.nil')))))))))
    · skip
      refine Eo.val (x := (.v (.int .i64 r2))) rfl rfl rfl rfl ?_
      refine Eo.val (x := (.v (.bool (decide (r2 ≥ (-999999999999999999)))))) rfl rfl rfl rfl ?_
      refine Eo.val (x := (.v (.bool (decide (r2 ≥ (-999999999999999999)))))) rfl rfl rfl rfl ?_
      exact Eo.nil (And.intro rfl (And.intro rfl (.cons rfl (.cons rfl (.cons rfl (.cons rfl (.cons rfl (.cons rfl (.nil')))))))))
  · skip
    refine Eo.val (x := (.v (.bool ((!r3) && (decide (r2 ≥ (-999999999999999999))))))) rfl rfl rfl rfl ?_
    refine Eo.cutF 3 [(0, (.v (.string p0))), (2, (.v (.int .i64 0))), (3, (.v (.bool false))), (4, (.v (.int .i64 r2))), (11, (.v (.int .i64 r2))), (21, (.v (.bool (((!r3) && (decide (r2 ≥ (-999999999999999999)))) && (decide (r2 ≤ 999999999999999999))))))] ?_ ?_
    · skip
      cases hc13 : ((!r3) && (decide (r2 ≥ (-999999999999999999))))
      · skip
        refine Eo.off rfl rfl rfl ?_
        refine Eo.off rfl rfl rfl ?_
        refine Eo.val (x := (.v (.bool false))) rfl rfl rfl rfl ?_
        exact Eo.nil (And.intro rfl (And.intro rfl (.cons rfl (.cons rfl (.cons rfl (.cons rfl (.cons rfl (.cons rfl (.nil')))))))))
      · skip
        refine Eo.val (x := (.v (.int .i64 r2))) rfl rfl rfl rfl ?_
        refine Eo.val (x := (.v (.bool (decide (r2 ≤ 999999999999999999))))) rfl rfl rfl rfl ?_
        refine Eo.val (x := (.v (.bool (decide (r2 ≤ 999999999999999999))))) rfl rfl rfl rfl ?_
        exact Eo.nil (And.intro rfl (And.intro rfl (.cons rfl (.cons rfl (.cons rfl (.cons rfl (.cons rfl (.cons rfl (.nil')))))))))
    · skip
      refine Eo.val (x := (.v (.bool (((!r3) && (decide (r2 ≥ (-999999999999999999)))) && (decide (r2 ≤ 999999999999999999)))))) rfl rfl rfl rfl ?_
      obtain ⟨x20, hv30, H⟩ := bind_some H
      refine Eo.cutN 5 (J := (fun (x20 : Bool) (x : X) (φ : Fr) (s : St) => x = .normal ∧ (Hp s (R) ∧ Fl [(2, (.v (.int .i64 0))), (3, (.v (.bool false))), (11, (.v (.int .i64 r2))), (27, (.v (.bool x20)))] φ)) x20) ?_ ?_
      · have H := hv30
        cases hc21 : (((!r3) && (decide (r2 ≥ (-999999999999999999)))) && (decide (r2 ≤ 999999999999999999)))
        · have H := cond_f hc21 H
          refine Eo.off rfl rfl rfl ?_
          refine Eo.off rfl rfl rfl ?_
          refine Eo.off rfl rfl rfl ?_
          refine Eo.off rfl rfl rfl ?_
          refine Eo.val (x := (.v (.bool false))) rfl rfl rfl rfl ?_
          refine Eo.nil ?_
          obtain rfl := Option.some.inj H
          exact And.intro rfl ⟨hp4, (.cons rfl (.cons rfl (.cons rfl (.cons rfl (.nil')))))⟩
        · have H := cond_t hc21 H
          refine Eo.val (x := (.v (.int .i64 r2))) rfl rfl rfl rfl ?_
          obtain ⟨r22, hvr22, H⟩ := bind_some H
          refine Eo.call rfl rfl rfl rfl (prim46_ok hp4 hvr22) ?_
          rintro _ σ24 ⟨rfl, hp23⟩
          refine Eo.val (x := (.v (.string p0))) rfl rfl rfl rfl ?_
          refine Eo.val (x := (.v (.bool (decide (r22 = p0))))) (val_b rfl (seq_eq _ _)) rfl rfl rfl ?_
          refine Eo.val (x := (.v (.bool (decide (r22 = p0))))) rfl rfl rfl rfl ?_
          refine Eo.nil ?_
          obtain rfl := Option.some.inj H
          exact And.intro rfl ⟨hp23, (.cons rfl (.cons rfl (.cons rfl (.cons rfl (.nil')))))⟩
      · skip
        intro x φ27 σ26 hJ
        obtain ⟨rfl, hp25, hf28⟩ := hJ
        refine ⟨rfl, Eo.of (F := [(2, (.v (.int .i64 0))), (3, (.v (.bool false))), (11, (.v (.int .i64 r2))), (27, (.v (.bool x20)))]) hf28 ?_⟩
        refine Eo.val (x := (.v (.int .i64 r2))) rfl rfl rfl rfl ?_
        refine Eo.val (x := (.v (.bool x20))) rfl rfl rfl rfl ?_
        refine Eo.nil ?_
        obtain rfl := Option.some.inj H
        refine Ec.ret ?_
        refine Ret.mk rfl ?_
        exact ⟨rfl, hp25⟩

def gsexp_parser__run_L1 (N : Nat) (p0_0 : ByteArray) : Nat → Int → Option (Int)
  | 0, _ => none
  | m + 1, y24 => (((cond (decide (y24 < ((p0_0.size : Nat) : Int))) (((atS p0_0 y24).bind fun b51 => ((gsexp_within N b51).bind fun r52 => some r52))) (some false)) : Option (Bool)).bind fun x49 => (cond x49 (gsexp_parser__run_L1 N p0_0 m (IntKind.wrap .i64 (y24 + 1))) (some y24)))

def gsexp_parser__run (n : Nat) (p0_0 : ByteArray) (p0_1 : Int) (_p0_2 : Int) : Option ((PR (TTree × Int) Tsexp_fault)) := ((gsexp_parser__run_L1 n p0_0 n p0_1).bind fun x43 => ((((subS p0_0 p0_1 x43).bind fun s70 => some s70) : Option (ByteArray)).bind fun x69 => (((cond (decide (x69 = (ByteArray.mk #[]))) (((gsexp_wrong n p0_1).bind fun v => match v with | .val _ => some (.out ()) | .pan p89 => some (.ret (.pan p89)))) (some (.out ()))) : Option (LR Unit (PR (TTree × Int) Tsexp_fault))).bind fun v => match v with | .out _ => ((gsexp_numeric n x69).bind fun r97 => (cond (!r97) (some (.val ((TTree.mk 1 x69 0 ([] : List TTree)), x43))) (((gsexp_number n x69).bind fun v => match v with | (r106, r107) => (((cond (!r107) (((gsexp_wrong n p0_1).bind fun v => match v with | .val _ => some (.out ()) | .pan p124 => some (.ret (.pan p124)))) (some (.out ()))) : Option (LR Unit (PR (TTree × Int) Tsexp_fault))).bind fun v => match v with | .out _ => some (.val ((TTree.mk 2 (ByteArray.mk #[]) r106 ([] : List TTree)), x43)) | .ret r136 => some r136))))) | .ret r141 => some r141)))

def gsexp_parser__run_post (bq0 : Nat) (p0_0 : ByteArray) (p0_2 : Int) (R : List Res) (r : (PR (TTree × Int) Tsexp_fault)) : Out → St → Prop := match r with | .val r => OutV (fun x s => ∃ (a1 : A), x = (.agg [(.v (.int .i64 r.1.f_Kind)), (.v (.string r.1.f_Word)), (.v (.int .i64 r.1.f_Num)), a1]) ∧ Sl rTTree a1 r.1.f_Kids ∧ Hp s (.blk bq0 (.cells [(.v (.string p0_0)), (.v (.int .i64 r.2)), (.v (.int .i64 p0_2))] 50) :: .app a1 34 :: R)) | .pan p => OutP (.ifc 47 (.agg [(.v (.int .i64 p.f_at)), (.v (.int .i64 p.f_e))])) R

theorem gsexp_parser__run_ok {n : Nat} {bq0 : Nat} {p0_0 : ByteArray} {p0_1 : Int} {p0_2 : Int} {R : List Res} {σ : St} (hp : Hp σ (.blk bq0 (.cells [(.v (.string p0_0)), (.v (.int .i64 p0_1)), (.v (.int .i64 p0_2))] 50) :: R)) {r : (PR (TTree × Int) Tsexp_fault)} (H : gsexp_parser__run n p0_0 p0_1 p0_2 = some r) : CaO cfg 36 [(.ptr bq0 0)] σ (gsexp_parser__run_post bq0 p0_0 p0_2 R r) := by
  unfold gsexp_parser__run at H
  refine CaO.enterL (G := [(0, (.ptr bq0 0))]) Tryd.func36 rfl rfl rfl rfl ?_
  refine Ec.seq ?_
  refine Ec.region ?_
  refine Eo.alloc (z := [(.v (.int .i64 0)), (.v (.string (ByteArray.mk #[]))), (.v (.int .i64 0)), nilS]) hp rfl rfl rfl rfl rfl ?_
  intro b3 σ5 hp4
  refine Eo.nil ?_
  refine Ec.seq ?_
  refine Ec.region ?_
  refine Eo.val (x := (.ptr bq0 0)) rfl rfl rfl rfl ?_
  refine Eo.val (x := (.ptr bq0 0)) rfl rfl rfl rfl ?_
  refine Eo.val (x := (.ptr bq0 1)) rfl rfl rfl rfl ?_
  refine Eo.val (x := (.v (.int .i64 p0_1))) (op_loadB hp4 1 rfl rfl rfl rfl) rfl rfl rfl ?_
  refine Eo.val (x := (.v (.int .i64 p0_1))) rfl rfl rfl rfl ?_
  refine Eo.nil ?_
  refine Ec.seq ?_
  refine Ec.block ?_
  obtain ⟨x43, hv63, H⟩ := bind_some H
  refine Ec.cut (J := (fun (x43 : Int) (x : X) (φ : Fr) (s : St) => x = (.exit 0) ∧ (Hp s (.blk bq0 (.cells [(.v (.string p0_0)), (.v (.int .i64 p0_1)), (.v (.int .i64 p0_2))] 50) :: .blk b3 (.cells [(.v (.int .i64 0)), (.v (.string (ByteArray.mk #[]))), (.v (.int .i64 0)), nilS] 34) :: R) ∧ Fl [(0, (.ptr bq0 0)), (2, (.ptr b3 0)), (3, (.v (.int .i64 x43)))] φ)) x43) (Ec.weak (.cons rfl (.cons rfl (.cons rfl (.nil')))) (Ec.loopF (f := (fun m (i : Int × Unit) => gsexp_parser__run_L1 n p0_0 m i.1)) (G := (fun (i : Int × Unit) => ([(0, (.ptr bq0 0)), (2, (.ptr b3 0)), (3, (.v (.int .i64 i.1)))] : List (Nat × A)))) (I := (fun (i : Int × Unit) (s : St) => Hp s (.blk bq0 (.cells [(.v (.string p0_0)), (.v (.int .i64 p0_1)), (.v (.int .i64 p0_2))] 50) :: .blk b3 (.cells [(.v (.int .i64 0)), (.v (.string (ByteArray.mk #[]))), (.v (.int .i64 0)), nilS] 34) :: R))) (J := (fun (x43 : Int) (x : X) (φ : Fr) (s : St) => x = (.exit 0) ∧ (Hp s (.blk bq0 (.cells [(.v (.string p0_0)), (.v (.int .i64 p0_1)), (.v (.int .i64 p0_2))] 50) :: .blk b3 (.cells [(.v (.int .i64 0)), (.v (.string (ByteArray.mk #[]))), (.v (.int .i64 0)), nilS] 34) :: R) ∧ Fl [(0, (.ptr bq0 0)), (2, (.ptr b3 0)), (3, (.v (.int .i64 x43)))] φ))) (fun _ => rfl) ?_ n (p0_1, ()) _ x43 (Hp.front hp4 1) hv63)) ?_
  · rintro m ⟨y24, _⟩ σ0 v hp0 H ih
    change gsexp_parser__run_L1 n p0_0 (m + 1) y24 = some v at H
    rw [gsexp_parser__run_L1] at H
    change Ec _ _ _ [(0, (.ptr bq0 0)), (2, (.ptr b3 0)), (3, (.v (.int .i64 y24)))] σ0 _
    refine Ec.seq ?_
    refine Ec.seq ?_
    refine Ec.region ?_
    refine Eo.val (x := (.v (.int .i64 y24))) rfl rfl rfl rfl ?_
    refine Eo.val (x := (.ptr bq0 0)) rfl rfl rfl rfl ?_
    refine Eo.val (x := (.ptr bq0 0)) rfl rfl rfl rfl ?_
    refine Eo.val (x := (.ptr bq0 0)) rfl rfl rfl rfl ?_
    refine Eo.val (x := (.v (.string p0_0))) (op_loadB hp0 0 rfl rfl rfl rfl) rfl rfl rfl ?_
    refine Eo.val (x := (.v (.int .i64 ((p0_0.size : Nat) : Int)))) (op_len rfl rfl rfl rfl rfl Tryd.underlying9) rfl rfl rfl ?_
    refine Eo.val (x := (.v (.bool (decide (y24 < ((p0_0.size : Nat) : Int)))))) rfl rfl rfl rfl ?_
    refine Eo.val (x := (.v (.bool (decide (y24 < ((p0_0.size : Nat) : Int)))))) rfl rfl rfl rfl ?_
    obtain ⟨x49, hv61, H⟩ := bind_some H
    refine Eo.cutN 8 (J := (fun (x49 : Bool) (x : X) (φ : Fr) (s : St) => x = .normal ∧ (Hp s (.blk bq0 (.cells [(.v (.string p0_0)), (.v (.int .i64 p0_1)), (.v (.int .i64 p0_2))] 50) :: .blk b3 (.cells [(.v (.int .i64 0)), (.v (.string (ByteArray.mk #[]))), (.v (.int .i64 0)), nilS] 34) :: R) ∧ Fl [(0, (.ptr bq0 0)), (2, (.ptr b3 0)), (3, (.v (.int .i64 y24))), (26, (.v (.bool x49)))] φ)) x49) ?_ ?_
    · have H := hv61
      cases hc50 : (decide (y24 < ((p0_0.size : Nat) : Int)))
      · have H := cond_f hc50 H
        refine Eo.off rfl rfl rfl ?_
        refine Eo.off rfl rfl rfl ?_
        refine Eo.off rfl rfl rfl ?_
        refine Eo.off rfl rfl rfl ?_
        refine Eo.off rfl rfl rfl ?_
        refine Eo.off rfl rfl rfl ?_
        refine Eo.off rfl rfl rfl ?_
        refine Eo.val (x := (.v (.bool false))) rfl rfl rfl rfl ?_
        refine Eo.nil ?_
        obtain rfl := Option.some.inj H
        exact And.intro rfl ⟨(Hp.front (Hp.front hp0 1) 1), (.cons rfl (.cons rfl (.cons rfl (.cons rfl (.nil')))))⟩
      · have H := cond_t hc50 H
        refine Eo.val (x := (.ptr bq0 0)) rfl rfl rfl rfl ?_
        refine Eo.val (x := (.ptr bq0 0)) rfl rfl rfl rfl ?_
        refine Eo.val (x := (.ptr bq0 0)) rfl rfl rfl rfl ?_
        refine Eo.val (x := (.v (.string p0_0))) (op_loadB hp0 0 rfl rfl rfl rfl) rfl rfl rfl ?_
        refine Eo.val (x := (.v (.int .i64 y24))) rfl rfl rfl rfl ?_
        obtain ⟨b51, hvb51, H⟩ := bind_some H
        refine Eo.val (op_byteS hvb51 rfl rfl rfl Tryd.underlying9) rfl rfl rfl ?_
        obtain ⟨r52, hvr52, H⟩ := bind_some H
        refine Eo.call rfl rfl rfl rfl (gsexp_within_ok hp0 hvr52) ?_
        rintro _ σ54 ⟨rfl, hp53⟩
        refine Eo.val (x := (.v (.bool r52))) rfl rfl rfl rfl ?_
        refine Eo.nil ?_
        obtain rfl := Option.some.inj H
        exact And.intro rfl ⟨(Hp.front (Hp.front hp53 1) 1), (.cons rfl (.cons rfl (.cons rfl (.cons rfl (.nil')))))⟩
    · skip
      intro x φ57 σ56 hJ
      obtain ⟨rfl, hp55, hf58⟩ := hJ
      refine ⟨rfl, Eo.of (F := [(0, (.ptr bq0 0)), (2, (.ptr b3 0)), (3, (.v (.int .i64 y24))), (26, (.v (.bool x49)))]) hf58 ?_⟩
      refine Eo.nil ?_
      refine Ec.cond (t := x49) rfl (fun hc59 => ?_) (fun hc59 => ?_)
      · have H := cond_t hc59 H
        refine Ec.skip ?_
        refine Ec.block ?_
        refine Ec.region ?_
        refine Eo.val (x := (.v (.int .i64 y24))) rfl rfl rfl rfl ?_
        refine Eo.val (x := (.v (.int .i64 (IntKind.wrap .i64 (y24 + 1))))) rfl rfl rfl rfl ?_
        refine Eo.val (x := (.v (.int .i64 (IntKind.wrap .i64 (y24 + 1))))) rfl rfl rfl rfl ?_
        refine Eo.nil ?_
        exact Ec.of (.cons rfl (.cons rfl (.cons rfl (.nil')))) (ih ((IntKind.wrap .i64 (y24 + 1)), ()) _ (Hp.front (Hp.front hp55 1) 1) H)
      · have H := cond_f hc59 H
        refine Ec.exit ?_
        obtain rfl := Option.some.inj H
        exact And.intro rfl ⟨(Hp.front (Hp.front hp55 1) 1), (.cons rfl (.cons rfl (.cons rfl (.nil'))))⟩
  · skip
    intro x φ66 σ65 hJ
    obtain ⟨rfl, hp64, hf67⟩ := hJ
    refine Ec.of (F := [(0, (.ptr bq0 0)), (2, (.ptr b3 0)), (3, (.v (.int .i64 x43)))]) hf67 ?_
    refine Ec.seq ?_
    obtain ⟨x69, hv147, H⟩ := bind_some H
    refine Ec.cut (J := (fun (x69 : ByteArray) (x : X) (φ : Fr) (s : St) => x = .normal ∧ (Hp s (.blk bq0 (.cells [(.v (.string p0_0)), (.v (.int .i64 p0_1)), (.v (.int .i64 p0_2))] 50) :: .blk b3 (.cells [(.v (.int .i64 0)), (.v (.string (ByteArray.mk #[]))), (.v (.int .i64 0)), nilS] 34) :: R) ∧ Fl [(0, (.ptr bq0 0)), (2, (.ptr b3 0)), (3, (.v (.int .i64 x43))), (4, (.v (.string x69)))] φ)) x69) ?_ ?_
    · have H := hv147
      refine Ec.drawn2 (by kernel_rfl) ?_
      refine Eo.val (x := (.ptr bq0 0)) rfl rfl rfl rfl ?_
      refine Eo.val (x := (.ptr bq0 0)) rfl rfl rfl rfl ?_
      refine Eo.val (x := (.ptr bq0 0)) rfl rfl rfl rfl ?_
      refine Eo.val (x := (.v (.string p0_0))) (op_loadB hp64 0 rfl rfl rfl rfl) rfl rfl rfl ?_
      refine Eo.val (x := (.ptr bq0 0)) rfl rfl rfl rfl ?_
      refine Eo.val (x := (.ptr bq0 0)) rfl rfl rfl rfl ?_
      refine Eo.val (x := (.ptr bq0 1)) rfl rfl rfl rfl ?_
      refine Eo.val (x := (.v (.int .i64 p0_1))) (op_loadB hp64 0 rfl rfl rfl rfl) rfl rfl rfl ?_
      refine Eo.val (x := (.v (.int .i64 x43))) rfl rfl rfl rfl ?_
      obtain ⟨s70, hvs70, H⟩ := bind_some H
      refine Eo.val (op_partS hvs70 rfl rfl Tryd.underlying9 (.inr ⟨_, _, rfl, rfl⟩) (.inr ⟨_, _, rfl, rfl⟩)) rfl rfl rfl ?_
      refine Eo.val (x := (.v (.string s70))) rfl rfl rfl rfl ?_
      refine Eo.nil ?_
      obtain rfl := Option.some.inj H
      exact And.intro rfl (And.intro rfl ⟨(Hp.front (Hp.front hp64 1) 1), (.cons rfl (.cons rfl (.cons rfl (.cons rfl (.nil')))))⟩)
    · skip
      intro x φ73 σ72 hJ
      obtain ⟨rfl, hp71, hf74⟩ := hJ
      refine Ec.of (F := [(0, (.ptr bq0 0)), (2, (.ptr b3 0)), (3, (.v (.int .i64 x43))), (4, (.v (.string x69)))]) hf74 ?_
      refine Ec.seq ?_
      refine Ec.seq ?_
      refine Ec.region ?_
      refine Eo.val (x := (.v (.string x69))) rfl rfl rfl rfl ?_
      refine Eo.val (x := (.v (.bool (decide (x69 = (ByteArray.mk #[])))))) (val_b rfl (seq_eq _ _)) rfl rfl rfl ?_
      refine Eo.nil ?_
      obtain ⟨v144, hv145, H⟩ := bind_some H
      refine Ec.cut (J := (fun (v : LR Unit (PR (TTree × Int) Tsexp_fault)) (x : X) (φ : Fr) (s : St) => match v with | .out _ => x = .normal ∧ (Hp s (.blk bq0 (.cells [(.v (.string p0_0)), (.v (.int .i64 p0_1)), (.v (.int .i64 p0_2))] 50) :: .blk b3 (.cells [(.v (.int .i64 0)), (.v (.string (ByteArray.mk #[]))), (.v (.int .i64 0)), nilS] 34) :: R) ∧ Fl [(0, (.ptr bq0 0)), (2, (.ptr b3 0)), (3, (.v (.int .i64 x43))), (4, (.v (.string x69)))] φ) | .ret r => FinR cfg Tryd.f36 (gsexp_parser__run_post bq0 p0_0 p0_2 R r) x φ s) v144) ?_ ?_
      · have H := hv145
        refine Ec.cond (t := (decide (x69 = (ByteArray.mk #[])))) rfl (fun hc84 => ?_) (fun hc84 => ?_)
        · have H := cond_t hc84 H
          refine Ec.region ?_
          refine Eo.val (x := (.ptr bq0 0)) rfl rfl rfl rfl ?_
          refine Eo.val (x := (.ptr bq0 0)) rfl rfl rfl rfl ?_
          refine Eo.val (x := (.ptr bq0 1)) rfl rfl rfl rfl ?_
          refine Eo.val (x := (.v (.int .i64 p0_1))) (op_loadB hp71 0 rfl rfl rfl rfl) rfl rfl rfl ?_
          obtain ⟨v87, hv88, H⟩ := bind_some H
          rcases v87 with r90 | p89
          · skip
            refine Eo.callV (gsexp_wrong_ok hp71 hv88) rfl rfl rfl rfl ?_
            rintro _ σ86 ⟨rfl, hp85⟩
            change Hp σ86 (.blk bq0 (.cells [(.v (.string p0_0)), (.v (.int .i64 p0_1)), (.v (.int .i64 p0_2))] 50) :: .blk b3 (.cells [(.v (.int .i64 0)), (.v (.string (ByteArray.mk #[]))), (.v (.int .i64 0)), nilS] 34) :: R) at hp85
            refine Eo.nil ?_
            obtain rfl := Option.some.inj H
            exact And.intro rfl ⟨(Hp.front (Hp.front hp85 1) 1), (.cons rfl (.cons rfl (.cons rfl (.cons rfl (.nil')))))⟩
          · skip
            refine Eo.callX (gsexp_wrong_ok hp71 hv88) rfl rfl ?_
            intro σ92 hp91
            obtain rfl := Option.some.inj H
            exact Fin.pan (C := cfg) (fn := Tryd.f36) ⟨rfl, (Hp.drop (Hp.drop hp91 0) 0)⟩
        · have H := cond_f hc84 H
          refine Ec.skip ?_
          obtain rfl := Option.some.inj H
          exact And.intro rfl ⟨(Hp.front (Hp.front hp71 1) 1), (.cons rfl (.cons rfl (.cons rfl (.cons rfl (.nil')))))⟩
      · rcases v144 with _ | r141
        · intro x φ95 σ94 hJ
          obtain ⟨rfl, hp93, hf96⟩ := hJ
          refine Ec.of (F := [(0, (.ptr bq0 0)), (2, (.ptr b3 0)), (3, (.v (.int .i64 x43))), (4, (.v (.string x69)))]) hf96 ?_
          refine Ec.seq ?_
          refine Ec.seq ?_
          refine Ec.region ?_
          refine Eo.val (x := (.v (.string x69))) rfl rfl rfl rfl ?_
          obtain ⟨r97, hvr97, H⟩ := bind_some H
          refine Eo.call rfl rfl rfl rfl (gsexp_numeric_ok hp93 hvr97) ?_
          rintro _ σ99 ⟨rfl, hp98⟩
          refine Eo.val (x := (.v (.bool (!r97)))) rfl rfl rfl rfl ?_
          refine Eo.nil ?_
          refine Ec.cond (t := (!r97)) rfl (fun hc100 => ?_) (fun hc100 => ?_)
          · have H := cond_t hc100 H
            refine Ec.seq ?_
            refine Ec.region ?_
            refine Eo.val (x := (.ptr bq0 0)) rfl rfl rfl rfl ?_
            refine Eo.val (x := (.v (.int .i64 x43))) rfl rfl rfl rfl ?_
            refine Eo.val (x := (.ptr bq0 0)) rfl rfl rfl rfl ?_
            refine Eo.val (x := (.ptr bq0 1)) rfl rfl rfl rfl ?_
            refine Eo.store hp98 0 rfl (storeCells_mk rfl rfl rfl rfl rfl rfl) rfl rfl rfl rfl rfl ?_
            intro σ102 hp101
            change Hp σ102 (.blk bq0 (.cells [(.v (.string p0_0)), (.v (.int .i64 x43)), (.v (.int .i64 p0_2))] 50) :: .blk b3 (.cells [(.v (.int .i64 0)), (.v (.string (ByteArray.mk #[]))), (.v (.int .i64 0)), nilS] 34) :: R) at hp101
            refine Eo.nil ?_
            refine Ec.seq ?_
            refine Ec.region ?_
            refine Eo.val (x := (.v (.string x69))) rfl rfl rfl rfl ?_
            refine Eo.val (x := (.agg [(.v (.int .i64 1)), (.v (.string x69)), (.v (.int .i64 0)), nilS])) (op_build (lay_cons rfl rfl rfl rfl rfl (lay_cons rfl rfl rfl rfl rfl lay_nil)) rfl (parts_cons rfl rfl (parts_cons rfl rfl rfl)) Tryd.underlying34 rfl rfl) rfl rfl rfl ?_
            refine Eo.store hp101 1 rfl (storeCells_mk rfl rfl rfl rfl rfl rfl) rfl rfl rfl rfl rfl ?_
            intro σ104 hp103
            change Hp σ104 (.blk bq0 (.cells [(.v (.string p0_0)), (.v (.int .i64 x43)), (.v (.int .i64 p0_2))] 50) :: .blk b3 (.cells [(.v (.int .i64 1)), (.v (.string x69)), (.v (.int .i64 0)), nilS] 34) :: R) at hp103
            refine Eo.nil ?_
            obtain rfl := Option.some.inj H
            refine Ec.ret ?_
            refine Fin.mk' (resA_cell hp103 1 rfl rfl rfl rfl) ?_
            exact ⟨nilS, rfl, Sl.nil, (Hp.front (Hp.appNil (Hp.drop hp103 1) 34) 1)⟩
          · have H := cond_f hc100 H
            refine Ec.skip ?_
            refine Ec.seq ?_
            refine Ec.region ?_
            refine Eo.val (x := (.v (.string x69))) rfl rfl rfl rfl ?_
            obtain ⟨r105, hvr105, H⟩ := bind_some H
            refine Eo.call rfl rfl rfl rfl (gsexp_number_ok hp98 hvr105) ?_
            obtain ⟨r106, r107⟩ := r105
            rintro _ σ109 ⟨rfl, hp108⟩
            refine Eo.val (x := (.tup [(.v (.int .i64 r106)), (.v (.bool r107))])) rfl rfl rfl rfl ?_
            refine Eo.val (x := (.v (.int .i64 r106))) rfl rfl rfl rfl ?_
            refine Eo.val (x := (.v (.bool r107))) rfl rfl rfl rfl ?_
            refine Eo.val (x := (.v (.int .i64 r106))) rfl rfl rfl rfl ?_
            refine Eo.val (x := (.v (.bool r107))) rfl rfl rfl rfl ?_
            refine Eo.nil ?_
            refine Ec.seq ?_
            refine Ec.seq ?_
            refine Ec.region ?_
            refine Eo.val (x := (.v (.bool r107))) rfl rfl rfl rfl ?_
            refine Eo.val (x := (.v (.bool (!r107)))) rfl rfl rfl rfl ?_
            refine Eo.nil ?_
            obtain ⟨v139, hv140, H⟩ := bind_some H
            refine Ec.cut (J := (fun (v : LR Unit (PR (TTree × Int) Tsexp_fault)) (x : X) (φ : Fr) (s : St) => match v with | .out _ => x = .normal ∧ (Hp s (.blk bq0 (.cells [(.v (.string p0_0)), (.v (.int .i64 p0_1)), (.v (.int .i64 p0_2))] 50) :: .blk b3 (.cells [(.v (.int .i64 0)), (.v (.string (ByteArray.mk #[]))), (.v (.int .i64 0)), nilS] 34) :: R) ∧ Fl [(0, (.ptr bq0 0)), (2, (.ptr b3 0)), (3, (.v (.int .i64 x43))), (5, (.v (.int .i64 r106)))] φ) | .ret r => FinR cfg Tryd.f36 (gsexp_parser__run_post bq0 p0_0 p0_2 R r) x φ s) v139) ?_ ?_
            · have H := hv140
              refine Ec.cond (t := (!r107)) rfl (fun hc119 => ?_) (fun hc119 => ?_)
              · have H := cond_t hc119 H
                refine Ec.region ?_
                refine Eo.val (x := (.ptr bq0 0)) rfl rfl rfl rfl ?_
                refine Eo.val (x := (.ptr bq0 0)) rfl rfl rfl rfl ?_
                refine Eo.val (x := (.ptr bq0 1)) rfl rfl rfl rfl ?_
                refine Eo.val (x := (.v (.int .i64 p0_1))) (op_loadB hp108 0 rfl rfl rfl rfl) rfl rfl rfl ?_
                obtain ⟨v122, hv123, H⟩ := bind_some H
                rcases v122 with r125 | p124
                · skip
                  refine Eo.callV (gsexp_wrong_ok hp108 hv123) rfl rfl rfl rfl ?_
                  rintro _ σ121 ⟨rfl, hp120⟩
                  change Hp σ121 (.blk bq0 (.cells [(.v (.string p0_0)), (.v (.int .i64 p0_1)), (.v (.int .i64 p0_2))] 50) :: .blk b3 (.cells [(.v (.int .i64 0)), (.v (.string (ByteArray.mk #[]))), (.v (.int .i64 0)), nilS] 34) :: R) at hp120
                  refine Eo.nil ?_
                  obtain rfl := Option.some.inj H
                  exact And.intro rfl ⟨(Hp.front (Hp.front hp120 1) 1), (.cons rfl (.cons rfl (.cons rfl (.cons rfl (.nil')))))⟩
                · skip
                  refine Eo.callX (gsexp_wrong_ok hp108 hv123) rfl rfl ?_
                  intro σ127 hp126
                  obtain rfl := Option.some.inj H
                  exact Fin.pan (C := cfg) (fn := Tryd.f36) ⟨rfl, (Hp.drop (Hp.drop hp126 0) 0)⟩
              · have H := cond_f hc119 H
                refine Ec.skip ?_
                obtain rfl := Option.some.inj H
                exact And.intro rfl ⟨(Hp.front (Hp.front hp108 1) 1), (.cons rfl (.cons rfl (.cons rfl (.cons rfl (.nil')))))⟩
            · rcases v139 with _ | r136
              · intro x φ130 σ129 hJ
                obtain ⟨rfl, hp128, hf131⟩ := hJ
                refine Ec.of (F := [(0, (.ptr bq0 0)), (2, (.ptr b3 0)), (3, (.v (.int .i64 x43))), (5, (.v (.int .i64 r106)))]) hf131 ?_
                refine Ec.seq ?_
                refine Ec.region ?_
                refine Eo.val (x := (.ptr bq0 0)) rfl rfl rfl rfl ?_
                refine Eo.val (x := (.v (.int .i64 x43))) rfl rfl rfl rfl ?_
                refine Eo.val (x := (.ptr bq0 0)) rfl rfl rfl rfl ?_
                refine Eo.val (x := (.ptr bq0 1)) rfl rfl rfl rfl ?_
                refine Eo.store hp128 0 rfl (storeCells_mk rfl rfl rfl rfl rfl rfl) rfl rfl rfl rfl rfl ?_
                intro σ133 hp132
                change Hp σ133 (.blk bq0 (.cells [(.v (.string p0_0)), (.v (.int .i64 x43)), (.v (.int .i64 p0_2))] 50) :: .blk b3 (.cells [(.v (.int .i64 0)), (.v (.string (ByteArray.mk #[]))), (.v (.int .i64 0)), nilS] 34) :: R) at hp132
                refine Eo.nil ?_
                refine Ec.seq ?_
                refine Ec.region ?_
                refine Eo.val (x := (.v (.int .i64 r106))) rfl rfl rfl rfl ?_
                refine Eo.val (x := (.agg [(.v (.int .i64 2)), (.v (.string (ByteArray.mk #[]))), (.v (.int .i64 r106)), nilS])) (op_build (lay_cons rfl rfl rfl rfl rfl (lay_cons rfl rfl rfl rfl rfl lay_nil)) rfl (parts_cons rfl rfl (parts_cons rfl rfl rfl)) Tryd.underlying34 rfl rfl) rfl rfl rfl ?_
                refine Eo.store hp132 1 rfl (storeCells_mk rfl rfl rfl rfl rfl rfl) rfl rfl rfl rfl rfl ?_
                intro σ135 hp134
                change Hp σ135 (.blk bq0 (.cells [(.v (.string p0_0)), (.v (.int .i64 x43)), (.v (.int .i64 p0_2))] 50) :: .blk b3 (.cells [(.v (.int .i64 2)), (.v (.string (ByteArray.mk #[]))), (.v (.int .i64 r106)), nilS] 34) :: R) at hp134
                refine Eo.nil ?_
                obtain rfl := Option.some.inj H
                refine Ec.ret ?_
                refine Fin.mk' (resA_cell hp134 1 rfl rfl rfl rfl) ?_
                exact ⟨nilS, rfl, Sl.nil, (Hp.front (Hp.appNil (Hp.drop hp134 1) 34) 1)⟩
              · intro x φ137 σ138 hJ
                obtain rfl := Option.some.inj H
                cases x <;> first | exact hJ | exact hJ.elim
        · intro x φ142 σ143 hJ
          obtain rfl := Option.some.inj H
          cases x <;> first | exact hJ | exact hJ.elim

def gsexp_parser__list_L1 (N : Nat) (rec : ByteArray → Int → Int → Int → Option (PR ((List TTree) × Int × Int) Tsexp_fault)) (p0_0 : ByteArray) (p1 : Int) : Nat → (List TTree) → Int → Int → Option (LR Unit (PR ((List TTree) × Int × Int) Tsexp_fault))
  | 0, _, _, _ => none
  | m + 1, y182, y185, y186 => ((gsexp_parser__skip N p0_0 y185 y186).bind fun r366 => ((some (r366 == ((p0_0.size : Nat) : Int)) : Option (Bool)).bind fun x369 => (cond x369 ((((cond (decide (p1 > 0)) (((gsexp_wrong N r366).bind fun v => match v with | .val _ => some (.out ()) | .pan p389 => some (.ret (.pan p389)))) (some (.out ()))) : Option (LR Unit (PR ((List TTree) × Int × Int) Tsexp_fault))).bind fun v => match v with | .out _ => some (.ret (.val (y182, r366, y186))) | .ret r397 => some (.ret r397))) (((((atS p0_0 r366).bind fun b404 => some b404) : Option (Int)).bind fun x403 => (cond (x403 == 41) ((((cond (p1 == 0) (((gsexp_wrong N r366).bind fun v => match v with | .val _ => some (.out ()) | .pan p424 => some (.ret (.pan p424)))) (some (.out ()))) : Option (LR Unit (PR ((List TTree) × Int × Int) Tsexp_fault))).bind fun v => match v with | .out _ => some (.ret (.val (y182, (IntKind.wrap .i64 (r366 + 1)), y186))) | .ret r434 => some (.ret r434))) ((cond (x403 == 40) (((gsexp_parser__count N p0_0 r366 y186 (IntKind.wrap .i64 (p1 + 1))).bind fun v => match v with | .val r440 => ((rec p0_0 (IntKind.wrap .i64 (r366 + 1)) r440 (IntKind.wrap .i64 (p1 + 1))).bind fun v => match v with | .val (r445, r448, r449) => ((appL 56 y182 ([(TTree.mk 4 (ByteArray.mk #[]) 0 r445)] : List TTree)).bind fun l456 => gsexp_parser__list_L1 N rec p0_0 p1 m l456 r448 r449) | .pan p463 => some (.ret (.pan p463))) | .pan p469 => some (.ret (.pan p469)))) ((cond (x403 == 34) (((gsexp_parser__quoted N p0_0 r366 y186).bind fun v => match v with | .val (r473, r476) => ((gsexp_parser__counted N p0_0 r476 y186 r366).bind fun v => match v with | .val r484 => ((appL 56 y182 ([r473] : List TTree)).bind fun l491 => gsexp_parser__list_L1 N rec p0_0 p1 m l491 r476 r484) | .pan p498 => some (.ret (.pan p498))) | .pan p503 => some (.ret (.pan p503)))) (((gsexp_parser__run N p0_0 r366 y186).bind fun v => match v with | .val (r507, r510) => ((gsexp_parser__counted N p0_0 r510 y186 r366).bind fun v => match v with | .val r518 => ((appL 56 y182 ([r507] : List TTree)).bind fun l525 => gsexp_parser__list_L1 N rec p0_0 p1 m l525 r510 r518) | .pan p532 => some (.ret (.pan p532))) | .pan p537 => some (.ret (.pan p537))))))))))))))

def gsexp_parser__list_rec (N : Nat) : Nat → ByteArray → Int → Int → Int → Option (PR ((List TTree) × Int × Int) Tsexp_fault)
  | 0, _, _, _, _ => none
  | k + 1, p0_0, p0_1, p0_2, p1 => ((gsexp_parser__list_L1 N (gsexp_parser__list_rec N k) p0_0 p1 N ([] : List TTree) p0_1 p0_2).bind fun v => match v with | .ret r547 => some r547 | .out _ => none)

def gsexp_parser__list (n : Nat) (p0_0 : ByteArray) (p0_1 : Int) (p0_2 : Int) (p1 : Int) : Option ((PR ((List TTree) × Int × Int) Tsexp_fault)) := gsexp_parser__list_rec n n p0_0 p0_1 p0_2 p1

def gsexp_parser__list_post (bq0 : Nat) (p0_0 : ByteArray) (R : List Res) (r : (PR ((List TTree) × Int × Int) Tsexp_fault)) : Out → St → Prop := match r with | .val r => OutV (fun x s => ∃ (a1 : A), x = a1 ∧ Sl rTTree a1 r.1 ∧ Hp s (.blk bq0 (.cells [(.v (.string p0_0)), (.v (.int .i64 r.2.1)), (.v (.int .i64 r.2.2))] 50) :: .app a1 34 :: R)) | .pan p => OutP (.ifc 47 (.agg [(.v (.int .i64 p.f_at)), (.v (.int .i64 p.f_e))])) R

theorem gsexp_parser__list_rec_ok {n : Nat} : ∀ (k : Nat) {bq0 : Nat} {p0_0 : ByteArray} {p0_1 : Int} {p0_2 : Int} {p1 : Int} {R : List Res} {σ : St} (_hp : Hp σ (.blk bq0 (.cells [(.v (.string p0_0)), (.v (.int .i64 p0_1)), (.v (.int .i64 p0_2))] 50) :: R)) {r : (PR ((List TTree) × Int × Int) Tsexp_fault)} (_H : gsexp_parser__list_rec n k p0_0 p0_1 p0_2 p1 = some r), CaO cfg 20 [(.ptr bq0 0), (.v (.int .i64 p1))] σ (gsexp_parser__list_post bq0 p0_0 R r) := by
  intro k
  induction k with
  | zero => intro bq0 p0_0 p0_1 p0_2 p1 R σ hp r H; rw [gsexp_parser__list_rec] at H; cases H
  | succ k ihR =>
    intro bq0 p0_0 p0_1 p0_2 p1 R σ hp r H
    rw [gsexp_parser__list_rec] at H
    refine CaO.enterL (G := [(0, (.ptr bq0 0)), (1, (.v (.int .i64 p1)))]) Tryd.func20 rfl rfl rfl rfl ?_
    refine Ec.seq ?_
    refine Ec.region ?_
    refine Eo.val (x := nilS) rfl rfl rfl rfl ?_
    refine Eo.nil ?_
    refine Ec.seq ?_
    refine Ec.region ?_
    refine Eo.val (x := nilS) rfl rfl rfl rfl ?_
    refine Eo.nil ?_
    refine Ec.block ?_
    obtain ⟨v545, hv546, H⟩ := bind_some H
    refine Ec.cut (J := (fun (v : LR Unit (PR ((List TTree) × Int × Int) Tsexp_fault)) (x : X) (φ : Fr) (s : St) => match v with | .out _ => False | .ret r => FinR cfg Tryd.f20 (gsexp_parser__list_post bq0 p0_0 R r) x φ s) v545) (Ec.weak (.cons rfl (.cons rfl (.cons rfl (.nil')))) (Ec.loopF (f := (fun m (i : ((List TTree) × Int × Int) × A) => gsexp_parser__list_L1 n (gsexp_parser__list_rec n k) p0_0 p1 m i.1.1 i.1.2.1 i.1.2.2)) (G := (fun (i : ((List TTree) × Int × Int) × A) => ([(0, (.ptr bq0 0)), (1, (.v (.int .i64 p1))), (5, i.2)] : List (Nat × A)))) (I := (fun (i : ((List TTree) × Int × Int) × A) (s : St) => Sl rTTree i.2 i.1.1 ∧ Hp s (.blk bq0 (.cells [(.v (.string p0_0)), (.v (.int .i64 i.1.2.1)), (.v (.int .i64 i.1.2.2))] 50) :: .app i.2 34 :: R))) (J := (fun (v : LR Unit (PR ((List TTree) × Int × Int) Tsexp_fault)) (x : X) (φ : Fr) (s : St) => match v with | .out _ => False | .ret r => FinR cfg Tryd.f20 (gsexp_parser__list_post bq0 p0_0 R r) x φ s)) (fun _ => rfl) ?_ n ((([] : List TTree), p0_1, p0_2), nilS) _ v545 ⟨Sl.nil, (Hp.front (Hp.appNil hp 34) 1)⟩ hv546)) ?_
    · rintro m ⟨⟨y182, y185, y186⟩, a183⟩ σ0 v ⟨h184, hp0⟩ H ih
      change gsexp_parser__list_L1 n (gsexp_parser__list_rec n k) p0_0 p1 (m + 1) y182 y185 y186 = some v at H
      rw [gsexp_parser__list_L1] at H
      change Ec _ _ _ [(0, (.ptr bq0 0)), (1, (.v (.int .i64 p1))), (5, a183)] σ0 _
      refine Ec.block ?_
      refine Ec.seq ?_
      refine Ec.region ?_
      refine Eo.val (x := (.ptr bq0 0)) rfl rfl rfl rfl ?_
      obtain ⟨r366, hvr366, H⟩ := bind_some H
      refine Eo.call rfl rfl rfl rfl (gsexp_parser__skip_ok (Hp.front (Hp.front hp0 1) 1) hvr366) ?_
      rintro _ σ368 ⟨rfl, hp367⟩
      change Hp σ368 (.blk bq0 (.cells [(.v (.string p0_0)), (.v (.int .i64 r366)), (.v (.int .i64 y186))] 50) :: .app a183 34 :: R) at hp367
      refine Eo.nil ?_
      refine Ec.seq ?_
      refine Ec.seq ?_
      obtain ⟨x369, hv544, H⟩ := bind_some H
      refine Ec.cut (J := (fun (x369 : Bool) (x : X) (φ : Fr) (s : St) => x = .normal ∧ (Hp s (.blk bq0 (.cells [(.v (.string p0_0)), (.v (.int .i64 r366)), (.v (.int .i64 y186))] 50) :: .app a183 34 :: R) ∧ Fl [(0, (.ptr bq0 0)), (1, (.v (.int .i64 p1))), (5, a183), (21, (.v (.bool x369)))] φ)) x369) ?_ ?_
      · have H := hv544
        refine Ec.drawn2 (by kernel_rfl) ?_
        refine Eo.val (x := (.ptr bq0 0)) rfl rfl rfl rfl ?_
        refine Eo.val (x := (.ptr bq0 0)) rfl rfl rfl rfl ?_
        refine Eo.val (x := (.ptr bq0 1)) rfl rfl rfl rfl ?_
        refine Eo.val (x := (.v (.int .i64 r366))) (op_loadB hp367 0 rfl rfl rfl rfl) rfl rfl rfl ?_
        refine Eo.val (x := (.ptr bq0 0)) rfl rfl rfl rfl ?_
        refine Eo.val (x := (.ptr bq0 0)) rfl rfl rfl rfl ?_
        refine Eo.val (x := (.ptr bq0 0)) rfl rfl rfl rfl ?_
        refine Eo.val (x := (.v (.string p0_0))) (op_loadB hp367 0 rfl rfl rfl rfl) rfl rfl rfl ?_
        refine Eo.val (x := (.v (.int .i64 ((p0_0.size : Nat) : Int)))) (op_len rfl rfl rfl rfl rfl Tryd.underlying9) rfl rfl rfl ?_
        refine Eo.val (x := (.v (.bool (r366 == ((p0_0.size : Nat) : Int))))) rfl rfl rfl rfl ?_
        refine Eo.nil ?_
        obtain rfl := Option.some.inj H
        exact And.intro rfl (And.intro rfl ⟨(Hp.front (Hp.front hp367 1) 1), (.cons rfl (.cons rfl (.cons rfl (.cons rfl (.nil')))))⟩)
      · skip
        intro x φ372 σ371 hJ
        obtain ⟨rfl, hp370, hf373⟩ := hJ
        refine Ec.of (F := [(0, (.ptr bq0 0)), (1, (.v (.int .i64 p1))), (5, a183), (21, (.v (.bool x369)))]) hf373 ?_
        refine Ec.cond (t := x369) rfl (fun hc374 => ?_) (fun hc374 => ?_)
        · have H := cond_t hc374 H
          refine Ec.seq ?_
          refine Ec.seq ?_
          refine Ec.region ?_
          refine Eo.val (x := (.v (.int .i64 p1))) rfl rfl rfl rfl ?_
          refine Eo.val (x := (.v (.bool (decide (p1 > 0))))) rfl rfl rfl rfl ?_
          refine Eo.nil ?_
          obtain ⟨v400, hv401, H⟩ := bind_some H
          refine Ec.cut (J := (fun (v : LR Unit (PR ((List TTree) × Int × Int) Tsexp_fault)) (x : X) (φ : Fr) (s : St) => match v with | .out _ => x = .normal ∧ (Hp s (.blk bq0 (.cells [(.v (.string p0_0)), (.v (.int .i64 r366)), (.v (.int .i64 y186))] 50) :: .app a183 34 :: R) ∧ Fl [(5, a183)] φ) | .ret r => FinR cfg Tryd.f20 (gsexp_parser__list_post bq0 p0_0 R r) x φ s) v400) ?_ ?_
          · have H := hv401
            refine Ec.cond (t := (decide (p1 > 0))) rfl (fun hc384 => ?_) (fun hc384 => ?_)
            · have H := cond_t hc384 H
              refine Ec.region ?_
              refine Eo.val (x := (.ptr bq0 0)) rfl rfl rfl rfl ?_
              refine Eo.val (x := (.ptr bq0 0)) rfl rfl rfl rfl ?_
              refine Eo.val (x := (.ptr bq0 1)) rfl rfl rfl rfl ?_
              refine Eo.val (x := (.v (.int .i64 r366))) (op_loadB hp370 0 rfl rfl rfl rfl) rfl rfl rfl ?_
              obtain ⟨v387, hv388, H⟩ := bind_some H
              rcases v387 with r390 | p389
              · skip
                refine Eo.callV (gsexp_wrong_ok hp370 hv388) rfl rfl rfl rfl ?_
                rintro _ σ386 ⟨rfl, hp385⟩
                change Hp σ386 (.blk bq0 (.cells [(.v (.string p0_0)), (.v (.int .i64 r366)), (.v (.int .i64 y186))] 50) :: .app a183 34 :: R) at hp385
                refine Eo.nil ?_
                obtain rfl := Option.some.inj H
                exact And.intro rfl ⟨(Hp.front (Hp.front hp385 1) 1), (.cons rfl (.nil'))⟩
              · skip
                refine Eo.callX (gsexp_wrong_ok hp370 hv388) rfl rfl ?_
                intro σ392 hp391
                obtain rfl := Option.some.inj H
                exact Fin.pan (C := cfg) (fn := Tryd.f20) ⟨rfl, (Hp.drop (Hp.drop hp391 0) 0)⟩
            · have H := cond_f hc384 H
              refine Ec.skip ?_
              obtain rfl := Option.some.inj H
              exact And.intro rfl ⟨(Hp.front (Hp.front hp370 1) 1), (.cons rfl (.nil'))⟩
          · rcases v400 with _ | r397
            · intro x φ395 σ394 hJ
              obtain ⟨rfl, hp393, hf396⟩ := hJ
              refine Ec.of (F := [(5, a183)]) hf396 ?_
              refine Ec.seq ?_
              refine Ec.region ?_
              refine Eo.val (x := a183) rfl rfl rfl rfl ?_
              refine Eo.val (x := a183) rfl rfl rfl rfl ?_
              refine Eo.nil ?_
              obtain rfl := Option.some.inj H
              refine Ec.ret ?_
              refine Fin.mk rfl ?_
              exact ⟨a183, rfl, h184, (Hp.front (Hp.front hp393 1) 1)⟩
            · intro x φ398 σ399 hJ
              obtain rfl := Option.some.inj H
              cases x <;> first | exact hJ | exact hJ.elim
        · have H := cond_f hc374 H
          refine Ec.skip ?_
          refine Ec.seq ?_
          obtain ⟨x403, hv542, H⟩ := bind_some H
          refine Ec.cut (J := (fun (x403 : Int) (x : X) (φ : Fr) (s : St) => x = .normal ∧ (Hp s (.blk bq0 (.cells [(.v (.string p0_0)), (.v (.int .i64 r366)), (.v (.int .i64 y186))] 50) :: .app a183 34 :: R) ∧ Fl [(0, (.ptr bq0 0)), (1, (.v (.int .i64 p1))), (5, a183), (38, (.v (.int .u8 x403)))] φ)) x403) ?_ ?_
          · have H := hv542
            refine Ec.drawn2 (by kernel_rfl) ?_
            refine Eo.val (x := (.ptr bq0 0)) rfl rfl rfl rfl ?_
            refine Eo.val (x := (.ptr bq0 0)) rfl rfl rfl rfl ?_
            refine Eo.val (x := (.ptr bq0 0)) rfl rfl rfl rfl ?_
            refine Eo.val (x := (.v (.string p0_0))) (op_loadB hp370 0 rfl rfl rfl rfl) rfl rfl rfl ?_
            refine Eo.val (x := (.ptr bq0 0)) rfl rfl rfl rfl ?_
            refine Eo.val (x := (.ptr bq0 0)) rfl rfl rfl rfl ?_
            refine Eo.val (x := (.ptr bq0 1)) rfl rfl rfl rfl ?_
            refine Eo.val (x := (.v (.int .i64 r366))) (op_loadB hp370 0 rfl rfl rfl rfl) rfl rfl rfl ?_
            obtain ⟨b404, hvb404, H⟩ := bind_some H
            refine Eo.val (op_byteS hvb404 rfl rfl rfl Tryd.underlying9) rfl rfl rfl ?_
            refine Eo.nil ?_
            obtain rfl := Option.some.inj H
            exact And.intro rfl (And.intro rfl ⟨(Hp.front (Hp.front hp370 1) 1), (.cons rfl (.cons rfl (.cons rfl (.cons rfl (.nil')))))⟩)
          · skip
            intro x φ407 σ406 hJ
            obtain ⟨rfl, hp405, hf408⟩ := hJ
            refine Ec.of (F := [(0, (.ptr bq0 0)), (1, (.v (.int .i64 p1))), (5, a183), (38, (.v (.int .u8 x403)))]) hf408 ?_
            refine Ec.block ?_
            refine Ec.seq ?_
            refine Ec.region ?_
            refine Eo.val (x := (.v (.bool (x403 == 41)))) rfl rfl rfl rfl ?_
            refine Eo.val (x := (.v (.bool (x403 == 41)))) rfl rfl rfl rfl ?_
            refine Eo.nil ?_
            refine Ec.cond (t := (x403 == 41)) rfl (fun hc409 => ?_) (fun hc409 => ?_)
            · have H := cond_t hc409 H
              refine Ec.seq ?_
              refine Ec.seq ?_
              refine Ec.region ?_
              refine Eo.val (x := (.v (.int .i64 p1))) rfl rfl rfl rfl ?_
              refine Eo.val (x := (.v (.bool (p1 == 0)))) rfl rfl rfl rfl ?_
              refine Eo.nil ?_
              obtain ⟨v437, hv438, H⟩ := bind_some H
              refine Ec.cut (J := (fun (v : LR Unit (PR ((List TTree) × Int × Int) Tsexp_fault)) (x : X) (φ : Fr) (s : St) => match v with | .out _ => x = .normal ∧ (Hp s (.blk bq0 (.cells [(.v (.string p0_0)), (.v (.int .i64 r366)), (.v (.int .i64 y186))] 50) :: .app a183 34 :: R) ∧ Fl [(0, (.ptr bq0 0)), (5, a183)] φ) | .ret r => FinR cfg Tryd.f20 (gsexp_parser__list_post bq0 p0_0 R r) x φ s) v437) ?_ ?_
              · have H := hv438
                refine Ec.cond (t := (p1 == 0)) rfl (fun hc419 => ?_) (fun hc419 => ?_)
                · have H := cond_t hc419 H
                  refine Ec.region ?_
                  refine Eo.val (x := (.ptr bq0 0)) rfl rfl rfl rfl ?_
                  refine Eo.val (x := (.ptr bq0 0)) rfl rfl rfl rfl ?_
                  refine Eo.val (x := (.ptr bq0 1)) rfl rfl rfl rfl ?_
                  refine Eo.val (x := (.v (.int .i64 r366))) (op_loadB hp405 0 rfl rfl rfl rfl) rfl rfl rfl ?_
                  obtain ⟨v422, hv423, H⟩ := bind_some H
                  rcases v422 with r425 | p424
                  · skip
                    refine Eo.callV (gsexp_wrong_ok hp405 hv423) rfl rfl rfl rfl ?_
                    rintro _ σ421 ⟨rfl, hp420⟩
                    change Hp σ421 (.blk bq0 (.cells [(.v (.string p0_0)), (.v (.int .i64 r366)), (.v (.int .i64 y186))] 50) :: .app a183 34 :: R) at hp420
                    refine Eo.nil ?_
                    obtain rfl := Option.some.inj H
                    exact And.intro rfl ⟨(Hp.front (Hp.front hp420 1) 1), (.cons rfl (.cons rfl (.nil')))⟩
                  · skip
                    refine Eo.callX (gsexp_wrong_ok hp405 hv423) rfl rfl ?_
                    intro σ427 hp426
                    obtain rfl := Option.some.inj H
                    exact Fin.pan (C := cfg) (fn := Tryd.f20) ⟨rfl, (Hp.drop (Hp.drop hp426 0) 0)⟩
                · have H := cond_f hc419 H
                  refine Ec.skip ?_
                  obtain rfl := Option.some.inj H
                  exact And.intro rfl ⟨(Hp.front (Hp.front hp405 1) 1), (.cons rfl (.cons rfl (.nil')))⟩
              · rcases v437 with _ | r434
                · intro x φ430 σ429 hJ
                  obtain ⟨rfl, hp428, hf431⟩ := hJ
                  refine Ec.of (F := [(0, (.ptr bq0 0)), (5, a183)]) hf431 ?_
                  refine Ec.seq ?_
                  refine Ec.region ?_
                  refine Eo.val (x := (.ptr bq0 0)) rfl rfl rfl rfl ?_
                  refine Eo.val (x := (.ptr bq0 0)) rfl rfl rfl rfl ?_
                  refine Eo.val (x := (.ptr bq0 1)) rfl rfl rfl rfl ?_
                  refine Eo.val (x := (.v (.int .i64 r366))) (op_loadB hp428 0 rfl rfl rfl rfl) rfl rfl rfl ?_
                  refine Eo.val (x := (.v (.int .i64 (IntKind.wrap .i64 (r366 + 1))))) rfl rfl rfl rfl ?_
                  refine Eo.val (x := (.ptr bq0 0)) rfl rfl rfl rfl ?_
                  refine Eo.val (x := (.ptr bq0 1)) rfl rfl rfl rfl ?_
                  refine Eo.store hp428 0 rfl (storeCells_mk rfl rfl rfl rfl rfl rfl) rfl rfl rfl rfl rfl ?_
                  intro σ433 hp432
                  change Hp σ433 (.blk bq0 (.cells [(.v (.string p0_0)), (.v (.int .i64 (IntKind.wrap .i64 (r366 + 1)))), (.v (.int .i64 y186))] 50) :: .app a183 34 :: R) at hp432
                  refine Eo.nil ?_
                  refine Ec.seq ?_
                  refine Ec.region ?_
                  refine Eo.val (x := a183) rfl rfl rfl rfl ?_
                  refine Eo.val (x := a183) rfl rfl rfl rfl ?_
                  refine Eo.nil ?_
                  obtain rfl := Option.some.inj H
                  refine Ec.ret ?_
                  refine Fin.mk rfl ?_
                  exact ⟨a183, rfl, h184, (Hp.front (Hp.front hp432 1) 1)⟩
                · intro x φ435 σ436 hJ
                  obtain rfl := Option.some.inj H
                  cases x <;> first | exact hJ | exact hJ.elim
            · have H := cond_f hc409 H
              refine Ec.seq ?_
              refine Ec.region ?_
              refine Eo.val (x := (.v (.bool (x403 == 40)))) rfl rfl rfl rfl ?_
              refine Eo.val (x := (.v (.bool (x403 == 40)))) rfl rfl rfl rfl ?_
              refine Eo.nil ?_
              refine Ec.cond (t := (x403 == 40)) rfl (fun hc439 => ?_) (fun hc439 => ?_)
              · have H := cond_t hc439 H
                refine Ec.seq ?_
                refine Ec.region ?_
                refine Eo.val (x := (.ptr bq0 0)) rfl rfl rfl rfl ?_
                refine Eo.val (x := (.v (.int .i64 p1))) rfl rfl rfl rfl ?_
                refine Eo.val (x := (.v (.int .i64 (IntKind.wrap .i64 (p1 + 1))))) rfl rfl rfl rfl ?_
                obtain ⟨v467, hv468, H⟩ := bind_some H
                rcases v467 with r440 | p469
                · skip
                  refine Eo.callV (gsexp_parser__count_ok (Hp.front (Hp.front hp405 1) 1) hv468) rfl rfl rfl rfl ?_
                  rintro _ σ442 ⟨rfl, hp441⟩
                  change Hp σ442 (.blk bq0 (.cells [(.v (.string p0_0)), (.v (.int .i64 r366)), (.v (.int .i64 r440))] 50) :: .app a183 34 :: R) at hp441
                  refine Eo.nil ?_
                  refine Ec.seq ?_
                  refine Ec.region ?_
                  refine Eo.val (x := (.ptr bq0 0)) rfl rfl rfl rfl ?_
                  refine Eo.val (x := (.ptr bq0 0)) rfl rfl rfl rfl ?_
                  refine Eo.val (x := (.ptr bq0 1)) rfl rfl rfl rfl ?_
                  refine Eo.val (x := (.v (.int .i64 r366))) (op_loadB hp441 0 rfl rfl rfl rfl) rfl rfl rfl ?_
                  refine Eo.val (x := (.v (.int .i64 (IntKind.wrap .i64 (r366 + 1))))) rfl rfl rfl rfl ?_
                  refine Eo.val (x := (.ptr bq0 0)) rfl rfl rfl rfl ?_
                  refine Eo.val (x := (.ptr bq0 1)) rfl rfl rfl rfl ?_
                  refine Eo.store hp441 0 rfl (storeCells_mk rfl rfl rfl rfl rfl rfl) rfl rfl rfl rfl rfl ?_
                  intro σ444 hp443
                  change Hp σ444 (.blk bq0 (.cells [(.v (.string p0_0)), (.v (.int .i64 (IntKind.wrap .i64 (r366 + 1)))), (.v (.int .i64 r440))] 50) :: .app a183 34 :: R) at hp443
                  refine Eo.nil ?_
                  refine Ec.region ?_
                  refine Eo.val (x := a183) rfl rfl rfl rfl ?_
                  refine Eo.val (x := (.ptr bq0 0)) rfl rfl rfl rfl ?_
                  refine Eo.val (x := (.v (.int .i64 p1))) rfl rfl rfl rfl ?_
                  refine Eo.val (x := (.v (.int .i64 (IntKind.wrap .i64 (p1 + 1))))) rfl rfl rfl rfl ?_
                  obtain ⟨v461, hv462, H⟩ := bind_some H
                  rcases v461 with r464 | p463
                  · skip
                    refine Eo.callV (ihR (Hp.front (Hp.front hp443 1) 1) hv462) rfl rfl rfl rfl ?_
                    obtain ⟨r445, r448, r449⟩ := r464
                    rintro a446 σ451 ⟨_, rfl, h447, hp450⟩
                    change Hp σ451 (.blk bq0 (.cells [(.v (.string p0_0)), (.v (.int .i64 r448)), (.v (.int .i64 r449))] 50) :: .app a446 34 :: .app a183 34 :: R) at hp450
                    refine Eo.val (x := (.agg [(.v (.int .i64 4)), (.v (.string (ByteArray.mk #[]))), (.v (.int .i64 0)), a446])) (op_build (lay_cons rfl rfl rfl rfl rfl (lay_cons rfl h447.cells rfl rfl rfl lay_nil)) rfl (parts_cons rfl rfl (parts_cons rfl h447.noJunk rfl)) Tryd.underlying34 rfl rfl) rfl rfl rfl ?_
                    refine Eo.val (x := (.sl 4 [(.v (.int .i64 4)), (.v (.string (ByteArray.mk #[]))), (.v (.int .i64 0)), a446] .ex)) (op_buildS (lay_cons rfl rfl rfl rfl rfl lay_nil) rfl (parts_cons rfl rfl rfl) Tryd.underlying23 rfl rfl rfl rfl (by decide) rfl) rfl rfl rfl ?_
                    have h455 : Sl rTTree (.sl 4 [(.v (.int .i64 4)), (.v (.string (ByteArray.mk #[]))), (.v (.int .i64 0)), a446] .ex) ([(TTree.mk 4 (ByteArray.mk #[]) 0 r445)] : List TTree) := .inr ⟨_, _, rfl, (.cons (c := [(.v (.int .i64 4)), (.v (.string (ByteArray.mk #[]))), (.v (.int .i64 0)), a446]) (rTTree_of ⟨a446, rfl, h447⟩) .nil)⟩
                    have hp454 := Hp.appEx hp450 34 4 [(.v (.int .i64 4)), (.v (.string (ByteArray.mk #[]))), (.v (.int .i64 0)), a446]
                    obtain ⟨l456, hvl456, H⟩ := bind_some H
                    refine Eo.append hp454 3 rfl h184 (New.of h455) hvl456 rfl rfl rfl rfl rfl rfl rfl Tryd.underlying23 rfl Tryd.underlying23 rfl rfl rfl rfl rfl rfl rfl rfl ?_
                    intro a457 σ460 h458 hp459
                    change Hp σ460 (.app (.sl 4 [(.v (.int .i64 4)), (.v (.string (ByteArray.mk #[]))), (.v (.int .i64 0)), a446] .ex) 34 :: .blk bq0 (.cells [(.v (.string p0_0)), (.v (.int .i64 r448)), (.v (.int .i64 r449))] 50) :: .app a446 34 :: .app a457 34 :: R) at hp459
                    refine Eo.val (x := a457) rfl rfl rfl rfl ?_
                    refine Eo.nil ?_
                    exact Ec.of (.cons rfl (.cons rfl (.cons rfl (.nil')))) (ih ((l456, r448, r449), a457) _ ⟨h458, (Hp.front (Hp.front (Hp.drop (Hp.drop hp459 0) 1) 1) 1)⟩ H)
                  · skip
                    refine Eo.callX (ihR (Hp.front (Hp.front hp443 1) 1) hv462) rfl rfl ?_
                    intro σ466 hp465
                    obtain rfl := Option.some.inj H
                    exact Fin.pan (C := cfg) (fn := Tryd.f20) ⟨rfl, (Hp.drop hp465 0)⟩
                · skip
                  refine Eo.callX (gsexp_parser__count_ok (Hp.front (Hp.front hp405 1) 1) hv468) rfl rfl ?_
                  intro σ471 hp470
                  obtain rfl := Option.some.inj H
                  exact Fin.pan (C := cfg) (fn := Tryd.f20) ⟨rfl, (Hp.drop hp470 0)⟩
              · have H := cond_f hc439 H
                refine Ec.seq ?_
                refine Ec.region ?_
                refine Eo.val (x := (.v (.bool (x403 == 34)))) rfl rfl rfl rfl ?_
                refine Eo.val (x := (.v (.bool (x403 == 34)))) rfl rfl rfl rfl ?_
                refine Eo.nil ?_
                refine Ec.cond (t := (x403 == 34)) rfl (fun hc472 => ?_) (fun hc472 => ?_)
                · have H := cond_t hc472 H
                  refine Ec.seq ?_
                  refine Ec.region ?_
                  refine Eo.val (x := (.ptr bq0 0)) rfl rfl rfl rfl ?_
                  refine Eo.val (x := (.ptr bq0 0)) rfl rfl rfl rfl ?_
                  refine Eo.val (x := (.ptr bq0 1)) rfl rfl rfl rfl ?_
                  refine Eo.val (x := (.v (.int .i64 r366))) (op_loadB hp405 0 rfl rfl rfl rfl) rfl rfl rfl ?_
                  refine Eo.val (x := (.v (.int .i64 r366))) rfl rfl rfl rfl ?_
                  refine Eo.nil ?_
                  refine Ec.seq ?_
                  refine Ec.region ?_
                  refine Eo.val (x := (.ptr bq0 0)) rfl rfl rfl rfl ?_
                  obtain ⟨v501, hv502, H⟩ := bind_some H
                  rcases v501 with r504 | p503
                  · skip
                    refine Eo.callV (gsexp_parser__quoted_ok (Hp.front (Hp.front hp405 1) 1) hv502) rfl rfl rfl rfl ?_
                    obtain ⟨r473, r476⟩ := r504
                    rintro _ σ478 ⟨a474, rfl, h475, hp477⟩
                    change Hp σ478 (.blk bq0 (.cells [(.v (.string p0_0)), (.v (.int .i64 r476)), (.v (.int .i64 y186))] 50) :: .app a474 34 :: .app a183 34 :: R) at hp477
                    refine Eo.alloc (z := [(.v (.int .i64 0)), (.v (.string (ByteArray.mk #[]))), (.v (.int .i64 0)), nilS]) hp477 rfl rfl rfl rfl rfl ?_
                    intro b479 σ481 hp480
                    refine Eo.store hp480 0 rfl (storeCells_mk rfl rfl rfl (by simp [allOne, A.cells, h475.isOne]) rfl rfl) rfl rfl rfl rfl rfl ?_
                    intro σ483 hp482
                    change Hp σ483 (.blk b479 (.cells [(.v (.int .i64 r473.f_Kind)), (.v (.string r473.f_Word)), (.v (.int .i64 r473.f_Num)), a474] 34) :: .blk bq0 (.cells [(.v (.string p0_0)), (.v (.int .i64 r476)), (.v (.int .i64 y186))] 50) :: .app a474 34 :: .app a183 34 :: R) at hp482
                    refine Eo.nil ?_
                    refine Ec.seq ?_
                    refine Ec.region ?_
                    refine Eo.val (x := (.ptr bq0 0)) rfl rfl rfl rfl ?_
                    refine Eo.val (x := (.v (.int .i64 r366))) rfl rfl rfl rfl ?_
                    obtain ⟨v496, hv497, H⟩ := bind_some H
                    rcases v496 with r484 | p498
                    · skip
                      refine Eo.callV (gsexp_parser__counted_ok (Hp.front (Hp.front (Hp.front (Hp.front hp482 3) 3) 2) 3) hv497) rfl rfl rfl rfl ?_
                      rintro _ σ486 ⟨rfl, hp485⟩
                      change Hp σ486 (.blk bq0 (.cells [(.v (.string p0_0)), (.v (.int .i64 r476)), (.v (.int .i64 r484))] 50) :: .blk b479 (.cells [(.v (.int .i64 r473.f_Kind)), (.v (.string r473.f_Word)), (.v (.int .i64 r473.f_Num)), a474] 34) :: .app a474 34 :: .app a183 34 :: R) at hp485
                      refine Eo.nil ?_
                      refine Ec.region ?_
                      refine Eo.val (x := a183) rfl rfl rfl rfl ?_
                      refine Eo.val (x := (.agg [(.v (.int .i64 r473.f_Kind)), (.v (.string r473.f_Word)), (.v (.int .i64 r473.f_Num)), a474])) (op_loadB hp485 1 rfl rfl rfl rfl) rfl rfl rfl ?_
                      refine Eo.val (x := (.sl 4 [(.v (.int .i64 r473.f_Kind)), (.v (.string r473.f_Word)), (.v (.int .i64 r473.f_Num)), a474] .ex)) (op_buildS (lay_cons rfl rfl rfl rfl rfl lay_nil) rfl (parts_cons rfl rfl rfl) Tryd.underlying23 rfl rfl rfl rfl (by decide) rfl) rfl rfl rfl ?_
                      have h490 : Sl rTTree (.sl 4 [(.v (.int .i64 r473.f_Kind)), (.v (.string r473.f_Word)), (.v (.int .i64 r473.f_Num)), a474] .ex) ([r473] : List TTree) := .inr ⟨_, _, rfl, (.cons (c := [(.v (.int .i64 r473.f_Kind)), (.v (.string r473.f_Word)), (.v (.int .i64 r473.f_Num)), a474]) (rTTree_of ⟨a474, rfl, h475⟩) .nil)⟩
                      have hp489 := Hp.appEx hp485 34 4 [(.v (.int .i64 r473.f_Kind)), (.v (.string r473.f_Word)), (.v (.int .i64 r473.f_Num)), a474]
                      obtain ⟨l491, hvl491, H⟩ := bind_some H
                      refine Eo.append hp489 4 rfl h184 (New.of h490) hvl491 rfl rfl rfl rfl rfl rfl rfl Tryd.underlying23 rfl Tryd.underlying23 rfl rfl rfl rfl rfl rfl rfl rfl ?_
                      intro a492 σ495 h493 hp494
                      change Hp σ495 (.app (.sl 4 [(.v (.int .i64 r473.f_Kind)), (.v (.string r473.f_Word)), (.v (.int .i64 r473.f_Num)), a474] .ex) 34 :: .blk bq0 (.cells [(.v (.string p0_0)), (.v (.int .i64 r476)), (.v (.int .i64 r484))] 50) :: .blk b479 (.cells [(.v (.int .i64 r473.f_Kind)), (.v (.string r473.f_Word)), (.v (.int .i64 r473.f_Num)), a474] 34) :: .app a474 34 :: .app a492 34 :: R) at hp494
                      refine Eo.val (x := a492) rfl rfl rfl rfl ?_
                      refine Eo.nil ?_
                      exact Ec.of (.cons rfl (.cons rfl (.cons rfl (.nil')))) (ih ((l491, r476, r484), a492) _ ⟨h493, (Hp.front (Hp.front (Hp.drop (Hp.drop (Hp.drop hp494 0) 1) 1) 1) 1)⟩ H)
                    · skip
                      refine Eo.callX (gsexp_parser__counted_ok (Hp.front (Hp.front (Hp.front (Hp.front hp482 3) 3) 2) 3) hv497) rfl rfl ?_
                      intro σ500 hp499
                      obtain rfl := Option.some.inj H
                      exact Fin.pan (C := cfg) (fn := Tryd.f20) ⟨rfl, (Hp.drop (Hp.drop (Hp.drop hp499 0) 0) 0)⟩
                  · skip
                    refine Eo.callX (gsexp_parser__quoted_ok (Hp.front (Hp.front hp405 1) 1) hv502) rfl rfl ?_
                    intro σ506 hp505
                    obtain rfl := Option.some.inj H
                    exact Fin.pan (C := cfg) (fn := Tryd.f20) ⟨rfl, (Hp.drop hp505 0)⟩
                · have H := cond_f hc472 H
                  refine Ec.seq ?_
                  refine Ec.region ?_
                  refine Eo.val (x := (.ptr bq0 0)) rfl rfl rfl rfl ?_
                  refine Eo.val (x := (.ptr bq0 0)) rfl rfl rfl rfl ?_
                  refine Eo.val (x := (.ptr bq0 1)) rfl rfl rfl rfl ?_
                  refine Eo.val (x := (.v (.int .i64 r366))) (op_loadB hp405 0 rfl rfl rfl rfl) rfl rfl rfl ?_
                  refine Eo.val (x := (.v (.int .i64 r366))) rfl rfl rfl rfl ?_
                  refine Eo.nil ?_
                  refine Ec.seq ?_
                  refine Ec.region ?_
                  refine Eo.val (x := (.ptr bq0 0)) rfl rfl rfl rfl ?_
                  obtain ⟨v535, hv536, H⟩ := bind_some H
                  rcases v535 with r538 | p537
                  · skip
                    refine Eo.callV (gsexp_parser__run_ok (Hp.front (Hp.front hp405 1) 1) hv536) rfl rfl rfl rfl ?_
                    obtain ⟨r507, r510⟩ := r538
                    rintro _ σ512 ⟨a508, rfl, h509, hp511⟩
                    change Hp σ512 (.blk bq0 (.cells [(.v (.string p0_0)), (.v (.int .i64 r510)), (.v (.int .i64 y186))] 50) :: .app a508 34 :: .app a183 34 :: R) at hp511
                    refine Eo.alloc (z := [(.v (.int .i64 0)), (.v (.string (ByteArray.mk #[]))), (.v (.int .i64 0)), nilS]) hp511 rfl rfl rfl rfl rfl ?_
                    intro b513 σ515 hp514
                    refine Eo.store hp514 0 rfl (storeCells_mk rfl rfl rfl (by simp [allOne, A.cells, h509.isOne]) rfl rfl) rfl rfl rfl rfl rfl ?_
                    intro σ517 hp516
                    change Hp σ517 (.blk b513 (.cells [(.v (.int .i64 r507.f_Kind)), (.v (.string r507.f_Word)), (.v (.int .i64 r507.f_Num)), a508] 34) :: .blk bq0 (.cells [(.v (.string p0_0)), (.v (.int .i64 r510)), (.v (.int .i64 y186))] 50) :: .app a508 34 :: .app a183 34 :: R) at hp516
                    refine Eo.nil ?_
                    refine Ec.seq ?_
                    refine Ec.region ?_
                    refine Eo.val (x := (.ptr bq0 0)) rfl rfl rfl rfl ?_
                    refine Eo.val (x := (.v (.int .i64 r366))) rfl rfl rfl rfl ?_
                    obtain ⟨v530, hv531, H⟩ := bind_some H
                    rcases v530 with r518 | p532
                    · skip
                      refine Eo.callV (gsexp_parser__counted_ok (Hp.front (Hp.front (Hp.front (Hp.front hp516 3) 3) 2) 3) hv531) rfl rfl rfl rfl ?_
                      rintro _ σ520 ⟨rfl, hp519⟩
                      change Hp σ520 (.blk bq0 (.cells [(.v (.string p0_0)), (.v (.int .i64 r510)), (.v (.int .i64 r518))] 50) :: .blk b513 (.cells [(.v (.int .i64 r507.f_Kind)), (.v (.string r507.f_Word)), (.v (.int .i64 r507.f_Num)), a508] 34) :: .app a508 34 :: .app a183 34 :: R) at hp519
                      refine Eo.nil ?_
                      refine Ec.region ?_
                      refine Eo.val (x := a183) rfl rfl rfl rfl ?_
                      refine Eo.val (x := (.agg [(.v (.int .i64 r507.f_Kind)), (.v (.string r507.f_Word)), (.v (.int .i64 r507.f_Num)), a508])) (op_loadB hp519 1 rfl rfl rfl rfl) rfl rfl rfl ?_
                      refine Eo.val (x := (.sl 4 [(.v (.int .i64 r507.f_Kind)), (.v (.string r507.f_Word)), (.v (.int .i64 r507.f_Num)), a508] .ex)) (op_buildS (lay_cons rfl rfl rfl rfl rfl lay_nil) rfl (parts_cons rfl rfl rfl) Tryd.underlying23 rfl rfl rfl rfl (by decide) rfl) rfl rfl rfl ?_
                      have h524 : Sl rTTree (.sl 4 [(.v (.int .i64 r507.f_Kind)), (.v (.string r507.f_Word)), (.v (.int .i64 r507.f_Num)), a508] .ex) ([r507] : List TTree) := .inr ⟨_, _, rfl, (.cons (c := [(.v (.int .i64 r507.f_Kind)), (.v (.string r507.f_Word)), (.v (.int .i64 r507.f_Num)), a508]) (rTTree_of ⟨a508, rfl, h509⟩) .nil)⟩
                      have hp523 := Hp.appEx hp519 34 4 [(.v (.int .i64 r507.f_Kind)), (.v (.string r507.f_Word)), (.v (.int .i64 r507.f_Num)), a508]
                      obtain ⟨l525, hvl525, H⟩ := bind_some H
                      refine Eo.append hp523 4 rfl h184 (New.of h524) hvl525 rfl rfl rfl rfl rfl rfl rfl Tryd.underlying23 rfl Tryd.underlying23 rfl rfl rfl rfl rfl rfl rfl rfl ?_
                      intro a526 σ529 h527 hp528
                      change Hp σ529 (.app (.sl 4 [(.v (.int .i64 r507.f_Kind)), (.v (.string r507.f_Word)), (.v (.int .i64 r507.f_Num)), a508] .ex) 34 :: .blk bq0 (.cells [(.v (.string p0_0)), (.v (.int .i64 r510)), (.v (.int .i64 r518))] 50) :: .blk b513 (.cells [(.v (.int .i64 r507.f_Kind)), (.v (.string r507.f_Word)), (.v (.int .i64 r507.f_Num)), a508] 34) :: .app a508 34 :: .app a526 34 :: R) at hp528
                      refine Eo.val (x := a526) rfl rfl rfl rfl ?_
                      refine Eo.nil ?_
                      exact Ec.of (.cons rfl (.cons rfl (.cons rfl (.nil')))) (ih ((l525, r510, r518), a526) _ ⟨h527, (Hp.front (Hp.front (Hp.drop (Hp.drop (Hp.drop hp528 0) 1) 1) 1) 1)⟩ H)
                    · skip
                      refine Eo.callX (gsexp_parser__counted_ok (Hp.front (Hp.front (Hp.front (Hp.front hp516 3) 3) 2) 3) hv531) rfl rfl ?_
                      intro σ534 hp533
                      obtain rfl := Option.some.inj H
                      exact Fin.pan (C := cfg) (fn := Tryd.f20) ⟨rfl, (Hp.drop (Hp.drop (Hp.drop hp533 0) 0) 0)⟩
                  · skip
                    refine Eo.callX (gsexp_parser__run_ok (Hp.front (Hp.front hp405 1) 1) hv536) rfl rfl ?_
                    intro σ540 hp539
                    obtain rfl := Option.some.inj H
                    exact Fin.pan (C := cfg) (fn := Tryd.f20) ⟨rfl, (Hp.drop hp539 0)⟩
    · rcases v545 with _ | r547
      · intro x φ548 σ549 hJ
        exact hJ.elim
      · intro x φ550 σ551 hJ
        obtain rfl := Option.some.inj H
        cases x <;> first | exact hJ | exact hJ.elim

theorem gsexp_parser__list_ok {n : Nat} {bq0 : Nat} {p0_0 : ByteArray} {p0_1 : Int} {p0_2 : Int} {p1 : Int} {R : List Res} {σ : St} (hp : Hp σ (.blk bq0 (.cells [(.v (.string p0_0)), (.v (.int .i64 p0_1)), (.v (.int .i64 p0_2))] 50) :: R)) {r : (PR ((List TTree) × Int × Int) Tsexp_fault)} (H : gsexp_parser__list n p0_0 p0_1 p0_2 p1 = some r) : CaO cfg 20 [(.ptr bq0 0), (.v (.int .i64 p1))] σ (gsexp_parser__list_post bq0 p0_0 R r) := gsexp_parser__list_rec_ok n hp H

def gsexp_Parse_1_fin (_n : Nat) (_p0_0 : (List TTree)) (_p1_0 : Int) (_p2_0 : Int) : Option Unit := ((some () : Option (Unit)).bind fun _ => some ())

theorem gsexp_Parse_1_fin_ok {n : Nat} {bq0 : Nat} {bq1 : Nat} {bq2 : Nat} {p0_0 : (List TTree)} {p1_0 : Int} {p2_0 : Int} {a1 : A} {R : List Res} {σ : St} (_h2 : Sl rTTree a1 p0_0) (hp : Hp σ (.blk bq0 (.cells [a1] 23) :: .blk bq1 (.cells [(.v (.int .i64 p1_0))] 3) :: .blk bq2 (.cells [(.v (.int .i64 p2_0))] 26) :: .app a1 34 :: R)) {r : Unit} (H : gsexp_Parse_1_fin n p0_0 p1_0 p2_0 = some r) : Cd cfg 19 [(.ptr bq0 0), (.ptr bq1 0), (.ptr bq2 0)] σ none (fun s q => q = none ∧ (Hp s (.blk bq0 (.cells [a1] 23) :: .blk bq1 (.cells [(.v (.int .i64 p1_0))] 3) :: .blk bq2 (.cells [(.v (.int .i64 p2_0))] 26) :: .app a1 34 :: R))) := by
  unfold gsexp_Parse_1_fin at H
  refine Cd.enter (G := [(0, (.ptr bq0 0)), (1, (.ptr bq1 0)), (2, (.ptr bq2 0))]) Tryd.func19 rfl rfl rfl rfl ?_
  refine EsC.seq ?_
  refine EsC.rcv rfl rfl rfl rfl rfl ?_
  refine Eo.val (x := (.v .nilIface)) rfl rfl rfl rfl ?_
  refine Eo.nil ?_
  refine ⟨rfl, rfl, rfl, _, Fl.self _, ?_⟩
  refine EsC.of ?_
  refine Ec.seq ?_
  refine Ec.region ?_
  refine Eo.val (x := (.v .nilIface)) rfl rfl rfl rfl ?_
  refine Eo.val (x := (.v (.bool false))) (op_nilNil rfl rfl rfl Tryd.underlying20 rfl) rfl rfl rfl ?_
  refine Eo.nil ?_
  obtain ⟨v7, hv8, H⟩ := bind_some H
  refine Ec.cut (J := (fun (_ : Unit) (x : X) (φ : Fr) (s : St) => x = .normal ∧ (Hp s (.blk bq0 (.cells [a1] 23) :: .blk bq1 (.cells [(.v (.int .i64 p1_0))] 3) :: .blk bq2 (.cells [(.v (.int .i64 p2_0))] 26) :: .app a1 34 :: R) ∧ Fl [] φ)) v7) ?_ ?_
  · have H := hv8
    refine Ec.cond (t := false) rfl (fun h => nomatch h) (fun h => ?_)
    refine Ec.skip ?_
    obtain rfl := Option.some.inj H
    exact And.intro rfl ⟨(Hp.front (Hp.front (Hp.front (Hp.front hp 3) 3) 3) 3), (.nil')⟩
  · skip
    intro x φ5 σ4 hJ
    obtain ⟨rfl, hp3, hf6⟩ := hJ
    obtain rfl := Option.some.inj H
    exact ⟨.inl rfl, hf6.2, .inl rfl, hf6.2, ⟨[], rfl⟩, rfl, (Hp.front (Hp.front (Hp.front (Hp.front hp3 3) 3) 3) 3)⟩

def gsexp_Parse_1_pan (_n : Nat) (_p0_0 : (List TTree)) (_p1_0 : Int) (_p2_0 : Int) (pp : Tsexp_fault) : Option ((List TTree) × Int × Int) := ((((some (([] : List TTree), pp.f_at, pp.f_e) : Option (((List TTree) × Int × Int))).bind fun v => match v with | (x49, x52, x53) => some (x49, x52, x53)) : Option (((List TTree) × Int × Int))).bind fun v => match v with | (x33, x36, x37) => some (x33, x36, x37))

theorem gsexp_Parse_1_pan_ok {n : Nat} {bq0 : Nat} {bq1 : Nat} {bq2 : Nat} {p0_0 : (List TTree)} {p1_0 : Int} {p2_0 : Int} {pp : Tsexp_fault} {a1 : A} {R : List Res} {σ : St} (_h2 : Sl rTTree a1 p0_0) (hp : Hp σ (.blk bq0 (.cells [a1] 23) :: .blk bq1 (.cells [(.v (.int .i64 p1_0))] 3) :: .blk bq2 (.cells [(.v (.int .i64 p2_0))] 26) :: .app a1 34 :: R)) {r : ((List TTree) × Int × Int)} (H : gsexp_Parse_1_pan n p0_0 p1_0 p2_0 pp = some r) : Cd cfg 19 [(.ptr bq0 0), (.ptr bq1 0), (.ptr bq2 0)] σ (some (.ifc 47 (.agg [(.v (.int .i64 pp.f_at)), (.v (.int .i64 pp.f_e))]))) (fun s q => q = none ∧ (∃ (a3 : A), Sl rTTree a3 r.1 ∧ Hp s (.blk bq0 (.cells [a3] 23) :: .blk bq1 (.cells [(.v (.int .i64 r.2.1))] 3) :: .blk bq2 (.cells [(.v (.int .i64 r.2.2))] 26) :: .app a3 34 :: R))) := by
  unfold gsexp_Parse_1_pan at H
  refine Cd.enter (G := [(0, (.ptr bq0 0)), (1, (.ptr bq1 0)), (2, (.ptr bq2 0))]) Tryd.func19 rfl rfl rfl rfl ?_
  refine EsC.seq ?_
  refine EsC.rcv rfl rfl rfl rfl rfl ?_
  refine Eo.val (x := (.ifc 47 (.agg [(.v (.int .i64 pp.f_at)), (.v (.int .i64 pp.f_e))]))) rfl rfl rfl rfl ?_
  refine Eo.nil ?_
  refine ⟨rfl, rfl, rfl, _, Fl.self _, ?_⟩
  refine EsC.of ?_
  refine Ec.seq ?_
  refine Ec.region ?_
  refine Eo.val (x := (.ifc 47 (.agg [(.v (.int .i64 pp.f_at)), (.v (.int .i64 pp.f_e))]))) rfl rfl rfl rfl ?_
  refine Eo.val (x := (.v (.bool true))) (op_neNil rfl rfl rfl Tryd.underlying20 rfl) rfl rfl rfl ?_
  refine Eo.nil ?_
  obtain ⟨v70, hv71, H⟩ := bind_some H
  refine Ec.cut (J := (fun (v : ((List TTree) × Int × Int)) (x : X) (φ : Fr) (s : St) => match v with | (x33, x36, x37) => x = .normal ∧ (∃ (a34 : A), Sl rTTree a34 x33 ∧ Hp s (.blk bq0 (.cells [a34] 23) :: .blk bq1 (.cells [(.v (.int .i64 x36))] 3) :: .blk bq2 (.cells [(.v (.int .i64 x37))] 26) :: .app a34 34 :: R) ∧ Fl [] φ)) v70) ?_ ?_
  · have H := hv71
    refine Ec.cond (t := true) rfl (fun h => ?_) (fun h => nomatch h)
    refine Ec.seq ?_
    refine Ec.region ?_
    refine Eo.val (x := (.ifc 47 (.agg [(.v (.int .i64 pp.f_at)), (.v (.int .i64 pp.f_e))]))) rfl rfl rfl rfl ?_
    refine Eo.val (x := (.agg [(.v (.int .i64 pp.f_at)), (.v (.int .i64 pp.f_e))])) (op_assert rfl rfl Tryd.underlying47 rfl) rfl rfl rfl ?_
    refine Eo.alloc (z := [(.v (.int .i64 0)), (.v (.int .i64 0))]) hp rfl rfl rfl rfl rfl ?_
    intro b38 σ40 hp39
    refine Eo.store hp39 0 rfl (storeCells_mk rfl rfl rfl rfl rfl rfl) rfl rfl rfl rfl rfl ?_
    intro σ42 hp41
    change Hp σ42 (.blk b38 (.cells [(.v (.int .i64 pp.f_at)), (.v (.int .i64 pp.f_e))] 47) :: .blk bq0 (.cells [a1] 23) :: .blk bq1 (.cells [(.v (.int .i64 p1_0))] 3) :: .blk bq2 (.cells [(.v (.int .i64 p2_0))] 26) :: .app a1 34 :: R) at hp41
    refine Eo.nil ?_
    obtain ⟨v64, hv65, H⟩ := bind_some H
    refine Ec.cut (J := (fun (v : ((List TTree) × Int × Int)) (x : X) (φ : Fr) (s : St) => match v with | (x49, x52, x53) => x = .normal ∧ (∃ (a50 : A), Sl rTTree a50 x49 ∧ Hp s (.blk bq0 (.cells [a50] 23) :: .blk bq1 (.cells [(.v (.int .i64 x52))] 3) :: .blk bq2 (.cells [(.v (.int .i64 x53))] 26) :: .app a50 34 :: R) ∧ Fl [] φ)) v64) ?_ ?_
    · have H := hv65
      refine Ec.drawnS (by kernel_rfl) ?_
      refine Ed.val (x := (.ptr b38 0)) rfl rfl rfl rfl rfl rfl ?_
      refine Ed.val (x := (.v (.int .i64 pp.f_at))) (op_loadB hp41 0 rfl rfl rfl rfl) rfl rfl rfl rfl rfl ?_
      refine Ed.val (x := (.ptr b38 1)) rfl rfl rfl rfl rfl rfl ?_
      refine Ed.val (x := (.v (.int .i64 pp.f_e))) (op_loadB hp41 0 rfl rfl rfl rfl) rfl rfl rfl rfl rfl ?_
      refine Ed.store hp41 1 rfl (storeCells_mk (rfl) rfl rfl rfl rfl rfl) rfl rfl rfl rfl rfl (fun σ' hp' => ((stF_load rfl (op_loadB hp' 0 rfl rfl rfl rfl) (stF_pure rfl (stF_load rfl (op_loadB hp' 0 rfl rfl rfl rfl) (stF_pure rfl stF_nil)))))) ?_
      intro σ55 hp54
      change Hp σ55 (.blk b38 (.cells [(.v (.int .i64 pp.f_at)), (.v (.int .i64 pp.f_e))] 47) :: .blk bq0 (.cells [nilS] 23) :: .blk bq1 (.cells [(.v (.int .i64 p1_0))] 3) :: .blk bq2 (.cells [(.v (.int .i64 p2_0))] 26) :: .app a1 34 :: R) at hp54
      refine Ed.store hp54 2 rfl (storeCells_mk rfl rfl rfl rfl rfl rfl) rfl rfl rfl rfl rfl (fun σ' hp' => ((stF_load rfl (op_loadB hp' 0 rfl rfl rfl rfl) (stF_pure rfl (stF_load rfl (op_loadB hp' 0 rfl rfl rfl rfl) (stF_pure rfl stF_nil)))))) ?_
      intro σ57 hp56
      change Hp σ57 (.blk b38 (.cells [(.v (.int .i64 pp.f_at)), (.v (.int .i64 pp.f_e))] 47) :: .blk bq0 (.cells [nilS] 23) :: .blk bq1 (.cells [(.v (.int .i64 pp.f_at))] 3) :: .blk bq2 (.cells [(.v (.int .i64 p2_0))] 26) :: .app a1 34 :: R) at hp56
      refine Ed.store hp56 3 rfl (storeCells_mk rfl rfl rfl rfl rfl rfl) rfl rfl rfl rfl rfl (fun σ' hp' => ((stF_load rfl (op_loadB hp' 0 rfl rfl rfl rfl) (stF_pure rfl (stF_load rfl (op_loadB hp' 0 rfl rfl rfl rfl) (stF_pure rfl stF_nil)))))) ?_
      intro σ59 hp58
      change Hp σ59 (.blk b38 (.cells [(.v (.int .i64 pp.f_at)), (.v (.int .i64 pp.f_e))] 47) :: .blk bq0 (.cells [nilS] 23) :: .blk bq1 (.cells [(.v (.int .i64 pp.f_at))] 3) :: .blk bq2 (.cells [(.v (.int .i64 pp.f_e))] 26) :: .app a1 34 :: R) at hp58
      refine Ed.nil ?_
      obtain rfl := Option.some.inj H
      exact And.intro rfl (And.intro rfl ⟨nilS, Sl.nil, (Hp.front (Hp.front (Hp.front (Hp.appNil (Hp.drop (Hp.drop hp58 0) 3) 34) 3) 3) 3), (.nil')⟩)
    · skip
      intro x φ62 σ61 hJ
      obtain ⟨x49, x52, x53⟩ := v64
      obtain ⟨rfl, a50, h51, hp60, hf63⟩ := hJ
      obtain rfl := Option.some.inj H
      exact And.intro rfl ⟨a50, h51, (Hp.front (Hp.front (Hp.front (Hp.front hp60 3) 3) 3) 3), (Fl.trans (G := []) (.nil') hf63)⟩
  · skip
    intro x φ68 σ67 hJ
    obtain ⟨x33, x36, x37⟩ := v70
    obtain ⟨rfl, a34, h35, hp66, hf69⟩ := hJ
    obtain rfl := Option.some.inj H
    exact ⟨.inl rfl, hf69.2, .inl rfl, hf69.2, ⟨[], rfl⟩, rfl, a34, h35, (Hp.front (Hp.front (Hp.front (Hp.front hp66 3) 3) 3) 3)⟩

def gsexp_Parse (n : Nat) (p0 : ByteArray) : Option (((List TTree) × Int × Int)) := (cond (decide (((p0.size : Nat) : Int) > 262144)) (some (([] : List TTree), 0, 33)) (((gsexp_parser__list n p0 0 0 0).bind fun v => match v with | .val (r22, _r25, _r26) => ((gsexp_Parse_1_fin n r22 0 0).bind fun v => match v with | _ => some (r22, 0, 0)) | .pan p40 => ((gsexp_Parse_1_pan n ([] : List TTree) 0 0 p40).bind fun v => match v with | (r44, r47, r48) => some (r44, r47, r48)))))

def gsexp_Parse_post (R : List Res) (r : ((List TTree) × Int × Int)) (x : A) (s : St) : Prop := ∃ (a1 : A), x = (.tup [a1, (.v (.int .i64 r.2.1)), (.v (.int .i64 r.2.2))]) ∧ Sl rTTree a1 r.1 ∧ Hp s (.app a1 34 :: R)

theorem gsexp_Parse_ok {n : Nat} {p0 : ByteArray} {R : List Res} {σ : St} (hp : Hp σ R) {r : ((List TTree) × Int × Int)} (H : gsexp_Parse n p0 = some r) : Ca cfg 11 [(.v (.string p0))] σ (gsexp_Parse_post R r) := by
  refine CaO.val ?_
  unfold gsexp_Parse at H
  refine CaO.enterD (G := [(0, (.v (.string p0)))]) Tryd.func11 rfl rfl rfl rfl ?_
  refine Ec.seq ?_
  refine Ec.region ?_
  refine Eo.alloc (z := [nilS]) hp rfl rfl rfl rfl rfl ?_
  intro b3 σ5 hp4
  refine Eo.alloc (z := [(.v (.int .i64 0))]) hp4 rfl rfl rfl rfl rfl ?_
  intro b6 σ8 hp7
  refine Eo.alloc (z := [(.v (.int .i64 0))]) hp7 rfl rfl rfl rfl rfl ?_
  intro b9 σ11 hp10
  refine Eo.nil ?_
  refine Ec.seq ?_
  refine Ec.seq ?_
  refine Ec.region ?_
  refine Eo.val (x := (.v (.string p0))) rfl rfl rfl rfl ?_
  refine Eo.val (x := (.v (.int .i64 ((p0.size : Nat) : Int)))) (op_len rfl rfl rfl rfl rfl Tryd.underlying9) rfl rfl rfl ?_
  refine Eo.val (x := (.v (.bool (decide (((p0.size : Nat) : Int) > 262144))))) rfl rfl rfl rfl ?_
  refine Eo.nil ?_
  refine Ec.cond (t := (decide (((p0.size : Nat) : Int) > 262144))) rfl (fun hc12 => ?_) (fun hc12 => ?_)
  · have H := cond_t hc12 H
    refine Ec.seq ?_
    refine Ec.region ?_
    refine Eo.store hp10 2 rfl (storeCells_mk (rfl) rfl rfl rfl rfl rfl) rfl rfl rfl rfl rfl ?_
    intro σ14 hp13
    change Hp σ14 (.blk b9 (.cells [(.v (.int .i64 0))] 26) :: .blk b6 (.cells [(.v (.int .i64 0))] 3) :: .blk b3 (.cells [nilS] 23) :: R) at hp13
    refine Eo.store hp13 1 rfl (storeCells_mk rfl rfl rfl rfl rfl rfl) rfl rfl rfl rfl rfl ?_
    intro σ16 hp15
    change Hp σ16 (.blk b9 (.cells [(.v (.int .i64 0))] 26) :: .blk b6 (.cells [(.v (.int .i64 0))] 3) :: .blk b3 (.cells [nilS] 23) :: R) at hp15
    refine Eo.store hp15 0 rfl (storeCells_mk rfl rfl rfl rfl rfl rfl) rfl rfl rfl rfl rfl ?_
    intro σ18 hp17
    change Hp σ18 (.blk b9 (.cells [(.v (.int .i64 33))] 26) :: .blk b6 (.cells [(.v (.int .i64 0))] 3) :: .blk b3 (.cells [nilS] 23) :: R) at hp17
    refine Eo.nil ?_
    obtain rfl := Option.some.inj H
    refine Ec.ret ?_
    refine FinD.ret0 (resA_cell hp17 2 rfl rfl rfl (resA_cell hp17 1 rfl rfl rfl (resA_cell hp17 0 rfl rfl rfl rfl))) ?_
    exact ⟨nilS, rfl, Sl.nil, (Hp.appNil (Hp.drop (Hp.drop (Hp.drop hp17 0) 0) 0) 34)⟩
  · have H := cond_f hc12 H
    refine Ec.skip ?_
    refine Ec.seq ?_
    refine Ec.region ?_
    refine Eo.val (x := (.fn (.func 19) [] [(.ptr b3 0), (.ptr b6 0), (.ptr b9 0)])) rfl rfl rfl rfl ?_
    refine Eo.deferSeq rfl rfl rfl ?_
    refine Ec.seq ?_
    refine Ec.region ?_
    refine Eo.val (x := (.v (.string p0))) rfl rfl rfl rfl ?_
    refine Eo.val (x := (.agg [(.v (.string p0)), (.v (.int .i64 0)), (.v (.int .i64 0))])) (op_build (lay_cons rfl rfl rfl rfl rfl lay_nil) rfl (parts_cons rfl rfl rfl) Tryd.underlying50 rfl rfl) rfl rfl rfl ?_
    refine Eo.box hp10 rfl rfl rfl rfl rfl rfl rfl ?_
    intro b19 σ21 hp20
    refine Eo.val (x := (.ptr b19 0)) rfl rfl rfl rfl ?_
    refine Eo.nil ?_
    refine Ec.seq ?_
    refine Ec.region ?_
    refine Eo.val (x := (.ptr b19 0)) rfl rfl rfl rfl ?_
    obtain ⟨v38, hv39, H⟩ := bind_some H
    rcases v38 with r41 | p40
    · skip
      refine Eo.callV (gsexp_parser__list_ok (Hp.front (Hp.front (Hp.front (Hp.front hp20 3) 3) 3) 3) hv39) rfl rfl rfl rfl ?_
      obtain ⟨r22, r25, r26⟩ := r41
      rintro a23 σ28 ⟨_, rfl, h24, hp27⟩
      change Hp σ28 (.blk b19 (.cells [(.v (.string p0)), (.v (.int .i64 r25)), (.v (.int .i64 r26))] 50) :: .app a23 34 :: .blk b9 (.cells [(.v (.int .i64 0))] 26) :: .blk b6 (.cells [(.v (.int .i64 0))] 3) :: .blk b3 (.cells [nilS] 23) :: R) at hp27
      refine Eo.store hp27 4 rfl (storeCells_mk (h24.cells) rfl rfl (by simp [allOne, h24.isOne]) rfl rfl) rfl rfl rfl rfl rfl ?_
      intro σ30 hp29
      change Hp σ30 (.blk b19 (.cells [(.v (.string p0)), (.v (.int .i64 r25)), (.v (.int .i64 r26))] 50) :: .app a23 34 :: .blk b9 (.cells [(.v (.int .i64 0))] 26) :: .blk b6 (.cells [(.v (.int .i64 0))] 3) :: .blk b3 (.cells [a23] 23) :: R) at hp29
      refine Eo.store hp29 3 rfl (storeCells_mk rfl rfl rfl rfl rfl rfl) rfl rfl rfl rfl rfl ?_
      intro σ32 hp31
      change Hp σ32 (.blk b19 (.cells [(.v (.string p0)), (.v (.int .i64 r25)), (.v (.int .i64 r26))] 50) :: .app a23 34 :: .blk b9 (.cells [(.v (.int .i64 0))] 26) :: .blk b6 (.cells [(.v (.int .i64 0))] 3) :: .blk b3 (.cells [a23] 23) :: R) at hp31
      refine Eo.store hp31 2 rfl (storeCells_mk rfl rfl rfl rfl rfl rfl) rfl rfl rfl rfl rfl ?_
      intro σ34 hp33
      change Hp σ34 (.blk b19 (.cells [(.v (.string p0)), (.v (.int .i64 r25)), (.v (.int .i64 r26))] 50) :: .app a23 34 :: .blk b9 (.cells [(.v (.int .i64 0))] 26) :: .blk b6 (.cells [(.v (.int .i64 0))] 3) :: .blk b3 (.cells [a23] 23) :: R) at hp33
      refine Eo.nil ?_
      obtain ⟨r37, hvr37, H⟩ := bind_some H
      refine Ec.ret ?_
      refine FinD.retD (Cd.imp (gsexp_Parse_1_fin_ok h24 (Hp.front (Hp.front (Hp.front (Hp.front hp33 1) 2) 3) 4) hvr37) ?_)
      obtain rfl := Option.some.inj H
      rintro σ36 _ ⟨rfl, hp35⟩
      change Hp σ36 (.blk b3 (.cells [a23] 23) :: .blk b6 (.cells [(.v (.int .i64 0))] 3) :: .blk b9 (.cells [(.v (.int .i64 0))] 26) :: .app a23 34 :: .blk b19 (.cells [(.v (.string p0)), (.v (.int .i64 r25)), (.v (.int .i64 r26))] 50) :: R) at hp35
      refine ⟨rfl, _, (resA_cell hp35 0 rfl rfl rfl (resA_cell hp35 1 rfl rfl rfl (resA_cell hp35 2 rfl rfl rfl rfl))), ?_⟩
      exact ⟨a23, rfl, h24, (Hp.drop (Hp.drop (Hp.drop (Hp.drop hp35 0) 0) 0) 1)⟩
    · skip
      refine Eo.callX (gsexp_parser__list_ok (Hp.front (Hp.front (Hp.front (Hp.front hp20 3) 3) 3) 3) hv39) rfl rfl ?_
      intro σ43 hp42
      obtain ⟨r51, hvr51, H⟩ := bind_some H
      refine FinD.panD (Cd.imp (gsexp_Parse_1_pan_ok Sl.nil (Hp.front (Hp.front (Hp.front (Hp.appNil hp42 34) 1) 2) 3) hvr51) ?_)
      obtain ⟨r44, r47, r48⟩ := r51
      obtain rfl := Option.some.inj H
      rintro σ50 _ ⟨rfl, a45, h46, hp49⟩
      change Hp σ50 (.blk b3 (.cells [a45] 23) :: .blk b6 (.cells [(.v (.int .i64 r47))] 3) :: .blk b9 (.cells [(.v (.int .i64 r48))] 26) :: .app a45 34 :: R) at hp49
      refine ⟨rfl, _, (resA_cell hp49 0 rfl rfl rfl (resA_cell hp49 1 rfl rfl rfl (resA_cell hp49 2 rfl rfl rfl rfl))), ?_⟩
      exact ⟨a45, rfl, h46, (Hp.drop (Hp.drop (Hp.drop hp49 0) 0) 0)⟩

def gdovetaillaw03_sexpAlive (n : Nat) : Option (Bool) := ((gsexp_Parse n (ByteArray.mk #[40, 97, 32, 34, 98, 32, 99, 34, 32, 45, 55, 41, 32, 59, 32, 120])).bind fun v => match v with | (r2, _r3, r4) => ((gsexp_Parse n (ByteArray.mk #[40, 97])).bind fun v => match v with | (_r10, r11, r12) => (((cond ((r4 == 0) && (((r2.length : Nat) : Int) == 1)) (((atL r2 0).bind fun x32 => some (((x32.f_Kids.length : Nat) : Int) == 3))) (some false)) : Option (Bool)).bind fun x30 => (((cond x30 (((atL r2 0).bind fun x60 => ((atL x60.f_Kids 2).bind fun x67 => some (x67.f_Num == (-7))))) (some false)) : Option (Bool)).bind fun x58 => some ((x58 && (r11 == 2)) && (r12 == 31))))))

def gdovetaillaw03_sexpAlive_post (R : List Res) (r : Bool) (x : A) (s : St) : Prop := x = (.v (.bool r)) ∧ Hp s (R)

theorem gdovetaillaw03_sexpAlive_ok {n : Nat} {R : List Res} {σ : St} (hp : Hp σ R) {r : Bool} (H : gdovetaillaw03_sexpAlive n = some r) : Ca cfg 9 [] σ (gdovetaillaw03_sexpAlive_post R r) := by
  unfold gdovetaillaw03_sexpAlive at H
  refine Ca.enterL (G := []) Tryd.func9 rfl rfl rfl rfl ?_
  refine Ec.seq ?_
  refine Ec.region ?_
  refine Eo.val (x := (.v (.bool false))) rfl rfl rfl rfl ?_
  refine Eo.nil ?_
  refine Ec.seq ?_
  refine Ec.region ?_
  obtain ⟨r1, hvr1, H⟩ := bind_some H
  refine Eo.call rfl rfl rfl rfl (gsexp_Parse_ok hp hvr1) ?_
  obtain ⟨r2, r3, r4⟩ := r1
  rintro _ σ8 ⟨a5, rfl, h6, hp7⟩
  change Hp σ8 (.app a5 34 :: R) at hp7
  refine Eo.val (x := (.tup [a5, (.v (.int .i64 r3)), (.v (.int .i64 r4))])) rfl rfl rfl rfl ?_
  refine Eo.val (x := a5) rfl rfl rfl rfl ?_
  refine Eo.val (x := (.v (.int .i64 r3))) rfl rfl rfl rfl ?_
  refine Eo.val (x := (.v (.int .i64 r4))) rfl rfl rfl rfl ?_
  refine Eo.val (x := a5) rfl rfl rfl rfl ?_
  refine Eo.val (x := (.v (.int .i64 r3))) rfl rfl rfl rfl ?_
  refine Eo.val (x := (.v (.int .i64 r4))) rfl rfl rfl rfl ?_
  refine Eo.nil ?_
  refine Ec.seq ?_
  refine Ec.region ?_
  obtain ⟨r9, hvr9, H⟩ := bind_some H
  refine Eo.call rfl rfl rfl rfl (gsexp_Parse_ok hp7 hvr9) ?_
  obtain ⟨r10, r11, r12⟩ := r9
  rintro _ σ16 ⟨a13, rfl, h14, hp15⟩
  change Hp σ16 (.app a13 34 :: .app a5 34 :: R) at hp15
  refine Eo.val (x := (.tup [a13, (.v (.int .i64 r11)), (.v (.int .i64 r12))])) rfl rfl rfl rfl ?_
  refine Eo.val (x := a13) rfl rfl rfl rfl ?_
  refine Eo.val (x := (.v (.int .i64 r11))) rfl rfl rfl rfl ?_
  refine Eo.val (x := (.v (.int .i64 r12))) rfl rfl rfl rfl ?_
  refine Eo.val (x := a13) rfl rfl rfl rfl ?_
  refine Eo.val (x := (.v (.int .i64 r11))) rfl rfl rfl rfl ?_
  refine Eo.val (x := (.v (.int .i64 r12))) rfl rfl rfl rfl ?_
  refine Eo.nil ?_
  refine Ec.seq ?_
  refine Ec.region ?_
  refine Eo.val (x := (.v (.int .i64 r4))) rfl rfl rfl rfl ?_
  refine Eo.val (x := (.v (.bool (r4 == 0)))) rfl rfl rfl rfl ?_
  refine Eo.val (x := (.v (.bool (r4 == 0)))) rfl rfl rfl rfl ?_
  refine Eo.cutF 4 [(0, (.v (.bool false))), (1, a5), (5, (.v (.int .i64 r11))), (6, (.v (.int .i64 r12))), (23, (.v (.bool ((r4 == 0) && (((r2.length : Nat) : Int) == 1)))))] ?_ ?_
  · skip
    cases hc19 : (r4 == 0)
    · skip
      refine Eo.off rfl rfl rfl ?_
      refine Eo.off rfl rfl rfl ?_
      refine Eo.off rfl rfl rfl ?_
      refine Eo.val (x := (.v (.bool false))) rfl rfl rfl rfl ?_
      exact Eo.nil (And.intro rfl (And.intro rfl (.cons rfl (.cons rfl (.cons rfl (.cons rfl (.cons rfl (.nil'))))))))
    · skip
      refine Eo.val (x := a5) rfl rfl rfl rfl ?_
      refine Eo.val (x := (.v (.int .i64 ((r2.length : Nat) : Int)))) (op_lenL h6 rfl rfl rfl rfl rfl Tryd.underlying23) rfl rfl rfl ?_
      refine Eo.val (x := (.v (.bool (((r2.length : Nat) : Int) == 1)))) rfl rfl rfl rfl ?_
      refine Eo.val (x := (.v (.bool (((r2.length : Nat) : Int) == 1)))) rfl rfl rfl rfl ?_
      exact Eo.nil (And.intro rfl (And.intro rfl (.cons rfl (.cons rfl (.cons rfl (.cons rfl (.cons rfl (.nil'))))))))
  · skip
    refine Eo.val (x := (.v (.bool ((r4 == 0) && (((r2.length : Nat) : Int) == 1))))) rfl rfl rfl rfl ?_
    obtain ⟨x30, hv91, H⟩ := bind_some H
    refine Eo.cutN 7 (J := (fun (x30 : Bool) (x : X) (φ : Fr) (s : St) => x = .normal ∧ (Hp s (.app a5 34 :: R) ∧ Fl [(0, (.v (.bool false))), (1, a5), (5, (.v (.int .i64 r11))), (6, (.v (.int .i64 r12))), (31, (.v (.bool x30)))] φ)) x30) ?_ ?_
    · have H := hv91
      cases hc31 : ((r4 == 0) && (((r2.length : Nat) : Int) == 1))
      · have H := cond_f hc31 H
        refine Eo.off rfl rfl rfl ?_
        refine Eo.off rfl rfl rfl ?_
        refine Eo.off rfl rfl rfl ?_
        refine Eo.off rfl rfl rfl ?_
        refine Eo.off rfl rfl rfl ?_
        refine Eo.off rfl rfl rfl ?_
        refine Eo.val (x := (.v (.bool false))) rfl rfl rfl rfl ?_
        refine Eo.nil ?_
        obtain rfl := Option.some.inj H
        exact And.intro rfl ⟨(Hp.drop hp15 0), (.cons rfl (.cons rfl (.cons rfl (.cons rfl (.cons rfl (.nil'))))))⟩
      · have H := cond_t hc31 H
        refine Eo.val (x := a5) rfl rfl rfl rfl ?_
        obtain ⟨x32, hvx32, H⟩ := bind_some H
        refine Eo.idx h6 hvx32 rfl rfl rfl Tryd.underlying23 rfl rfl rfl rfl ?_
        intro cs33 p34 _ hat35 hr38
        obtain ⟨a36, rfl, h37⟩ := rTTree_un hr38
        refine Eo.val (x := (.sp cs33 (p34 + 3) .no)) rfl rfl rfl rfl ?_
        refine Eo.val (x := a36) (op_loadSp hat35 3 rfl rfl rfl rfl rfl) rfl rfl rfl ?_
        refine Eo.val (x := (.v (.int .i64 ((x32.f_Kids.length : Nat) : Int)))) (op_lenL h37 rfl rfl rfl rfl rfl Tryd.underlying23) rfl rfl rfl ?_
        refine Eo.val (x := (.v (.bool (((x32.f_Kids.length : Nat) : Int) == 3)))) rfl rfl rfl rfl ?_
        refine Eo.val (x := (.v (.bool (((x32.f_Kids.length : Nat) : Int) == 3)))) rfl rfl rfl rfl ?_
        refine Eo.nil ?_
        obtain rfl := Option.some.inj H
        exact And.intro rfl ⟨(Hp.drop hp15 0), (.cons rfl (.cons rfl (.cons rfl (.cons rfl (.cons rfl (.nil'))))))⟩
    · skip
      intro x φ41 σ40 hJ
      obtain ⟨rfl, hp39, hf42⟩ := hJ
      refine ⟨rfl, Eo.of (F := [(0, (.v (.bool false))), (1, a5), (5, (.v (.int .i64 r11))), (6, (.v (.int .i64 r12))), (31, (.v (.bool x30)))]) hf42 ?_⟩
      refine Eo.val (x := (.v (.bool x30))) rfl rfl rfl rfl ?_
      obtain ⟨x58, hv89, H⟩ := bind_some H
      refine Eo.cutN 9 (J := (fun (x58 : Bool) (x : X) (φ : Fr) (s : St) => x = .normal ∧ (Hp s (R) ∧ Fl [(0, (.v (.bool false))), (5, (.v (.int .i64 r11))), (6, (.v (.int .i64 r12))), (41, (.v (.bool x58)))] φ)) x58) ?_ ?_
      · have H := hv89
        cases hc59 : x30
        · have H := cond_f hc59 H
          refine Eo.off rfl rfl rfl ?_
          refine Eo.off rfl rfl rfl ?_
          refine Eo.off rfl rfl rfl ?_
          refine Eo.off rfl rfl rfl ?_
          refine Eo.off rfl rfl rfl ?_
          refine Eo.off rfl rfl rfl ?_
          refine Eo.off rfl rfl rfl ?_
          refine Eo.off rfl rfl rfl ?_
          refine Eo.val (x := (.v (.bool false))) rfl rfl rfl rfl ?_
          refine Eo.nil ?_
          obtain rfl := Option.some.inj H
          exact And.intro rfl ⟨(Hp.drop hp39 0), (.cons rfl (.cons rfl (.cons rfl (.cons rfl (.nil')))))⟩
        · have H := cond_t hc59 H
          refine Eo.val (x := a5) rfl rfl rfl rfl ?_
          obtain ⟨x60, hvx60, H⟩ := bind_some H
          refine Eo.idx h6 hvx60 rfl rfl rfl Tryd.underlying23 rfl rfl rfl rfl ?_
          intro cs61 p62 _ hat63 hr66
          obtain ⟨a64, rfl, h65⟩ := rTTree_un hr66
          refine Eo.val (x := (.sp cs61 (p62 + 3) .no)) rfl rfl rfl rfl ?_
          refine Eo.val (x := a64) (op_loadSp hat63 3 rfl rfl rfl rfl rfl) rfl rfl rfl ?_
          obtain ⟨x67, hvx67, H⟩ := bind_some H
          refine Eo.idx h65 hvx67 rfl rfl rfl Tryd.underlying23 rfl rfl rfl rfl ?_
          intro cs68 p69 _ hat70 hr73
          obtain ⟨a71, rfl, h72⟩ := rTTree_un hr73
          refine Eo.val (x := (.sp cs68 (p69 + 2) .no)) rfl rfl rfl rfl ?_
          refine Eo.val (x := (.v (.int .i64 x67.f_Num))) (op_loadSp hat70 2 rfl rfl rfl rfl rfl) rfl rfl rfl ?_
          refine Eo.val (x := (.v (.bool (x67.f_Num == (-7))))) rfl rfl rfl rfl ?_
          refine Eo.val (x := (.v (.bool (x67.f_Num == (-7))))) rfl rfl rfl rfl ?_
          refine Eo.nil ?_
          obtain rfl := Option.some.inj H
          exact And.intro rfl ⟨(Hp.drop hp39 0), (.cons rfl (.cons rfl (.cons rfl (.cons rfl (.nil')))))⟩
      · skip
        intro x φ76 σ75 hJ
        obtain ⟨rfl, hp74, hf77⟩ := hJ
        refine ⟨rfl, Eo.of (F := [(0, (.v (.bool false))), (5, (.v (.int .i64 r11))), (6, (.v (.int .i64 r12))), (41, (.v (.bool x58)))]) hf77 ?_⟩
        refine Eo.val (x := (.v (.bool x58))) rfl rfl rfl rfl ?_
        refine Eo.cutF 3 [(0, (.v (.bool false))), (6, (.v (.int .i64 r12))), (45, (.v (.bool (x58 && (r11 == 2)))))] ?_ ?_
        · skip
          cases hc80 : x58
          · skip
            refine Eo.off rfl rfl rfl ?_
            refine Eo.off rfl rfl rfl ?_
            refine Eo.val (x := (.v (.bool false))) rfl rfl rfl rfl ?_
            exact Eo.nil (And.intro rfl (And.intro rfl (.cons rfl (.cons rfl (.cons rfl (.nil'))))))
          · skip
            refine Eo.val (x := (.v (.int .i64 r11))) rfl rfl rfl rfl ?_
            refine Eo.val (x := (.v (.bool (r11 == 2)))) rfl rfl rfl rfl ?_
            refine Eo.val (x := (.v (.bool (r11 == 2)))) rfl rfl rfl rfl ?_
            exact Eo.nil (And.intro rfl (And.intro rfl (.cons rfl (.cons rfl (.cons rfl (.nil'))))))
        · skip
          refine Eo.val (x := (.v (.bool (x58 && (r11 == 2))))) rfl rfl rfl rfl ?_
          refine Eo.cutF 3 [(0, (.v (.bool false))), (49, (.v (.bool ((x58 && (r11 == 2)) && (r12 == 31)))))] ?_ ?_
          · skip
            cases hc85 : (x58 && (r11 == 2))
            · skip
              refine Eo.off rfl rfl rfl ?_
              refine Eo.off rfl rfl rfl ?_
              refine Eo.val (x := (.v (.bool false))) rfl rfl rfl rfl ?_
              exact Eo.nil (And.intro rfl (And.intro rfl (.cons rfl (.cons rfl (.nil')))))
            · skip
              refine Eo.val (x := (.v (.int .i64 r12))) rfl rfl rfl rfl ?_
              refine Eo.val (x := (.v (.bool (r12 == 31)))) rfl rfl rfl rfl ?_
              refine Eo.val (x := (.v (.bool (r12 == 31)))) rfl rfl rfl rfl ?_
              exact Eo.nil (And.intro rfl (And.intro rfl (.cons rfl (.cons rfl (.nil')))))
          · skip
            refine Eo.val (x := (.v (.bool ((x58 && (r11 == 2)) && (r12 == 31))))) rfl rfl rfl rfl ?_
            refine Eo.nil ?_
            obtain rfl := Option.some.inj H
            refine Ec.ret ?_
            refine Ret.mk rfl ?_
            exact ⟨rfl, hp74⟩

def gsexp_sound_1 (n : Nat) (p0 : Int) : Option (Bool) := (((cond (decide (p0 > 126)) (some true) (((gsexp_within n (IntKind.wrap .u8 p0)).bind fun r7 => some (!r7)))) : Option (Bool)).bind fun x5 => some x5)

def gsexp_sound_1_post (R : List Res) (r : Bool) (x : A) (s : St) : Prop := x = (.v (.bool r)) ∧ Hp s (R)

theorem gsexp_sound_1_ok {n : Nat} {p0 : Int} {R : List Res} {σ : St} (hp : Hp σ R) {r : Bool} (H : gsexp_sound_1 n p0 = some r) : Ca cfg 41 [(.v (.int .i32 p0))] σ (gsexp_sound_1_post R r) := by
  unfold gsexp_sound_1 at H
  refine Ca.enterL (G := [(0, (.v (.int .i32 p0)))]) Tryd.func41 rfl rfl rfl rfl ?_
  refine Ec.seq ?_
  refine Ec.region ?_
  refine Eo.val (x := (.v (.bool false))) rfl rfl rfl rfl ?_
  refine Eo.nil ?_
  refine Ec.seq ?_
  refine Ec.region ?_
  refine Eo.val (x := (.v (.int .i32 p0))) rfl rfl rfl rfl ?_
  refine Eo.val (x := (.v (.bool (decide (p0 > 126))))) rfl rfl rfl rfl ?_
  refine Eo.val (x := (.v (.bool (decide (p0 > 126))))) rfl rfl rfl rfl ?_
  obtain ⟨x5, hv15, H⟩ := bind_some H
  refine Eo.cutN 5 (J := (fun (x5 : Bool) (x : X) (φ : Fr) (s : St) => x = .normal ∧ (Hp s (R) ∧ Fl [(2, (.v (.bool false))), (10, (.v (.bool x5)))] φ)) x5) ?_ ?_
  · have H := hv15
    cases hc6 : (decide (p0 > 126))
    · have H := cond_f hc6 H
      refine Eo.val (x := (.v (.int .i32 p0))) rfl rfl rfl rfl ?_
      refine Eo.val (x := (.v (.int .u8 (IntKind.wrap .u8 p0)))) rfl rfl rfl rfl ?_
      obtain ⟨r7, hvr7, H⟩ := bind_some H
      refine Eo.call rfl rfl rfl rfl (gsexp_within_ok hp hvr7) ?_
      rintro _ σ9 ⟨rfl, hp8⟩
      refine Eo.val (x := (.v (.bool (!r7)))) rfl rfl rfl rfl ?_
      refine Eo.val (x := (.v (.bool (!r7)))) rfl rfl rfl rfl ?_
      refine Eo.nil ?_
      obtain rfl := Option.some.inj H
      exact And.intro rfl ⟨hp8, (.cons rfl (.cons rfl (.nil')))⟩
    · have H := cond_t hc6 H
      refine Eo.off rfl rfl rfl ?_
      refine Eo.off rfl rfl rfl ?_
      refine Eo.off rfl rfl rfl ?_
      refine Eo.off rfl rfl rfl ?_
      refine Eo.val (x := (.v (.bool true))) rfl rfl rfl rfl ?_
      refine Eo.nil ?_
      obtain rfl := Option.some.inj H
      exact And.intro rfl ⟨hp, (.cons rfl (.cons rfl (.nil')))⟩
  · skip
    intro x φ12 σ11 hJ
    obtain ⟨rfl, hp10, hf13⟩ := hJ
    refine ⟨rfl, Eo.of (F := [(2, (.v (.bool false))), (10, (.v (.bool x5)))]) hf13 ?_⟩
    refine Eo.val (x := (.v (.bool x5))) rfl rfl rfl rfl ?_
    refine Eo.nil ?_
    obtain rfl := Option.some.inj H
    refine Ec.ret ?_
    refine Ret.mk rfl ?_
    exact ⟨rfl, hp10⟩

def gstrings_indexFunc_41_L1 (N : Nat) (p0 : ByteArray) (p2 : Bool) : Nat → Nat → Option (LR Unit Int)
  | 0, _ => none
  | m + 1, y11 => (cond (decide (y11 < p0.size)) (((gsexp_sound_1 N (((Utf8.decode p0 y11).1 : Nat) : Int)).bind fun r21 => (cond (r21 == p2) (some (.ret ((y11 : Nat) : Int))) (gstrings_indexFunc_41_L1 N p0 p2 m (y11 + (Utf8.decode p0 y11).2))))) (some (.out ())))

def gstrings_indexFunc_41 (n : Nat) (p0 : ByteArray) (p2 : Bool) : Option (Int) := ((gstrings_indexFunc_41_L1 n p0 p2 n 0).bind fun v => match v with | .out _ => some (-1) | .ret r32 => some r32)

def gstrings_indexFunc_41_post (R : List Res) (r : Int) (x : A) (s : St) : Prop := x = (.v (.int .i64 r)) ∧ Hp s (R)

theorem gstrings_indexFunc_41_ok {n : Nat} {p0 : ByteArray} {p2 : Bool} {R : List Res} {σ : St} (hp : Hp σ R) {r : Int} (H : gstrings_indexFunc_41 n p0 p2 = some r) : Ca cfg 50 [(.v (.string p0)), (.fn (.func 41) [] []), (.v (.bool p2))] σ (gstrings_indexFunc_41_post R r) := by
  unfold gstrings_indexFunc_41 at H
  refine Ca.enterL (G := [(0, (.v (.string p0))), (1, (.fn (.func 41) [] [])), (2, (.v (.bool p2)))]) Tryd.func50 rfl rfl rfl rfl ?_
  refine Ec.seq ?_
  refine Ec.region ?_
  refine Eo.val (x := (.v (.int .i64 0))) rfl rfl rfl rfl ?_
  refine Eo.nil ?_
  refine Ec.seq ?_
  refine Ec.seq ?_
  refine Ec.region ?_
  refine Eo.val (x := (.v (.string p0))) rfl rfl rfl rfl ?_
  refine Eo.range hp rfl Tryd.underlying9 rfl rfl rfl rfl ?_
  intro b1 σ3 hp2
  refine Eo.nil ?_
  refine Ec.block ?_
  obtain ⟨v26, hv27, H⟩ := bind_some H
  refine Ec.cut (J := (fun (v : LR Unit Int) (x : X) (φ : Fr) (s : St) => match v with | .out _ => x = (.exit 0) ∧ (Hp s (R) ∧ Fl [] φ) | .ret r => x = .ret ∧ Ret cfg Tryd.f50 (gstrings_indexFunc_41_post R r) .ret φ s) v26) (Ec.weak (.cons rfl (.cons rfl (.cons rfl (.nil')))) (Ec.loopF (f := (fun m (i : Nat × Unit) => gstrings_indexFunc_41_L1 n p0 p2 m i.1)) (G := (fun (i : Nat × Unit) => ([(1, (.fn (.func 41) [] [])), (2, (.v (.bool p2))), (10, (.ptr b1 0))] : List (Nat × A)))) (I := (fun (i : Nat × Unit) (s : St) => Hp s (.blk b1 (.siter p0 i.1) :: R))) (J := (fun (v : LR Unit Int) (x : X) (φ : Fr) (s : St) => match v with | .out _ => x = (.exit 0) ∧ (Hp s (R) ∧ Fl [] φ) | .ret r => x = .ret ∧ Ret cfg Tryd.f50 (gstrings_indexFunc_41_post R r) .ret φ s)) (fun _ => rfl) ?_ n (0, ()) _ v26 hp2 hv27)) ?_
  · rintro m ⟨y11, _⟩ σ0 v hp0 H ih
    change gstrings_indexFunc_41_L1 n p0 p2 (m + 1) y11 = some v at H
    rw [gstrings_indexFunc_41_L1] at H
    change Ec _ _ _ [(1, (.fn (.func 41) [] [])), (2, (.v (.bool p2))), (10, (.ptr b1 0))] σ0 _
    refine Ec.seq ?_
    refine Ec.region ?_
    refine Eo.next hp0 0 rfl rfl rfl rfl rfl rfl (fun hc25 σ20 hp19 => ?_) (fun hc25 => ?_)
    · have H := cond_t hc25 H
      change Hp σ20 (.blk b1 (.siter p0 (y11 + (Utf8.decode p0 y11).2)) :: R) at hp19
      refine Eo.val (x := (.v (.bool true))) rfl rfl rfl rfl ?_
      refine Eo.nil ?_
      refine Ec.seq ?_
      refine Ec.cond (t := true) rfl (fun h => ?_) (fun h => nomatch h)
      refine Ec.skip ?_
      refine Ec.block ?_
      refine Ec.seq ?_
      refine Ec.region ?_
      refine Eo.val (x := (.v (.int .i64 ((y11 : Nat) : Int)))) rfl rfl rfl rfl ?_
      refine Eo.val (x := (.v (.int .i32 (((Utf8.decode p0 y11).1 : Nat) : Int)))) rfl rfl rfl rfl ?_
      refine Eo.val (x := (.v (.int .i64 ((y11 : Nat) : Int)))) rfl rfl rfl rfl ?_
      refine Eo.val (x := (.v (.int .i32 (((Utf8.decode p0 y11).1 : Nat) : Int)))) rfl rfl rfl rfl ?_
      refine Eo.nil ?_
      refine Ec.seq ?_
      refine Ec.region ?_
      refine Eo.val (x := (.fn (.func 41) [] [])) rfl rfl rfl rfl ?_
      refine Eo.val (x := (.v (.int .i32 (((Utf8.decode p0 y11).1 : Nat) : Int)))) rfl rfl rfl rfl ?_
      obtain ⟨r21, hvr21, H⟩ := bind_some H
      refine Eo.call rfl rfl rfl rfl (gsexp_sound_1_ok hp19 hvr21) ?_
      rintro _ σ23 ⟨rfl, hp22⟩
      refine Eo.val (x := (.v (.bool p2))) rfl rfl rfl rfl ?_
      refine Eo.val (x := (.v (.bool (r21 == p2)))) rfl rfl rfl rfl ?_
      refine Eo.nil ?_
      refine Ec.cond (t := (r21 == p2)) rfl (fun hc24 => ?_) (fun hc24 => ?_)
      · have H := cond_t hc24 H
        refine Ec.seq ?_
        refine Ec.region ?_
        refine Eo.val (x := (.v (.int .i64 ((y11 : Nat) : Int)))) rfl rfl rfl rfl ?_
        refine Eo.val (x := (.v (.int .i64 ((y11 : Nat) : Int)))) rfl rfl rfl rfl ?_
        refine Eo.nil ?_
        obtain rfl := Option.some.inj H
        refine Ec.ret ?_
        refine And.intro rfl (Ret.mk rfl ?_)
        exact ⟨rfl, (Hp.drop hp22 0)⟩
      · have H := cond_f hc24 H
        refine Ec.skip ?_
        exact Ec.of (.cons rfl (.cons rfl (.cons rfl (.nil')))) (ih ((y11 + (Utf8.decode p0 y11).2), ()) _ hp22 H)
    · have H := cond_f hc25 H
      refine Eo.val (x := (.v (.bool false))) rfl rfl rfl rfl ?_
      refine Eo.nil ?_
      refine Ec.seq ?_
      refine Ec.cond (t := false) rfl (fun h => nomatch h) (fun h => ?_)
      refine Ec.exit ?_
      obtain rfl := Option.some.inj H
      exact And.intro rfl ⟨(Hp.drop hp0 0), (.nil')⟩
  · rcases v26 with _ | r32
    · intro x φ30 σ29 hJ
      obtain ⟨rfl, hp28, hf31⟩ := hJ
      refine Ec.of (F := []) hf31 ?_
      refine Ec.seq ?_
      refine Ec.region ?_
      refine Eo.val (x := (.v (.int .i64 (-1)))) rfl rfl rfl rfl ?_
      refine Eo.nil ?_
      obtain rfl := Option.some.inj H
      refine Ec.ret ?_
      refine Ret.mk rfl ?_
      exact ⟨rfl, hp28⟩
    · intro x φ33 σ34 hJ
      obtain rfl := Option.some.inj H
      obtain ⟨rfl, hr⟩ := hJ
      exact hr

def gstrings_IndexFunc_41 (n : Nat) (p0 : ByteArray) : Option (Int) := ((gstrings_indexFunc_41 n p0 true).bind fun r1 => some r1)

def gstrings_IndexFunc_41_post (R : List Res) (r : Int) (x : A) (s : St) : Prop := x = (.v (.int .i64 r)) ∧ Hp s (R)

theorem gstrings_IndexFunc_41_ok {n : Nat} {p0 : ByteArray} {R : List Res} {σ : St} (hp : Hp σ R) {r : Int} (H : gstrings_IndexFunc_41 n p0 = some r) : Ca cfg 40 [(.v (.string p0)), (.fn (.func 41) [] [])] σ (gstrings_IndexFunc_41_post R r) := by
  unfold gstrings_IndexFunc_41 at H
  refine Ca.enterL (G := [(0, (.v (.string p0))), (1, (.fn (.func 41) [] []))]) Tryd.func40 rfl rfl rfl rfl ?_
  refine Ec.seq ?_
  refine Ec.region ?_
  refine Eo.val (x := (.v (.int .i64 0))) rfl rfl rfl rfl ?_
  refine Eo.nil ?_
  refine Ec.seq ?_
  refine Ec.region ?_
  refine Eo.val (x := (.v (.string p0))) rfl rfl rfl rfl ?_
  refine Eo.val (x := (.fn (.func 41) [] [])) rfl rfl rfl rfl ?_
  obtain ⟨r1, hvr1, H⟩ := bind_some H
  refine Eo.call rfl rfl rfl rfl (gstrings_indexFunc_41_ok hp hvr1) ?_
  rintro _ σ3 ⟨rfl, hp2⟩
  change Hp σ3 (R) at hp2
  refine Eo.val (x := (.v (.int .i64 r1))) rfl rfl rfl rfl ?_
  refine Eo.nil ?_
  obtain rfl := Option.some.inj H
  refine Ec.ret ?_
  refine Ret.mk rfl ?_
  exact ⟨rfl, hp2⟩

def gsexp_sound_2 (_n : Nat) (p0 : Int) : Option (Bool) := some (((decide (p0 < 32)) || (decide (p0 > 126))) || (p0 == 34))

def gsexp_sound_2_post (R : List Res) (r : Bool) (x : A) (s : St) : Prop := x = (.v (.bool r)) ∧ Hp s (R)

theorem gsexp_sound_2_ok {n : Nat} {p0 : Int} {R : List Res} {σ : St} (hp : Hp σ R) {r : Bool} (H : gsexp_sound_2 n p0 = some r) : Ca cfg 44 [(.v (.int .i32 p0))] σ (gsexp_sound_2_post R r) := by
  unfold gsexp_sound_2 at H
  refine Ca.enterL (G := [(0, (.v (.int .i32 p0)))]) Tryd.func44 rfl rfl rfl rfl ?_
  refine Ec.seq ?_
  refine Ec.region ?_
  refine Eo.val (x := (.v (.bool false))) rfl rfl rfl rfl ?_
  refine Eo.nil ?_
  refine Ec.seq ?_
  refine Ec.region ?_
  refine Eo.val (x := (.v (.int .i32 p0))) rfl rfl rfl rfl ?_
  refine Eo.val (x := (.v (.bool (decide (p0 < 32))))) rfl rfl rfl rfl ?_
  refine Eo.val (x := (.v (.bool (decide (p0 < 32))))) rfl rfl rfl rfl ?_
  refine Eo.cutF 3 [(0, (.v (.int .i32 p0))), (2, (.v (.bool false))), (8, (.v (.bool ((decide (p0 < 32)) || (decide (p0 > 126))))))] ?_ ?_
  · skip
    cases hc3 : (decide (p0 < 32))
    · skip
      refine Eo.val (x := (.v (.int .i32 p0))) rfl rfl rfl rfl ?_
      refine Eo.val (x := (.v (.bool (decide (p0 > 126))))) rfl rfl rfl rfl ?_
      refine Eo.val (x := (.v (.bool (decide (p0 > 126))))) rfl rfl rfl rfl ?_
      exact Eo.nil (And.intro rfl (And.intro rfl (.cons rfl (.cons rfl (.cons rfl (.nil'))))))
    · skip
      refine Eo.off rfl rfl rfl ?_
      refine Eo.off rfl rfl rfl ?_
      refine Eo.val (x := (.v (.bool true))) rfl rfl rfl rfl ?_
      exact Eo.nil (And.intro rfl (And.intro rfl (.cons rfl (.cons rfl (.cons rfl (.nil'))))))
  · skip
    refine Eo.val (x := (.v (.bool ((decide (p0 < 32)) || (decide (p0 > 126)))))) rfl rfl rfl rfl ?_
    refine Eo.cutF 3 [(2, (.v (.bool false))), (12, (.v (.bool (((decide (p0 < 32)) || (decide (p0 > 126))) || (p0 == 34)))))] ?_ ?_
    · skip
      cases hc8 : ((decide (p0 < 32)) || (decide (p0 > 126)))
      · skip
        refine Eo.val (x := (.v (.int .i32 p0))) rfl rfl rfl rfl ?_
        refine Eo.val (x := (.v (.bool (p0 == 34)))) rfl rfl rfl rfl ?_
        refine Eo.val (x := (.v (.bool (p0 == 34)))) rfl rfl rfl rfl ?_
        exact Eo.nil (And.intro rfl (And.intro rfl (.cons rfl (.cons rfl (.nil')))))
      · skip
        refine Eo.off rfl rfl rfl ?_
        refine Eo.off rfl rfl rfl ?_
        refine Eo.val (x := (.v (.bool true))) rfl rfl rfl rfl ?_
        exact Eo.nil (And.intro rfl (And.intro rfl (.cons rfl (.cons rfl (.nil')))))
    · skip
      refine Eo.val (x := (.v (.bool (((decide (p0 < 32)) || (decide (p0 > 126))) || (p0 == 34))))) rfl rfl rfl rfl ?_
      refine Eo.nil ?_
      obtain rfl := Option.some.inj H
      refine Ec.ret ?_
      refine Ret.mk rfl ?_
      exact ⟨rfl, hp⟩

def gstrings_indexFunc_44_L1 (N : Nat) (p0 : ByteArray) (p2 : Bool) : Nat → Nat → Option (LR Unit Int)
  | 0, _ => none
  | m + 1, y11 => (cond (decide (y11 < p0.size)) (((gsexp_sound_2 N (((Utf8.decode p0 y11).1 : Nat) : Int)).bind fun r21 => (cond (r21 == p2) (some (.ret ((y11 : Nat) : Int))) (gstrings_indexFunc_44_L1 N p0 p2 m (y11 + (Utf8.decode p0 y11).2))))) (some (.out ())))

def gstrings_indexFunc_44 (n : Nat) (p0 : ByteArray) (p2 : Bool) : Option (Int) := ((gstrings_indexFunc_44_L1 n p0 p2 n 0).bind fun v => match v with | .out _ => some (-1) | .ret r32 => some r32)

def gstrings_indexFunc_44_post (R : List Res) (r : Int) (x : A) (s : St) : Prop := x = (.v (.int .i64 r)) ∧ Hp s (R)

theorem gstrings_indexFunc_44_ok {n : Nat} {p0 : ByteArray} {p2 : Bool} {R : List Res} {σ : St} (hp : Hp σ R) {r : Int} (H : gstrings_indexFunc_44 n p0 p2 = some r) : Ca cfg 50 [(.v (.string p0)), (.fn (.func 44) [] []), (.v (.bool p2))] σ (gstrings_indexFunc_44_post R r) := by
  unfold gstrings_indexFunc_44 at H
  refine Ca.enterL (G := [(0, (.v (.string p0))), (1, (.fn (.func 44) [] [])), (2, (.v (.bool p2)))]) Tryd.func50 rfl rfl rfl rfl ?_
  refine Ec.seq ?_
  refine Ec.region ?_
  refine Eo.val (x := (.v (.int .i64 0))) rfl rfl rfl rfl ?_
  refine Eo.nil ?_
  refine Ec.seq ?_
  refine Ec.seq ?_
  refine Ec.region ?_
  refine Eo.val (x := (.v (.string p0))) rfl rfl rfl rfl ?_
  refine Eo.range hp rfl Tryd.underlying9 rfl rfl rfl rfl ?_
  intro b1 σ3 hp2
  refine Eo.nil ?_
  refine Ec.block ?_
  obtain ⟨v26, hv27, H⟩ := bind_some H
  refine Ec.cut (J := (fun (v : LR Unit Int) (x : X) (φ : Fr) (s : St) => match v with | .out _ => x = (.exit 0) ∧ (Hp s (R) ∧ Fl [] φ) | .ret r => x = .ret ∧ Ret cfg Tryd.f50 (gstrings_indexFunc_44_post R r) .ret φ s) v26) (Ec.weak (.cons rfl (.cons rfl (.cons rfl (.nil')))) (Ec.loopF (f := (fun m (i : Nat × Unit) => gstrings_indexFunc_44_L1 n p0 p2 m i.1)) (G := (fun (i : Nat × Unit) => ([(1, (.fn (.func 44) [] [])), (2, (.v (.bool p2))), (10, (.ptr b1 0))] : List (Nat × A)))) (I := (fun (i : Nat × Unit) (s : St) => Hp s (.blk b1 (.siter p0 i.1) :: R))) (J := (fun (v : LR Unit Int) (x : X) (φ : Fr) (s : St) => match v with | .out _ => x = (.exit 0) ∧ (Hp s (R) ∧ Fl [] φ) | .ret r => x = .ret ∧ Ret cfg Tryd.f50 (gstrings_indexFunc_44_post R r) .ret φ s)) (fun _ => rfl) ?_ n (0, ()) _ v26 hp2 hv27)) ?_
  · rintro m ⟨y11, _⟩ σ0 v hp0 H ih
    change gstrings_indexFunc_44_L1 n p0 p2 (m + 1) y11 = some v at H
    rw [gstrings_indexFunc_44_L1] at H
    change Ec _ _ _ [(1, (.fn (.func 44) [] [])), (2, (.v (.bool p2))), (10, (.ptr b1 0))] σ0 _
    refine Ec.seq ?_
    refine Ec.region ?_
    refine Eo.next hp0 0 rfl rfl rfl rfl rfl rfl (fun hc25 σ20 hp19 => ?_) (fun hc25 => ?_)
    · have H := cond_t hc25 H
      change Hp σ20 (.blk b1 (.siter p0 (y11 + (Utf8.decode p0 y11).2)) :: R) at hp19
      refine Eo.val (x := (.v (.bool true))) rfl rfl rfl rfl ?_
      refine Eo.nil ?_
      refine Ec.seq ?_
      refine Ec.cond (t := true) rfl (fun h => ?_) (fun h => nomatch h)
      refine Ec.skip ?_
      refine Ec.block ?_
      refine Ec.seq ?_
      refine Ec.region ?_
      refine Eo.val (x := (.v (.int .i64 ((y11 : Nat) : Int)))) rfl rfl rfl rfl ?_
      refine Eo.val (x := (.v (.int .i32 (((Utf8.decode p0 y11).1 : Nat) : Int)))) rfl rfl rfl rfl ?_
      refine Eo.val (x := (.v (.int .i64 ((y11 : Nat) : Int)))) rfl rfl rfl rfl ?_
      refine Eo.val (x := (.v (.int .i32 (((Utf8.decode p0 y11).1 : Nat) : Int)))) rfl rfl rfl rfl ?_
      refine Eo.nil ?_
      refine Ec.seq ?_
      refine Ec.region ?_
      refine Eo.val (x := (.fn (.func 44) [] [])) rfl rfl rfl rfl ?_
      refine Eo.val (x := (.v (.int .i32 (((Utf8.decode p0 y11).1 : Nat) : Int)))) rfl rfl rfl rfl ?_
      obtain ⟨r21, hvr21, H⟩ := bind_some H
      refine Eo.call rfl rfl rfl rfl (gsexp_sound_2_ok hp19 hvr21) ?_
      rintro _ σ23 ⟨rfl, hp22⟩
      refine Eo.val (x := (.v (.bool p2))) rfl rfl rfl rfl ?_
      refine Eo.val (x := (.v (.bool (r21 == p2)))) rfl rfl rfl rfl ?_
      refine Eo.nil ?_
      refine Ec.cond (t := (r21 == p2)) rfl (fun hc24 => ?_) (fun hc24 => ?_)
      · have H := cond_t hc24 H
        refine Ec.seq ?_
        refine Ec.region ?_
        refine Eo.val (x := (.v (.int .i64 ((y11 : Nat) : Int)))) rfl rfl rfl rfl ?_
        refine Eo.val (x := (.v (.int .i64 ((y11 : Nat) : Int)))) rfl rfl rfl rfl ?_
        refine Eo.nil ?_
        obtain rfl := Option.some.inj H
        refine Ec.ret ?_
        refine And.intro rfl (Ret.mk rfl ?_)
        exact ⟨rfl, (Hp.drop hp22 0)⟩
      · have H := cond_f hc24 H
        refine Ec.skip ?_
        exact Ec.of (.cons rfl (.cons rfl (.cons rfl (.nil')))) (ih ((y11 + (Utf8.decode p0 y11).2), ()) _ hp22 H)
    · have H := cond_f hc25 H
      refine Eo.val (x := (.v (.bool false))) rfl rfl rfl rfl ?_
      refine Eo.nil ?_
      refine Ec.seq ?_
      refine Ec.cond (t := false) rfl (fun h => nomatch h) (fun h => ?_)
      refine Ec.exit ?_
      obtain rfl := Option.some.inj H
      exact And.intro rfl ⟨(Hp.drop hp0 0), (.nil')⟩
  · rcases v26 with _ | r32
    · intro x φ30 σ29 hJ
      obtain ⟨rfl, hp28, hf31⟩ := hJ
      refine Ec.of (F := []) hf31 ?_
      refine Ec.seq ?_
      refine Ec.region ?_
      refine Eo.val (x := (.v (.int .i64 (-1)))) rfl rfl rfl rfl ?_
      refine Eo.nil ?_
      obtain rfl := Option.some.inj H
      refine Ec.ret ?_
      refine Ret.mk rfl ?_
      exact ⟨rfl, hp28⟩
    · intro x φ33 σ34 hJ
      obtain rfl := Option.some.inj H
      obtain ⟨rfl, hr⟩ := hJ
      exact hr

def gstrings_IndexFunc_44 (n : Nat) (p0 : ByteArray) : Option (Int) := ((gstrings_indexFunc_44 n p0 true).bind fun r1 => some r1)

def gstrings_IndexFunc_44_post (R : List Res) (r : Int) (x : A) (s : St) : Prop := x = (.v (.int .i64 r)) ∧ Hp s (R)

theorem gstrings_IndexFunc_44_ok {n : Nat} {p0 : ByteArray} {R : List Res} {σ : St} (hp : Hp σ R) {r : Int} (H : gstrings_IndexFunc_44 n p0 = some r) : Ca cfg 40 [(.v (.string p0)), (.fn (.func 44) [] [])] σ (gstrings_IndexFunc_44_post R r) := by
  unfold gstrings_IndexFunc_44 at H
  refine Ca.enterL (G := [(0, (.v (.string p0))), (1, (.fn (.func 44) [] []))]) Tryd.func40 rfl rfl rfl rfl ?_
  refine Ec.seq ?_
  refine Ec.region ?_
  refine Eo.val (x := (.v (.int .i64 0))) rfl rfl rfl rfl ?_
  refine Eo.nil ?_
  refine Ec.seq ?_
  refine Ec.region ?_
  refine Eo.val (x := (.v (.string p0))) rfl rfl rfl rfl ?_
  refine Eo.val (x := (.fn (.func 44) [] [])) rfl rfl rfl rfl ?_
  obtain ⟨r1, hvr1, H⟩ := bind_some H
  refine Eo.call rfl rfl rfl rfl (gstrings_indexFunc_44_ok hp hvr1) ?_
  rintro _ σ3 ⟨rfl, hp2⟩
  change Hp σ3 (R) at hp2
  refine Eo.val (x := (.v (.int .i64 r1))) rfl rfl rfl rfl ?_
  refine Eo.nil ?_
  obtain rfl := Option.some.inj H
  refine Ec.ret ?_
  refine Ret.mk rfl ?_
  exact ⟨rfl, hp2⟩

def gsexp_sound_L1 (N : Nat) (rec : TTree → Int → Int → Int → Option (Bool × Int × Int)) (p0 : TTree) (p1 : Int) : Nat → Bool → Int → Int → Int → Option ((Bool × Int × Int))
  | 0, _, _, _, _ => none
  | m + 1, y117, y118, y119, y120 => (cond (decide (y118 < ((p0.f_Kids.length : Nat) : Int))) (((atL p0.f_Kids y118).bind fun x162 => (((cond y117 (((rec x162 (IntKind.wrap .i64 (p1 + 1)) y119 y120).bind fun v => match v with | (r186, r187, r188) => some (true, r186, r187, r188))) (some (false, false, y119, y120))) : Option ((Bool × Bool × Int × Int))).bind fun v => match v with | (_x181, x182, x183, x184) => gsexp_sound_L1 N rec p0 p1 m x182 (IntKind.wrap .i64 (y118 + 1)) x183 x184))) (some (y117, y119, y120)))

def gsexp_sound_rec (N : Nat) : Nat → TTree → Int → Int → Int → Option (Bool × Int × Int)
  | 0, _, _, _, _ => none
  | k + 1, p0, p1, p2_0, p3_0 => (cond (p0.f_Kind == 2) (some (((((decide (p0.f_Word = (ByteArray.mk #[]))) && (((p0.f_Kids.length : Nat) : Int) == 0)) && (decide (p0.f_Num ≥ (-999999999999999999)))) && (decide (p0.f_Num ≤ 999999999999999999))), (IntKind.wrap .i64 (p2_0 + 1)), p3_0)) ((cond (p0.f_Kind == 1) (((gstrings_IndexFunc_41 N p0.f_Word).bind fun r25 => (((cond ((((p0.f_Num == 0) && (((p0.f_Kids.length : Nat) : Int) == 0)) && (!decide (p0.f_Word = (ByteArray.mk #[])))) && (!(decide (r25 ≥ 0)))) (((gsexp_numeric N p0.f_Word).bind fun r49 => some (!r49))) (some false)) : Option (Bool)).bind fun x47 => some (x47, (IntKind.wrap .i64 (p2_0 + 1)), p3_0)))) ((cond (p0.f_Kind == 3) (((gstrings_IndexFunc_44 N p0.f_Word).bind fun r59 => some ((((p0.f_Num == 0) && (((p0.f_Kids.length : Nat) : Int) == 0)) && (!(decide (r59 ≥ 0)))), (IntKind.wrap .i64 (p2_0 + 1)), p3_0))) ((cond (p0.f_Kind == 4) (((gsexp_sound_L1 N (gsexp_sound_rec N k) p0 p1 N ((decide (p0.f_Word = (ByteArray.mk #[]))) && (p0.f_Num == 0)) 0 (IntKind.wrap .i64 (p2_0 + 1)) (if (IntKind.wrap .i64 (p1 + 1)) > p3_0 then (IntKind.wrap .i64 (p1 + 1)) else p3_0)).bind fun v => match v with | (x158, x159, x160) => some (x158, x159, x160))) (some (false, (IntKind.wrap .i64 (p2_0 + 1)), p3_0)))))))))

def gsexp_sound (n : Nat) (p0 : TTree) (p1 : Int) (p2_0 : Int) (p3_0 : Int) : Option ((Bool × Int × Int)) := gsexp_sound_rec n n p0 p1 p2_0 p3_0

def gsexp_sound_post (bq2 : Nat) (bq3 : Nat) (R : List Res) (r : (Bool × Int × Int)) (x : A) (s : St) : Prop := x = (.v (.bool r.1)) ∧ Hp s (.blk bq2 (.cells [(.v (.int .i64 r.2.1))] 3) :: .blk bq3 (.cells [(.v (.int .i64 r.2.2))] 3) :: R)
end Go.DM
