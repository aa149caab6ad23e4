/- The setting of TargetsFinds: the check that the program lives, by hand. No condition. -/
import Derived.Test.YtiommdibonjgjaaGreatDoorDataB
import Derived.Test.YtiommdibonjgjaaGreatDoorRuleU
import Derived.Test.YtiommdibonjgjaaGreatDoorOpenT
import Derived.WalkKit
import Derived.ProofKit
import Derived.Test.YtiommdibonjgjaaGreatDoorDescT
namespace Go.DM
open Go Go.Proofs
noncomputable def cfg : Cfg := FM.cfg2.add 9 [] (.v (.bool true))
theorem cfg_alive : cfg.prim 9 = some (fun args σ => bif beqs (stripL args) [] then some (.v (.bool true), σ) else none) := by unfold cfg; rfl
end Go.DM
namespace Go.DM
open Go Go.Proofs
set_option maxRecDepth 100000
set_option maxHeartbeats 1000000
theorem galive1 (x0 : Blk) : Ca cfg 9 [] (σ0.push x0) (fun v s => v = .v (.bool true) ∧ Hp s [.blk 0 x0]) := Ca.prim (x := .v (.bool true)) (σ' := σ0.push x0) cfg_alive rfl ⟨rfl, (Hp.nil σ0).push x0⟩
structure TFile where
  f_Name : ByteArray
  f_Count : Int
  f_Width : Int
  f_Zero : Int
  deriving DecidableEq


def rTFile : RepT TFile := ⟨4, fun x c => c = [.v (.string x.f_Name), .v (.int .i64 x.f_Count), .v (.int .i64 x.f_Width), .v (.int .i64 x.f_Zero)], by rintro x c rfl; rfl, by decide, by rintro x c rfl; simp [allOne]⟩

structure TAlias where
  f_Name : ByteArray
  f_File : Int
  f_Num : Int
  deriving DecidableEq


def rTAlias : RepT TAlias := ⟨3, fun x c => c = [.v (.string x.f_Name), .v (.int .i64 x.f_File), .v (.int .i64 x.f_Num)], by rintro x c rfl; rfl, by decide, by rintro x c rfl; simp [allOne]⟩

structure TClass where
  f_Name : ByteArray
  f_Kind : Int
  f_File : Int
  f_Bits : Int
  f_Shift : Int
  f_Plus : Int
  f_Except : (List Int)
  deriving DecidableEq


def rTClass : RepT TClass := ⟨7, fun x c => ∃ (a0 : A), c = [.v (.string x.f_Name), .v (.int .i64 x.f_Kind), .v (.int .i64 x.f_File), .v (.int .i64 x.f_Bits), .v (.int .i64 x.f_Shift), .v (.int .i64 x.f_Plus), a0] ∧ Sl (rI .i64) a0 x.f_Except, by rintro x c ⟨a0, rfl, _⟩; rfl, by decide, by rintro x c ⟨a0, rfl, h0⟩; simp [allOne, h0.isOne]⟩

structure TArg where
  f_Name : ByteArray
  f_Class : Int
  deriving DecidableEq


def rTArg : RepT TArg := ⟨2, fun x c => c = [.v (.string x.f_Name), .v (.int .i64 x.f_Class)], by rintro x c rfl; rfl, by decide, by rintro x c rfl; simp [allOne]⟩

structure TPiece where
  f_Lit : ByteArray
  f_Arg : Int
  f_Hi : Int
  f_Lo : Int
  deriving DecidableEq


def rTPiece : RepT TPiece := ⟨4, fun x c => c = [.v (.string x.f_Lit), .v (.int .i64 x.f_Arg), .v (.int .i64 x.f_Hi), .v (.int .i64 x.f_Lo)], by rintro x c rfl; rfl, by decide, by rintro x c rfl; simp [allOne]⟩

inductive TTerm where
  | mk (f_Op : Int) (f_W : Int) (f_A : Int) (f_B : Int) (f_Kids : (List TTerm))

def TTerm.f_Op : TTerm → Int | .mk x _ _ _ _ => x

def TTerm.f_W : TTerm → Int | .mk _ x _ _ _ => x

def TTerm.f_A : TTerm → Int | .mk _ _ x _ _ => x

def TTerm.f_B : TTerm → Int | .mk _ _ _ x _ => x

def TTerm.f_Kids : TTerm → (List TTerm) | .mk _ _ _ _ x => x

def rTTermD : Nat → RepT TTerm
  | 0 => ⟨5, fun _ _ => False, by intro x c h; exact h.elim, by decide, by intro x c h; exact h.elim⟩
  | d + 1 => ⟨5, fun x c => ∃ (a0 : A), c = [.v (.int .i64 x.f_Op), .v (.int .i64 x.f_W), .v (.int .i64 x.f_A), .v (.int .i64 x.f_B), a0] ∧ Sl (rTTermD d) a0 x.f_Kids, by rintro x c ⟨a0, rfl, _⟩; rfl, by decide, by rintro x c ⟨a0, rfl, h0⟩; simp [allOne, h0.isOne]⟩

theorem rTTermD_sz : ∀ d, (rTTermD d).sz = 5
  | 0 => rfl
  | _ + 1 => rfl

theorem rTTermD_up : ∀ d x c, (rTTermD d).rep x c → (rTTermD (d + 1)).rep x c
  | 0, _, _, h => h.elim
  | d + 1, _, _, ⟨a0, h, h0⟩ => ⟨a0, h, h0.mono ((rTTermD_sz _).trans (rTTermD_sz _).symm) (rTTermD_up d)⟩

def rTTerm : RepT TTerm := ⟨5, fun x c => ∃ d, (rTTermD d).rep x c, by rintro x c ⟨d, h⟩; exact ((rTTermD d).len _ _ h).trans (rTTermD_sz d), by decide, by rintro x c ⟨d, h⟩; exact (rTTermD d).one _ _ h⟩

theorem rTTerm_of {x : TTerm} {c : List A} : (∃ (a0 : A), c = [.v (.int .i64 x.f_Op), .v (.int .i64 x.f_W), .v (.int .i64 x.f_A), .v (.int .i64 x.f_B), a0] ∧ Sl rTTerm a0 x.f_Kids) → rTTerm.rep x c := by
  rintro ⟨a0, h, h0⟩
  obtain ⟨d0, h0⟩ := h0.sup (rD := rTTermD) (fun d => (rTTermD_sz d).symm) rTTermD_up (fun _ _ h => h)
  exact ⟨d0 + 1, a0, h, h0⟩

theorem rTTerm_un {x : TTerm} {c : List A} : rTTerm.rep x c → ∃ (a0 : A), c = [.v (.int .i64 x.f_Op), .v (.int .i64 x.f_W), .v (.int .i64 x.f_A), .v (.int .i64 x.f_B), a0] ∧ Sl rTTerm a0 x.f_Kids := by
  rintro ⟨d, h⟩
  cases d with
  | zero => exact h.elim
  | succ d =>
    obtain ⟨a0, h, h0⟩ := h
    exact ⟨a0, h, h0.mono (rTTermD_sz d) (fun _ _ h => ⟨d, h⟩)⟩

structure TForm where
  f_Name : ByteArray
  f_Syntax : ByteArray
  f_Args : (List TArg)
  f_Pieces : (List TPiece)
  f_Sem : (List TTerm)


def rTForm : RepT TForm := ⟨5, fun x c => ∃ (a0 a1 a2 : A), c = [.v (.string x.f_Name), .v (.string x.f_Syntax), a0, a1, a2] ∧ Sl rTArg a0 x.f_Args ∧ Sl rTPiece a1 x.f_Pieces ∧ Sl rTTerm a2 x.f_Sem, by rintro x c ⟨a0, a1, a2, rfl, _, _, _⟩; rfl, by decide, by rintro x c ⟨a0, a1, a2, rfl, h0, h1, h2⟩; simp [allOne, h0.isOne, h1.isOne, h2.isOne]⟩

structure TRel where
  f_Name : ByteArray
  f_Num : Int
  f_Kind : Int
  f_Bytes : Int
  f_Class : Int
  f_Class2 : Int
  f_Calc : TTerm
  f_Sign : Int
  f_Width : Int
  f_Align : Int
  f_Round : Int
  f_Hi : Int
  f_Lo : Int


def rTRel : RepT TRel := ⟨17, fun x c => ∃ (a0 : A), c = [.v (.string x.f_Name), .v (.int .i64 x.f_Num), .v (.int .i64 x.f_Kind), .v (.int .i64 x.f_Bytes), .v (.int .i64 x.f_Class), .v (.int .i64 x.f_Class2), .v (.int .i64 x.f_Calc.f_Op), .v (.int .i64 x.f_Calc.f_W), .v (.int .i64 x.f_Calc.f_A), .v (.int .i64 x.f_Calc.f_B), a0, .v (.int .i64 x.f_Sign), .v (.int .i64 x.f_Width), .v (.int .i64 x.f_Align), .v (.int .i64 x.f_Round), .v (.int .i64 x.f_Hi), .v (.int .i64 x.f_Lo)] ∧ Sl rTTerm a0 x.f_Calc.f_Kids, by rintro x c ⟨a0, rfl, _⟩; rfl, by decide, by rintro x c ⟨a0, rfl, h0⟩; simp [allOne, h0.isOne]⟩

structure TUse where
  f_Mod : ByteArray
  f_Class : Int
  f_Rel : Int
  f_End : Bool
  deriving DecidableEq


def rTUse : RepT TUse := ⟨4, fun x c => c = [.v (.string x.f_Mod), .v (.int .i64 x.f_Class), .v (.int .i64 x.f_Rel), .v (.bool x.f_End)], by rintro x c rfl; rfl, by decide, by rintro x c rfl; simp [allOne]⟩

structure TRelaxed where
  f_Rel : Int
  f_Form : Int
  f_To : Int
  deriving DecidableEq


def rTRelaxed : RepT TRelaxed := ⟨3, fun x c => c = [.v (.int .i64 x.f_Rel), .v (.int .i64 x.f_Form), .v (.int .i64 x.f_To)], by rintro x c rfl; rfl, by decide, by rintro x c rfl; simp [allOne]⟩

structure TMacro where
  f_Syntax : ByteArray
  f_Rel : Int
  f_Lines : (List ByteArray)
  deriving DecidableEq


def rTMacro : RepT TMacro := ⟨3, fun x c => ∃ (a0 : A), c = [.v (.string x.f_Syntax), .v (.int .i64 x.f_Rel), a0] ∧ Sl rS a0 x.f_Lines, by rintro x c ⟨a0, rfl, _⟩; rfl, by decide, by rintro x c ⟨a0, rfl, h0⟩; simp [allOne, h0.isOne]⟩

structure TNamed where
  f_Name : ByteArray
  f_Num : Int
  deriving DecidableEq


def rTNamed : RepT TNamed := ⟨2, fun x c => c = [.v (.string x.f_Name), .v (.int .i64 x.f_Num)], by rintro x c rfl; rfl, by decide, by rintro x c rfl; simp [allOne]⟩

structure TDesc where
  f_Name : ByteArray
  f_Order : Int
  f_Files : (List TFile)
  f_Aliases : (List TAlias)
  f_Flags : (List ByteArray)
  f_Classes : (List TClass)
  f_Forms : (List TForm)
  f_Rels : (List TRel)
  f_Uses : (List TUse)
  f_Relaxes : (List TRelaxed)
  f_Macros : (List TMacro)
  f_Nums : (List TNamed)
  f_Regs : (List TAlias)


def rTDesc : RepT TDesc := ⟨13, fun x c => ∃ (a0 a1 a2 a3 a4 a5 a6 a7 a8 a9 a10 : A), c = [.v (.string x.f_Name), .v (.int .i64 x.f_Order), a0, a1, a2, a3, a4, a5, a6, a7, a8, a9, a10] ∧ Sl rTFile a0 x.f_Files ∧ Sl rTAlias a1 x.f_Aliases ∧ Sl rS a2 x.f_Flags ∧ Sl rTClass a3 x.f_Classes ∧ Sl rTForm a4 x.f_Forms ∧ Sl rTRel a5 x.f_Rels ∧ Sl rTUse a6 x.f_Uses ∧ Sl rTRelaxed a7 x.f_Relaxes ∧ Sl rTMacro a8 x.f_Macros ∧ Sl rTNamed a9 x.f_Nums ∧ Sl rTAlias a10 x.f_Regs, by rintro x c ⟨a0, a1, a2, a3, a4, a5, a6, a7, a8, a9, a10, rfl, _, _, _, _, h4, h5, h6, h7, h8, h9, _0⟩; rfl, by decide, by rintro x c ⟨a0, a1, a2, a3, a4, a5, a6, a7, a8, a9, a10, rfl, h0, h1, h2, h3, h4, h5, h6, h7, h8, h9, h10⟩; simp [allOne, h0.isOne, h1.isOne, h2.isOne, h3.isOne, h4.isOne, h5.isOne, h6.isOne, h7.isOne, h8.isOne, h9.isOne, h10.isOne]⟩


def gtargets_Num_1 (_n : Nat) (p0 : TNamed) (p1_0 : ByteArray) : Option (Bool) := some (decide (p0.f_Name = p1_0))

def gtargets_Num_1_post (bq1 : Nat) (p1_0 : ByteArray) (R : List Res) (r : Bool) (x : A) (s : St) : Prop := x = (.v (.bool r)) ∧ Hp s (.blk bq1 (.cells [(.v (.string p1_0))] 9) :: R)

theorem gtargets_Num_1_ok {n : Nat} {bq1 : Nat} {p0 : TNamed} {p1_0 : ByteArray} {R : List Res} {σ : St} (hp : Hp σ (.blk bq1 (.cells [(.v (.string p1_0))] 9) :: R)) {r : Bool} (H : gtargets_Num_1 n p0 p1_0 = some r) : Ca cfg 32 [(.agg [(.v (.string p0.f_Name)), (.v (.int .i64 p0.f_Num))]), (.ptr bq1 0)] σ (gtargets_Num_1_post bq1 p1_0 R r) := by
  unfold gtargets_Num_1 at H
  refine Ca.enterL (G := [(0, (.agg [(.v (.string p0.f_Name)), (.v (.int .i64 p0.f_Num))])), (1, (.ptr bq1 0))]) Tryz.func32 rfl rfl rfl rfl ?_
  refine Ec.seq ?_
  refine Ec.region ?_
  refine Eo.box hp rfl rfl rfl rfl rfl rfl rfl ?_
  intro b1 σ3 hp2
  refine Eo.val (x := (.v (.bool false))) rfl rfl rfl rfl ?_
  refine Eo.nil ?_
  refine Ec.seq ?_
  refine Ec.region ?_
  refine Eo.val (x := (.ptr b1 0)) rfl rfl rfl rfl ?_
  refine Eo.val (x := (.v (.string p0.f_Name))) (op_loadB hp2 0 rfl rfl rfl rfl) rfl rfl rfl ?_
  refine Eo.val (x := (.v (.string p1_0))) (op_loadB hp2 1 rfl rfl rfl rfl) rfl rfl rfl ?_
  refine Eo.val (x := (.v (.bool (decide (p0.f_Name = p1_0))))) (val_b rfl (seq_eq _ _)) rfl rfl rfl ?_
  refine Eo.val (x := (.v (.bool (decide (p0.f_Name = p1_0))))) rfl rfl rfl rfl ?_
  refine Eo.nil ?_
  obtain rfl := Option.some.inj H
  refine Ec.ret ?_
  refine Ret.mk rfl ?_
  exact ⟨rfl, (Hp.pick hp2 1 [] rfl)⟩

def gslices_IndexFunc_31_32_L1 (N : Nat) (p0 : (List TNamed)) (p1_0_0 : ByteArray) : Nat → Int → Option (LR Unit Int)
  | 0, _ => none
  | m + 1, y12 => (cond (decide (y12 < ((p0.length : Nat) : Int))) (((atL p0 y12).bind fun x23 => ((gtargets_Num_1 N x23 p1_0_0).bind fun r27 => (cond r27 (some (.ret y12)) (gslices_IndexFunc_31_32_L1 N p0 p1_0_0 m (IntKind.wrap .i64 (y12 + 1))))))) (some (.out ())))

def gslices_IndexFunc_31_32 (n : Nat) (p0 : (List TNamed)) (p1_0_0 : ByteArray) : Option (Int) := ((gslices_IndexFunc_31_32_L1 n p0 p1_0_0 n 0).bind fun v => match v with | .out _ => some (-1) | .ret r37 => some r37)

def gslices_IndexFunc_31_32_post (bq1_0 : Nat) (p1_0_0 : ByteArray) (R : List Res) (r : Int) (x : A) (s : St) : Prop := x = (.v (.int .i64 r)) ∧ Hp s (.blk bq1_0 (.cells [(.v (.string p1_0_0))] 9) :: R)

theorem gslices_IndexFunc_31_32_ok {n : Nat} {bq1_0 : Nat} {p0 : (List TNamed)} {p1_0_0 : ByteArray} {a1 : A} {R : List Res} {σ : St} (h2 : Sl rTNamed a1 p0) (hp : Hp σ (.blk bq1_0 (.cells [(.v (.string p1_0_0))] 9) :: R)) {r : Int} (H : gslices_IndexFunc_31_32 n p0 p1_0_0 = some r) : Ca cfg 31 [a1, (.fn (.func 32) [] [(.ptr bq1_0 0)])] σ (gslices_IndexFunc_31_32_post bq1_0 p1_0_0 R r) := by
  unfold gslices_IndexFunc_31_32 at H
  refine Ca.enterL (G := [(0, a1), (1, (.fn (.func 32) [] [(.ptr bq1_0 0)]))]) Tryz.func31 rfl rfl rfl rfl ?_
  refine Ec.seq ?_
  refine Ec.region ?_
  refine Eo.val (x := (.v (.int .i64 0))) rfl rfl rfl rfl ?_
  refine Eo.nil ?_
  refine Ec.seq ?_
  refine Ec.seq ?_
  refine Ec.region ?_
  refine Eo.val (x := a1) rfl rfl rfl rfl ?_
  refine Eo.val (x := (.v (.int .i64 ((p0.length : Nat) : Int)))) (op_lenL h2 rfl rfl rfl rfl rfl Tryz.underlying35) rfl rfl rfl ?_
  refine Eo.val (x := (.v (.int .i64 0))) rfl rfl rfl rfl ?_
  refine Eo.nil ?_
  refine Ec.block ?_
  obtain ⟨v31, hv32, H⟩ := bind_some H
  refine Ec.cut (J := _) (Ec.weak (.cons rfl (.cons rfl (.cons rfl (.cons rfl (.nil'))))) (Ec.loopF (f := (fun m (i : Int × Unit) => gslices_IndexFunc_31_32_L1 n p0 p1_0_0 m i.1)) (G := (fun (i : Int × Unit) => ([(0, a1), (1, (.fn (.func 32) [] [(.ptr bq1_0 0)])), (7, (.v (.int .i64 ((p0.length : Nat) : Int)))), (8, (.v (.int .i64 i.1)))] : List (Nat × A)))) (I := (fun (i : Int × Unit) (s : St) => Hp s (.blk bq1_0 (.cells [(.v (.string p1_0_0))] 9) :: R))) (J := (fun (v : LR Unit Int) (x : X) (φ : Fr) (s : St) => match v with | .out _ => x = (.exit 0) ∧ (Hp s (.blk bq1_0 (.cells [(.v (.string p1_0_0))] 9) :: R) ∧ Fl [] φ) | .ret r => x = .ret ∧ Ret cfg Tryz.f31 (gslices_IndexFunc_31_32_post bq1_0 p1_0_0 R r) .ret φ s)) (fun _ => rfl) ?_ n (0, ()) _ v31 hp hv32)) ?_
  · rintro m ⟨y12, _⟩ σ0 v hp0 H ih
    change gslices_IndexFunc_31_32_L1 n p0 p1_0_0 (m + 1) y12 = some v at H
    rw [gslices_IndexFunc_31_32_L1] at H
    change Ec _ _ _ [(0, a1), (1, (.fn (.func 32) [] [(.ptr bq1_0 0)])), (7, (.v (.int .i64 ((p0.length : Nat) : Int)))), (8, (.v (.int .i64 y12)))] σ0 _
    refine Ec.seq ?_
    refine Ec.region ?_
    refine Eo.val (x := (.v (.bool (decide (y12 < ((p0.length : Nat) : Int)))))) rfl rfl rfl rfl ?_
    refine Eo.nil ?_
    refine Ec.seq ?_
    refine Ec.cond (t := (decide (y12 < ((p0.length : Nat) : Int)))) rfl (fun hc22 => ?_) (fun hc22 => ?_)
    · have H := cond_t hc22 H
      refine Ec.skip ?_
      refine Ec.seq ?_
      refine Ec.block ?_
      refine Ec.seq ?_
      refine Ec.region ?_
      refine Eo.val (x := (.v (.int .i64 y12))) rfl rfl rfl rfl ?_
      refine Eo.val (x := (.v (.int .i64 y12))) rfl rfl rfl rfl ?_
      refine Eo.nil ?_
      refine Ec.seq ?_
      refine Ec.region ?_
      refine Eo.val (x := (.fn (.func 32) [] [(.ptr bq1_0 0)])) rfl rfl rfl rfl ?_
      refine Eo.val (x := a1) rfl rfl rfl rfl ?_
      refine Eo.val (x := (.v (.int .i64 y12))) rfl rfl rfl rfl ?_
      obtain ⟨x23, hvx23, H⟩ := bind_some H
      refine Eo.idx h2 hvx23 rfl rfl rfl Tryz.underlying35 rfl rfl rfl rfl ?_
      rintro cs24 p25 _ hat26 rfl
      refine Eo.val (x := (.agg [(.v (.string x23.f_Name)), (.v (.int .i64 x23.f_Num))])) (op_loadSpAgg hat26 0 rfl rfl rfl rfl rfl rfl) rfl rfl rfl ?_
      obtain ⟨r27, hvr27, H⟩ := bind_some H
      refine Eo.call rfl rfl rfl rfl (gtargets_Num_1_ok hp0 hvr27) ?_
      rintro _ σ29 ⟨rfl, hp28⟩
      change Hp σ29 (.blk bq1_0 (.cells [(.v (.string p1_0_0))] 9) :: R) at hp28
      refine Eo.nil ?_
      refine Ec.cond (t := r27) rfl (fun hc30 => ?_) (fun hc30 => ?_)
      · have H := cond_t hc30 H
        refine Ec.seq ?_
        refine Ec.region ?_
        refine Eo.val (x := (.v (.int .i64 y12))) rfl rfl rfl rfl ?_
        refine Eo.val (x := (.v (.int .i64 y12))) rfl rfl rfl rfl ?_
        refine Eo.nil ?_
        obtain rfl := Option.some.inj H
        refine Ec.ret ?_
        refine And.intro rfl (Ret.mk rfl ?_)
        exact ⟨rfl, hp28⟩
      · have H := cond_f hc30 H
        refine Ec.skip ?_
        refine Ec.region ?_
        refine Eo.val (x := (.v (.int .i64 (IntKind.wrap .i64 (y12 + 1))))) rfl rfl rfl rfl ?_
        refine Eo.val (x := (.v (.int .i64 (IntKind.wrap .i64 (y12 + 1))))) rfl rfl rfl rfl ?_
        refine Eo.nil ?_
        exact Ec.of (.cons rfl (.cons rfl (.cons rfl (.cons rfl (.nil'))))) (ih ((IntKind.wrap .i64 (y12 + 1)), ()) _ hp28 H)
    · have H := cond_f hc22 H
      refine Ec.exit ?_
      obtain rfl := Option.some.inj H
      exact And.intro rfl ⟨hp0, (.nil')⟩
  · rcases v31 with _ | r37
    · intro x φ35 σ34 hJ
      obtain ⟨rfl, hp33, hf36⟩ := hJ
      refine Ec.of (F := []) hf36 ?_
      refine Ec.seq ?_
      refine Ec.region ?_
      refine Eo.val (x := (.v (.int .i64 (-1)))) rfl rfl rfl rfl ?_
      refine Eo.nil ?_
      obtain rfl := Option.some.inj H
      refine Ec.ret ?_
      refine Ret.mk rfl ?_
      exact ⟨rfl, hp33⟩
    · intro x φ38 σ39 hJ
      obtain rfl := Option.some.inj H
      obtain ⟨rfl, hr⟩ := hJ
      exact hr

def gtargets_Num (n : Nat) (p0 : TDesc) (p1 : ByteArray) : Option ((Int × Bool)) := ((gslices_IndexFunc_31_32 n p0.f_Nums p1).bind fun r29 => (cond (decide (r29 < 0)) (some (0, false)) (((atL p0.f_Nums r29).bind fun x33 => some (x33.f_Num, true)))))

def gtargets_Num_post (R : List Res) (r : (Int × Bool)) (x : A) (s : St) : Prop := x = (.tup [(.v (.int .i64 r.1)), (.v (.bool r.2))]) ∧ Hp s R

theorem gtargets_Num_ok {n : Nat} {p0 : TDesc} {p1 : ByteArray} {a1 : A} {a3 : A} {a5 : A} {a7 : A} {a9 : A} {a11 : A} {a13 : A} {a15 : A} {a17 : A} {a19 : A} {a21 : A} {R : List Res} {σ : St} (h2 : Sl rTFile a1 p0.f_Files) (h4 : Sl rTAlias a3 p0.f_Aliases) (h6 : Sl rS a5 p0.f_Flags) (h8 : Sl rTClass a7 p0.f_Classes) (h10 : Sl rTForm a9 p0.f_Forms) (h12 : Sl rTRel a11 p0.f_Rels) (h14 : Sl rTUse a13 p0.f_Uses) (h16 : Sl rTRelaxed a15 p0.f_Relaxes) (h18 : Sl rTMacro a17 p0.f_Macros) (h20 : Sl rTNamed a19 p0.f_Nums) (h22 : Sl rTAlias a21 p0.f_Regs) (hp : Hp σ R) {r : (Int × Bool)} (H : gtargets_Num n p0 p1 = some r) : Ca cfg 16 [(.agg [(.v (.string p0.f_Name)), (.v (.int .i64 p0.f_Order)), a1, a3, a5, a7, a9, a11, a13, a15, a17, a19, a21]), (.v (.string p1))] σ (gtargets_Num_post R r) := by
  unfold gtargets_Num at H
  refine Ca.enterL (G := [(0, (.agg [(.v (.string p0.f_Name)), (.v (.int .i64 p0.f_Order)), a1, a3, a5, a7, a9, a11, a13, a15, a17, a19, a21])), (1, (.v (.string p1)))]) Tryz.func16 rfl rfl rfl rfl ?_
  refine Ec.seq ?_
  refine Ec.region ?_
  refine Eo.box hp rfl (by exact on rfl (on rfl (on h2.isOne (on h4.isOne (on h6.isOne (on h8.isOne (on h10.isOne (on h12.isOne (on h14.isOne (on h16.isOne (on h18.isOne (on h20.isOne (on h22.isOne on0))))))))))))) rfl rfl rfl rfl rfl ?_
  intro b23 σ25 hp24
  refine Eo.box hp24 rfl rfl rfl rfl rfl rfl rfl ?_
  intro b26 σ28 hp27
  refine Eo.val (x := (.v (.int .i64 0))) rfl rfl rfl rfl ?_
  refine Eo.val (x := (.v (.bool false))) rfl rfl rfl rfl ?_
  refine Eo.nil ?_
  refine Ec.seq ?_
  refine Ec.region ?_
  refine Eo.val (x := (.ptr b23 11)) rfl rfl rfl rfl ?_
  refine Eo.val (x := a19) (op_loadB hp27 1 rfl rfl rfl rfl) rfl rfl rfl ?_
  refine Eo.val (x := (.fn (.func 32) [] [(.ptr b26 0)])) rfl rfl rfl rfl ?_
  obtain ⟨r29, hvr29, H⟩ := bind_some H
  refine Eo.call rfl rfl rfl rfl (gslices_IndexFunc_31_32_ok h20 hp27 hvr29) ?_
  rintro _ σ31 ⟨rfl, hp30⟩
  change Hp σ31 (.blk b26 (.cells [(.v (.string p1))] 9) :: .blk b23 (.cells [(.v (.string p0.f_Name)), (.v (.int .i64 p0.f_Order)), a1, a3, a5, a7, a9, a11, a13, a15, a17, a19, a21] 37) :: R) at hp30
  refine Eo.val (x := (.v (.int .i64 r29))) rfl rfl rfl rfl ?_
  refine Eo.nil ?_
  refine Ec.seq ?_
  refine Ec.seq ?_
  refine Ec.region ?_
  refine Eo.val (x := (.v (.int .i64 r29))) rfl rfl rfl rfl ?_
  refine Eo.val (x := (.v (.bool (decide (r29 < 0))))) rfl rfl rfl rfl ?_
  refine Eo.nil ?_
  refine Ec.cond (t := (decide (r29 < 0))) rfl (fun hc32 => ?_) (fun hc32 => ?_)
  · have H := cond_t hc32 H
    refine Ec.seq ?_
    refine Ec.region ?_
    refine Eo.val (x := (.v (.int .i64 0))) rfl rfl rfl rfl ?_
    refine Eo.val (x := (.v (.bool false))) rfl rfl rfl rfl ?_
    refine Eo.nil ?_
    obtain rfl := Option.some.inj H
    refine Ec.ret ?_
    refine Ret.mk rfl ?_
    exact ⟨rfl, (Hp.pick hp30 2 [] rfl)⟩
  · have H := cond_f hc32 H
    refine Ec.skip ?_
    refine Ec.seq ?_
    refine Ec.region ?_
    refine Eo.val (x := (.ptr b23 11)) rfl rfl rfl rfl ?_
    refine Eo.val (x := a19) (op_loadB hp30 1 rfl rfl rfl rfl) rfl rfl rfl ?_
    refine Eo.val (x := (.v (.int .i64 r29))) rfl rfl rfl rfl ?_
    obtain ⟨x33, hvx33, H⟩ := bind_some H
    refine Eo.idx h20 hvx33 rfl rfl rfl Tryz.underlying35 rfl rfl rfl rfl ?_
    rintro cs34 p35 _ hat36 rfl
    refine Eo.val (x := (.sp cs34 (p35 + 1) .no)) rfl rfl rfl rfl ?_
    refine Eo.val (x := (.v (.int .i64 x33.f_Num))) (op_loadSp hat36 1 rfl rfl rfl rfl rfl) rfl rfl rfl ?_
    refine Eo.val (x := (.v (.int .i64 x33.f_Num))) rfl rfl rfl rfl ?_
    refine Eo.val (x := (.v (.bool true))) rfl rfl rfl rfl ?_
    refine Eo.nil ?_
    obtain rfl := Option.some.inj H
    refine Ec.ret ?_
    refine Ret.mk rfl ?_
    exact ⟨rfl, (Hp.pick hp30 2 [] rfl)⟩

def gtargets_Reg_1 (_n : Nat) (p0 : TAlias) (p1_0 : ByteArray) : Option (Bool) := some (decide (p0.f_Name = p1_0))

def gtargets_Reg_1_post (bq1 : Nat) (p1_0 : ByteArray) (R : List Res) (r : Bool) (x : A) (s : St) : Prop := x = (.v (.bool r)) ∧ Hp s (.blk bq1 (.cells [(.v (.string p1_0))] 9) :: R)

theorem gtargets_Reg_1_ok {n : Nat} {bq1 : Nat} {p0 : TAlias} {p1_0 : ByteArray} {R : List Res} {σ : St} (hp : Hp σ (.blk bq1 (.cells [(.v (.string p1_0))] 9) :: R)) {r : Bool} (H : gtargets_Reg_1 n p0 p1_0 = some r) : Ca cfg 34 [(.agg [(.v (.string p0.f_Name)), (.v (.int .i64 p0.f_File)), (.v (.int .i64 p0.f_Num))]), (.ptr bq1 0)] σ (gtargets_Reg_1_post bq1 p1_0 R r) := by
  unfold gtargets_Reg_1 at H
  refine Ca.enterL (G := [(0, (.agg [(.v (.string p0.f_Name)), (.v (.int .i64 p0.f_File)), (.v (.int .i64 p0.f_Num))])), (1, (.ptr bq1 0))]) Tryz.func34 rfl rfl rfl rfl ?_
  refine Ec.seq ?_
  refine Ec.region ?_
  refine Eo.box hp rfl rfl rfl rfl rfl rfl rfl ?_
  intro b1 σ3 hp2
  refine Eo.val (x := (.v (.bool false))) rfl rfl rfl rfl ?_
  refine Eo.nil ?_
  refine Ec.seq ?_
  refine Ec.region ?_
  refine Eo.val (x := (.ptr b1 0)) rfl rfl rfl rfl ?_
  refine Eo.val (x := (.v (.string p0.f_Name))) (op_loadB hp2 0 rfl rfl rfl rfl) rfl rfl rfl ?_
  refine Eo.val (x := (.v (.string p1_0))) (op_loadB hp2 1 rfl rfl rfl rfl) rfl rfl rfl ?_
  refine Eo.val (x := (.v (.bool (decide (p0.f_Name = p1_0))))) (val_b rfl (seq_eq _ _)) rfl rfl rfl ?_
  refine Eo.val (x := (.v (.bool (decide (p0.f_Name = p1_0))))) rfl rfl rfl rfl ?_
  refine Eo.nil ?_
  obtain rfl := Option.some.inj H
  refine Ec.ret ?_
  refine Ret.mk rfl ?_
  exact ⟨rfl, (Hp.pick hp2 1 [] rfl)⟩

def gslices_IndexFunc_33_34_L1 (N : Nat) (p0 : (List TAlias)) (p1_0_0 : ByteArray) : Nat → Int → Option (LR Unit Int)
  | 0, _ => none
  | m + 1, y12 => (cond (decide (y12 < ((p0.length : Nat) : Int))) (((atL p0 y12).bind fun x23 => ((gtargets_Reg_1 N x23 p1_0_0).bind fun r27 => (cond r27 (some (.ret y12)) (gslices_IndexFunc_33_34_L1 N p0 p1_0_0 m (IntKind.wrap .i64 (y12 + 1))))))) (some (.out ())))

def gslices_IndexFunc_33_34 (n : Nat) (p0 : (List TAlias)) (p1_0_0 : ByteArray) : Option (Int) := ((gslices_IndexFunc_33_34_L1 n p0 p1_0_0 n 0).bind fun v => match v with | .out _ => some (-1) | .ret r37 => some r37)

def gslices_IndexFunc_33_34_post (bq1_0 : Nat) (p1_0_0 : ByteArray) (R : List Res) (r : Int) (x : A) (s : St) : Prop := x = (.v (.int .i64 r)) ∧ Hp s (.blk bq1_0 (.cells [(.v (.string p1_0_0))] 9) :: R)

theorem gslices_IndexFunc_33_34_ok {n : Nat} {bq1_0 : Nat} {p0 : (List TAlias)} {p1_0_0 : ByteArray} {a1 : A} {R : List Res} {σ : St} (h2 : Sl rTAlias a1 p0) (hp : Hp σ (.blk bq1_0 (.cells [(.v (.string p1_0_0))] 9) :: R)) {r : Int} (H : gslices_IndexFunc_33_34 n p0 p1_0_0 = some r) : Ca cfg 33 [a1, (.fn (.func 34) [] [(.ptr bq1_0 0)])] σ (gslices_IndexFunc_33_34_post bq1_0 p1_0_0 R r) := by
  unfold gslices_IndexFunc_33_34 at H
  refine Ca.enterL (G := [(0, a1), (1, (.fn (.func 34) [] [(.ptr bq1_0 0)]))]) Tryz.func33 rfl rfl rfl rfl ?_
  refine Ec.seq ?_
  refine Ec.region ?_
  refine Eo.val (x := (.v (.int .i64 0))) rfl rfl rfl rfl ?_
  refine Eo.nil ?_
  refine Ec.seq ?_
  refine Ec.seq ?_
  refine Ec.region ?_
  refine Eo.val (x := a1) rfl rfl rfl rfl ?_
  refine Eo.val (x := (.v (.int .i64 ((p0.length : Nat) : Int)))) (op_lenL h2 rfl rfl rfl rfl rfl Tryz.underlying28) rfl rfl rfl ?_
  refine Eo.val (x := (.v (.int .i64 0))) rfl rfl rfl rfl ?_
  refine Eo.nil ?_
  refine Ec.block ?_
  obtain ⟨v31, hv32, H⟩ := bind_some H
  refine Ec.cut (J := _) (Ec.weak (.cons rfl (.cons rfl (.cons rfl (.cons rfl (.nil'))))) (Ec.loopF (f := (fun m (i : Int × Unit) => gslices_IndexFunc_33_34_L1 n p0 p1_0_0 m i.1)) (G := (fun (i : Int × Unit) => ([(0, a1), (1, (.fn (.func 34) [] [(.ptr bq1_0 0)])), (7, (.v (.int .i64 ((p0.length : Nat) : Int)))), (8, (.v (.int .i64 i.1)))] : List (Nat × A)))) (I := (fun (i : Int × Unit) (s : St) => Hp s (.blk bq1_0 (.cells [(.v (.string p1_0_0))] 9) :: R))) (J := (fun (v : LR Unit Int) (x : X) (φ : Fr) (s : St) => match v with | .out _ => x = (.exit 0) ∧ (Hp s (.blk bq1_0 (.cells [(.v (.string p1_0_0))] 9) :: R) ∧ Fl [] φ) | .ret r => x = .ret ∧ Ret cfg Tryz.f33 (gslices_IndexFunc_33_34_post bq1_0 p1_0_0 R r) .ret φ s)) (fun _ => rfl) ?_ n (0, ()) _ v31 hp hv32)) ?_
  · rintro m ⟨y12, _⟩ σ0 v hp0 H ih
    change gslices_IndexFunc_33_34_L1 n p0 p1_0_0 (m + 1) y12 = some v at H
    rw [gslices_IndexFunc_33_34_L1] at H
    change Ec _ _ _ [(0, a1), (1, (.fn (.func 34) [] [(.ptr bq1_0 0)])), (7, (.v (.int .i64 ((p0.length : Nat) : Int)))), (8, (.v (.int .i64 y12)))] σ0 _
    refine Ec.seq ?_
    refine Ec.region ?_
    refine Eo.val (x := (.v (.bool (decide (y12 < ((p0.length : Nat) : Int)))))) rfl rfl rfl rfl ?_
    refine Eo.nil ?_
    refine Ec.seq ?_
    refine Ec.cond (t := (decide (y12 < ((p0.length : Nat) : Int)))) rfl (fun hc22 => ?_) (fun hc22 => ?_)
    · have H := cond_t hc22 H
      refine Ec.skip ?_
      refine Ec.seq ?_
      refine Ec.block ?_
      refine Ec.seq ?_
      refine Ec.region ?_
      refine Eo.val (x := (.v (.int .i64 y12))) rfl rfl rfl rfl ?_
      refine Eo.val (x := (.v (.int .i64 y12))) rfl rfl rfl rfl ?_
      refine Eo.nil ?_
      refine Ec.seq ?_
      refine Ec.region ?_
      refine Eo.val (x := (.fn (.func 34) [] [(.ptr bq1_0 0)])) rfl rfl rfl rfl ?_
      refine Eo.val (x := a1) rfl rfl rfl rfl ?_
      refine Eo.val (x := (.v (.int .i64 y12))) rfl rfl rfl rfl ?_
      obtain ⟨x23, hvx23, H⟩ := bind_some H
      refine Eo.idx h2 hvx23 rfl rfl rfl Tryz.underlying28 rfl rfl rfl rfl ?_
      rintro cs24 p25 _ hat26 rfl
      refine Eo.val (x := (.agg [(.v (.string x23.f_Name)), (.v (.int .i64 x23.f_File)), (.v (.int .i64 x23.f_Num))])) (op_loadSpAgg hat26 0 rfl rfl rfl rfl rfl rfl) rfl rfl rfl ?_
      obtain ⟨r27, hvr27, H⟩ := bind_some H
      refine Eo.call rfl rfl rfl rfl (gtargets_Reg_1_ok hp0 hvr27) ?_
      rintro _ σ29 ⟨rfl, hp28⟩
      change Hp σ29 (.blk bq1_0 (.cells [(.v (.string p1_0_0))] 9) :: R) at hp28
      refine Eo.nil ?_
      refine Ec.cond (t := r27) rfl (fun hc30 => ?_) (fun hc30 => ?_)
      · have H := cond_t hc30 H
        refine Ec.seq ?_
        refine Ec.region ?_
        refine Eo.val (x := (.v (.int .i64 y12))) rfl rfl rfl rfl ?_
        refine Eo.val (x := (.v (.int .i64 y12))) rfl rfl rfl rfl ?_
        refine Eo.nil ?_
        obtain rfl := Option.some.inj H
        refine Ec.ret ?_
        refine And.intro rfl (Ret.mk rfl ?_)
        exact ⟨rfl, hp28⟩
      · have H := cond_f hc30 H
        refine Ec.skip ?_
        refine Ec.region ?_
        refine Eo.val (x := (.v (.int .i64 (IntKind.wrap .i64 (y12 + 1))))) rfl rfl rfl rfl ?_
        refine Eo.val (x := (.v (.int .i64 (IntKind.wrap .i64 (y12 + 1))))) rfl rfl rfl rfl ?_
        refine Eo.nil ?_
        exact Ec.of (.cons rfl (.cons rfl (.cons rfl (.cons rfl (.nil'))))) (ih ((IntKind.wrap .i64 (y12 + 1)), ()) _ hp28 H)
    · have H := cond_f hc22 H
      refine Ec.exit ?_
      obtain rfl := Option.some.inj H
      exact And.intro rfl ⟨hp0, (.nil')⟩
  · rcases v31 with _ | r37
    · intro x φ35 σ34 hJ
      obtain ⟨rfl, hp33, hf36⟩ := hJ
      refine Ec.of (F := []) hf36 ?_
      refine Ec.seq ?_
      refine Ec.region ?_
      refine Eo.val (x := (.v (.int .i64 (-1)))) rfl rfl rfl rfl ?_
      refine Eo.nil ?_
      obtain rfl := Option.some.inj H
      refine Ec.ret ?_
      refine Ret.mk rfl ?_
      exact ⟨rfl, hp33⟩
    · intro x φ38 σ39 hJ
      obtain rfl := Option.some.inj H
      obtain ⟨rfl, hr⟩ := hJ
      exact hr

def gtargets_Reg (n : Nat) (p0 : TDesc) (p1 : ByteArray) : Option ((TAlias × Bool)) := ((gslices_IndexFunc_33_34 n p0.f_Regs p1).bind fun r32 => (cond (decide (r32 < 0)) (some ((TAlias.mk (ByteArray.mk #[]) 0 0), false)) (((atL p0.f_Regs r32).bind fun x38 => some (x38, true)))))

def gtargets_Reg_post (R : List Res) (r : (TAlias × Bool)) (x : A) (s : St) : Prop := x = (.tup [(.agg [(.v (.string r.1.f_Name)), (.v (.int .i64 r.1.f_File)), (.v (.int .i64 r.1.f_Num))]), (.v (.bool r.2))]) ∧ Hp s R

theorem gtargets_Reg_ok {n : Nat} {p0 : TDesc} {p1 : ByteArray} {a1 : A} {a3 : A} {a5 : A} {a7 : A} {a9 : A} {a11 : A} {a13 : A} {a15 : A} {a17 : A} {a19 : A} {a21 : A} {R : List Res} {σ : St} (h2 : Sl rTFile a1 p0.f_Files) (h4 : Sl rTAlias a3 p0.f_Aliases) (h6 : Sl rS a5 p0.f_Flags) (h8 : Sl rTClass a7 p0.f_Classes) (h10 : Sl rTForm a9 p0.f_Forms) (h12 : Sl rTRel a11 p0.f_Rels) (h14 : Sl rTUse a13 p0.f_Uses) (h16 : Sl rTRelaxed a15 p0.f_Relaxes) (h18 : Sl rTMacro a17 p0.f_Macros) (h20 : Sl rTNamed a19 p0.f_Nums) (h22 : Sl rTAlias a21 p0.f_Regs) (hp : Hp σ R) {r : (TAlias × Bool)} (H : gtargets_Reg n p0 p1 = some r) : Ca cfg 17 [(.agg [(.v (.string p0.f_Name)), (.v (.int .i64 p0.f_Order)), a1, a3, a5, a7, a9, a11, a13, a15, a17, a19, a21]), (.v (.string p1))] σ (gtargets_Reg_post R r) := by
  unfold gtargets_Reg at H
  refine Ca.enterL (G := [(0, (.agg [(.v (.string p0.f_Name)), (.v (.int .i64 p0.f_Order)), a1, a3, a5, a7, a9, a11, a13, a15, a17, a19, a21])), (1, (.v (.string p1)))]) Tryz.func17 rfl rfl rfl rfl ?_
  refine Ec.seq ?_
  refine Ec.region ?_
  refine Eo.box hp rfl (by exact on rfl (on rfl (on h2.isOne (on h4.isOne (on h6.isOne (on h8.isOne (on h10.isOne (on h12.isOne (on h14.isOne (on h16.isOne (on h18.isOne (on h20.isOne (on h22.isOne on0))))))))))))) rfl rfl rfl rfl rfl ?_
  intro b23 σ25 hp24
  refine Eo.box hp24 rfl rfl rfl rfl rfl rfl rfl ?_
  intro b26 σ28 hp27
  refine Eo.alloc (z := [(.v (.string (ByteArray.mk #[]))), (.v (.int .i64 0)), (.v (.int .i64 0))]) hp27 rfl rfl rfl rfl rfl ?_
  intro b29 σ31 hp30
  refine Eo.val (x := (.v (.bool false))) rfl rfl rfl rfl ?_
  refine Eo.nil ?_
  refine Ec.seq ?_
  refine Ec.region ?_
  refine Eo.val (x := (.ptr b23 12)) rfl rfl rfl rfl ?_
  refine Eo.val (x := a21) (op_loadB hp30 2 rfl rfl rfl rfl) rfl rfl rfl ?_
  refine Eo.val (x := (.fn (.func 34) [] [(.ptr b26 0)])) rfl rfl rfl rfl ?_
  obtain ⟨r32, hvr32, H⟩ := bind_some H
  refine Eo.call rfl rfl rfl rfl (gslices_IndexFunc_33_34_ok h22 (Hp.pick hp30 2 [1, 0] rfl) hvr32) ?_
  rintro _ σ34 ⟨rfl, hp33⟩
  change Hp σ34 (.blk b26 (.cells [(.v (.string p1))] 9) :: .blk b29 (.cells [(.v (.string (ByteArray.mk #[]))), (.v (.int .i64 0)), (.v (.int .i64 0))] 47) :: .blk b23 (.cells [(.v (.string p0.f_Name)), (.v (.int .i64 p0.f_Order)), a1, a3, a5, a7, a9, a11, a13, a15, a17, a19, a21] 37) :: R) at hp33
  refine Eo.val (x := (.v (.int .i64 r32))) rfl rfl rfl rfl ?_
  refine Eo.nil ?_
  refine Ec.seq ?_
  refine Ec.seq ?_
  refine Ec.region ?_
  refine Eo.val (x := (.v (.int .i64 r32))) rfl rfl rfl rfl ?_
  refine Eo.val (x := (.v (.bool (decide (r32 < 0))))) rfl rfl rfl rfl ?_
  refine Eo.nil ?_
  refine Ec.cond (t := (decide (r32 < 0))) rfl (fun hc35 => ?_) (fun hc35 => ?_)
  · have H := cond_t hc35 H
    refine Ec.seq ?_
    refine Ec.region ?_
    refine Eo.val (x := (.agg [(.v (.string (ByteArray.mk #[]))), (.v (.int .i64 0)), (.v (.int .i64 0))])) (op_build lay_nil rfl rfl Tryz.underlying47 rfl rfl) rfl rfl rfl ?_
    refine Eo.store hp33 1 rfl (storeCells_mk rfl rfl rfl rfl rfl rfl) rfl rfl rfl rfl rfl ?_
    intro σ37 hp36
    change Hp σ37 (.blk b26 (.cells [(.v (.string p1))] 9) :: .blk b29 (.cells [(.v (.string (ByteArray.mk #[]))), (.v (.int .i64 0)), (.v (.int .i64 0))] 47) :: .blk b23 (.cells [(.v (.string p0.f_Name)), (.v (.int .i64 p0.f_Order)), a1, a3, a5, a7, a9, a11, a13, a15, a17, a19, a21] 37) :: R) at hp36
    refine Eo.val (x := (.v (.bool false))) rfl rfl rfl rfl ?_
    refine Eo.nil ?_
    obtain rfl := Option.some.inj H
    refine Ec.ret ?_
    refine Ret.mk' (resA_cell hp36 1 rfl rfl rfl (resA_tmp rfl rfl)) ?_
    exact ⟨rfl, (Hp.pick hp36 3 [] rfl)⟩
  · have H := cond_f hc35 H
    refine Ec.skip ?_
    refine Ec.seq ?_
    refine Ec.region ?_
    refine Eo.val (x := (.ptr b23 12)) rfl rfl rfl rfl ?_
    refine Eo.val (x := a21) (op_loadB hp33 2 rfl rfl rfl rfl) rfl rfl rfl ?_
    refine Eo.val (x := (.v (.int .i64 r32))) rfl rfl rfl rfl ?_
    obtain ⟨x38, hvx38, H⟩ := bind_some H
    refine Eo.idx h22 hvx38 rfl rfl rfl Tryz.underlying28 rfl rfl rfl rfl ?_
    rintro cs39 p40 _ hat41 rfl
    refine Eo.val (x := (.agg [(.v (.string x38.f_Name)), (.v (.int .i64 x38.f_File)), (.v (.int .i64 x38.f_Num))])) (op_loadSpAgg hat41 0 rfl rfl rfl rfl rfl rfl) rfl rfl rfl ?_
    refine Eo.store hp33 1 rfl (storeCells_mk rfl rfl rfl rfl rfl rfl) rfl rfl rfl rfl rfl ?_
    intro σ43 hp42
    change Hp σ43 (.blk b26 (.cells [(.v (.string p1))] 9) :: .blk b29 (.cells [(.v (.string x38.f_Name)), (.v (.int .i64 x38.f_File)), (.v (.int .i64 x38.f_Num))] 47) :: .blk b23 (.cells [(.v (.string p0.f_Name)), (.v (.int .i64 p0.f_Order)), a1, a3, a5, a7, a9, a11, a13, a15, a17, a19, a21] 37) :: R) at hp42
    refine Eo.val (x := (.v (.bool true))) rfl rfl rfl rfl ?_
    refine Eo.nil ?_
    obtain rfl := Option.some.inj H
    refine Ec.ret ?_
    refine Ret.mk' (resA_cell hp42 1 rfl rfl rfl (resA_tmp rfl rfl)) ?_
    exact ⟨rfl, (Hp.pick hp42 3 [] rfl)⟩

def gdovetaillaw10_TargetsFinds_L1 (N : Nat) (p0 : TDesc) (p1 : ByteArray) : Nat → Int → Bool → Int → Option ((Int × Bool))
  | 0, _, _, _ => none
  | m + 1, y72, y73, y74 => (cond (decide (y74 ≥ 0)) (((((atL p0.f_Nums y74).bind fun x116 => (cond (decide (x116.f_Name = p1)) (((atL p0.f_Nums y74).bind fun x121 => some (x121.f_Num, true))) (some (y72, y73)))) : Option ((Int × Bool))).bind fun v => match v with | (x114, x115) => gdovetaillaw10_TargetsFinds_L1 N p0 p1 m x114 x115 (IntKind.wrap .i64 (y74 - 1)))) (some (y72, y73)))

def gdovetaillaw10_TargetsFinds_L2 (N : Nat) (p0 : TDesc) (p1 : ByteArray) : Nat → Bool → Int → ByteArray → Int → Int → Option ((Bool × ByteArray × Int × Int))
  | 0, _, _, _, _, _ => none
  | m + 1, y170, y171, y172, y173, y174 => (cond (decide (y171 ≥ 0)) (((((atL p0.f_Regs y171).bind fun x228 => (cond (decide (x228.f_Name = p1)) (((atL p0.f_Regs y171).bind fun x233 => some (true, x233.f_Name, x233.f_File, x233.f_Num))) (some (y170, y172, y173, y174)))) : Option ((Bool × ByteArray × Int × Int))).bind fun v => match v with | (x224, x225, x226, x227) => gdovetaillaw10_TargetsFinds_L2 N p0 p1 m x224 (IntKind.wrap .i64 (y171 - 1)) x225 x226 x227)) (some (y170, y172, y173, y174)))

def gdovetaillaw10_TargetsFinds (n : Nat) (p0 : TDesc) (p1 : ByteArray) : Option (Bool) := ((gtargets_Num n p0 p1).bind fun v => match v with | (r26, r27) => ((gtargets_Reg n p0 p1).bind fun v => match v with | (r31, r32) => ((gdovetaillaw10_TargetsFinds_L1 n p0 p1 n 0 false (IntKind.wrap .i64 (((p0.f_Nums.length : Nat) : Int) - 1))).bind fun v => match v with | (x102, x103) => ((gdovetaillaw10_TargetsFinds_L2 n p0 p1 n false (IntKind.wrap .i64 (((p0.f_Regs.length : Nat) : Int) - 1)) (ByteArray.mk #[]) 0 0).bind fun v => match v with | (x208, x209, x210, x211) => some ((((r26 == x102) && (r27 == x103)) && ((decide (r31.f_Name = x209)) && ((r31.f_File == x210) && ((r31.f_Num == x211) && true)))) && (r32 == x208))))))

def gdovetaillaw10_TargetsFinds_post (R : List Res) (r : Bool) (x : A) (s : St) : Prop := x = (.v (.bool r)) ∧ Hp s R

theorem gdovetaillaw10_TargetsFinds_ok {n : Nat} {p0 : TDesc} {p1 : ByteArray} {a1 : A} {a3 : A} {a5 : A} {a7 : A} {a9 : A} {a11 : A} {a13 : A} {a15 : A} {a17 : A} {a19 : A} {a21 : A} (h2 : Sl rTFile a1 p0.f_Files) (h4 : Sl rTAlias a3 p0.f_Aliases) (h6 : Sl rS a5 p0.f_Flags) (h8 : Sl rTClass a7 p0.f_Classes) (h10 : Sl rTForm a9 p0.f_Forms) (h12 : Sl rTRel a11 p0.f_Rels) (h14 : Sl rTUse a13 p0.f_Uses) (h16 : Sl rTRelaxed a15 p0.f_Relaxes) (h18 : Sl rTMacro a17 p0.f_Macros) (h20 : Sl rTNamed a19 p0.f_Nums) (h22 : Sl rTAlias a21 p0.f_Regs) {r : Bool} (H : gdovetaillaw10_TargetsFinds n p0 p1 = some r) : Ca cfg 4 [(.agg [(.v (.string p0.f_Name)), (.v (.int .i64 p0.f_Order)), a1, a3, a5, a7, a9, a11, a13, a15, a17, a19, a21]), (.v (.string p1))] σ0 (gdovetaillaw10_TargetsFinds_post [] r) := by
  unfold gdovetaillaw10_TargetsFinds at H
  refine Ca.enterL (G := [(0, (.agg [(.v (.string p0.f_Name)), (.v (.int .i64 p0.f_Order)), a1, a3, a5, a7, a9, a11, a13, a15, a17, a19, a21])), (1, (.v (.string p1)))]) Tryz.func4 rfl rfl rfl rfl ?_
  refine Ec.seq ?_
  refine Ec.region ?_
  refine Eo.boxC (b := 0) rfl rfl (by exact on rfl (on rfl (on h2.isOne (on h4.isOne (on h6.isOne (on h8.isOne (on h10.isOne (on h12.isOne (on h14.isOne (on h16.isOne (on h18.isOne (on h20.isOne (on h22.isOne on0))))))))))))) rfl rfl rfl rfl rfl ?_
  refine Eo.val (x := (.v (.bool false))) rfl rfl rfl rfl ?_
  refine Eo.nil ?_
  refine Ec.seq ?_
  refine Ec.seq ?_
  refine Ec.region ?_
  refine Eo.call rfl rfl rfl rfl (galive1 _) ?_
  rintro _ σ24 ⟨rfl, hp23⟩
  change Hp σ24 (.blk 0 (.cells [(.v (.string p0.f_Name)), (.v (.int .i64 p0.f_Order)), a1, a3, a5, a7, a9, a11, a13, a15, a17, a19, a21] 37) :: ([] : List Res)) at hp23
  refine Eo.val (x := (.v (.bool false))) rfl rfl rfl rfl ?_
  refine Eo.nil ?_
  refine Ec.cond (t := false) rfl (fun h => nomatch h) (fun h => ?_)
  refine Ec.skip ?_
  refine Ec.seq ?_
  refine Ec.region ?_
  refine Eo.val (x := (.agg [(.v (.string p0.f_Name)), (.v (.int .i64 p0.f_Order)), a1, a3, a5, a7, a9, a11, a13, a15, a17, a19, a21])) (op_loadB hp23 0 rfl rfl rfl rfl) rfl rfl rfl ?_
  refine Eo.val (x := (.v (.string p1))) rfl rfl rfl rfl ?_
  obtain ⟨r25, hvr25, H⟩ := bind_some H
  refine Eo.call rfl rfl rfl rfl (gtargets_Num_ok h2 h4 h6 h8 h10 h12 h14 h16 h18 h20 h22 hp23 hvr25) ?_
  obtain ⟨r26, r27⟩ := r25
  rintro _ σ29 ⟨rfl, hp28⟩
  refine Eo.val (x := (.tup [(.v (.int .i64 r26)), (.v (.bool r27))])) rfl rfl rfl rfl ?_
  refine Eo.val (x := (.v (.int .i64 r26))) rfl rfl rfl rfl ?_
  refine Eo.val (x := (.v (.bool r27))) rfl rfl rfl rfl ?_
  refine Eo.val (x := (.v (.int .i64 r26))) rfl rfl rfl rfl ?_
  refine Eo.val (x := (.v (.bool r27))) rfl rfl rfl rfl ?_
  refine Eo.nil ?_
  refine Ec.seq ?_
  refine Ec.region ?_
  refine Eo.val (x := (.agg [(.v (.string p0.f_Name)), (.v (.int .i64 p0.f_Order)), a1, a3, a5, a7, a9, a11, a13, a15, a17, a19, a21])) (op_loadB hp28 0 rfl rfl rfl rfl) rfl rfl rfl ?_
  refine Eo.val (x := (.v (.string p1))) rfl rfl rfl rfl ?_
  obtain ⟨r30, hvr30, H⟩ := bind_some H
  refine Eo.call rfl rfl rfl rfl (gtargets_Reg_ok h2 h4 h6 h8 h10 h12 h14 h16 h18 h20 h22 hp28 hvr30) ?_
  obtain ⟨r31, r32⟩ := r30
  rintro _ σ34 ⟨rfl, hp33⟩
  refine Eo.val (x := (.tup [(.agg [(.v (.string r31.f_Name)), (.v (.int .i64 r31.f_File)), (.v (.int .i64 r31.f_Num))]), (.v (.bool r32))])) rfl rfl rfl rfl ?_
  refine Eo.val (x := (.agg [(.v (.string r31.f_Name)), (.v (.int .i64 r31.f_File)), (.v (.int .i64 r31.f_Num))])) rfl rfl rfl rfl ?_
  refine Eo.val (x := (.v (.bool r32))) rfl rfl rfl rfl ?_
  refine Eo.alloc (z := [(.v (.string (ByteArray.mk #[]))), (.v (.int .i64 0)), (.v (.int .i64 0))]) hp33 rfl rfl rfl rfl rfl ?_
  intro b35 σ37 hp36
  refine Eo.store hp36 0 rfl (storeCells_mk rfl rfl rfl rfl rfl rfl) rfl rfl rfl rfl rfl ?_
  intro σ39 hp38
  change Hp σ39 (.blk b35 (.cells [(.v (.string r31.f_Name)), (.v (.int .i64 r31.f_File)), (.v (.int .i64 r31.f_Num))] 47) :: .blk 0 (.cells [(.v (.string p0.f_Name)), (.v (.int .i64 p0.f_Order)), a1, a3, a5, a7, a9, a11, a13, a15, a17, a19, a21] 37) :: ([] : List Res)) at hp38
  refine Eo.val (x := (.v (.bool r32))) rfl rfl rfl rfl ?_
  refine Eo.nil ?_
  refine Ec.seq ?_
  refine Ec.region ?_
  refine Eo.val (x := (.agg [(.v (.string (ByteArray.mk #[]))), (.v (.int .i64 0)), (.v (.int .i64 0))])) (op_build lay_nil rfl rfl Tryz.underlying47 rfl rfl) rfl rfl rfl ?_
  refine Eo.alloc (z := [(.v (.string (ByteArray.mk #[]))), (.v (.int .i64 0)), (.v (.int .i64 0))]) hp38 rfl rfl rfl rfl rfl ?_
  intro b40 σ42 hp41
  refine Eo.val (x := (.v (.int .i64 0))) rfl rfl rfl rfl ?_
  refine Eo.store hp41 0 rfl (storeCells_mk rfl rfl rfl rfl rfl rfl) rfl rfl rfl rfl rfl ?_
  intro σ44 hp43
  change Hp σ44 (.blk b40 (.cells [(.v (.string (ByteArray.mk #[]))), (.v (.int .i64 0)), (.v (.int .i64 0))] 47) :: .blk b35 (.cells [(.v (.string r31.f_Name)), (.v (.int .i64 r31.f_File)), (.v (.int .i64 r31.f_Num))] 47) :: .blk 0 (.cells [(.v (.string p0.f_Name)), (.v (.int .i64 p0.f_Order)), a1, a3, a5, a7, a9, a11, a13, a15, a17, a19, a21] 37) :: ([] : List Res)) at hp43
  refine Eo.nil ?_
  refine Ec.seq ?_
  refine Ec.region ?_
  refine Eo.val (x := (.v (.bool false))) rfl rfl rfl rfl ?_
  refine Eo.val (x := (.v (.bool false))) rfl rfl rfl rfl ?_
  refine Eo.nil ?_
  refine Ec.seq ?_
  refine Ec.seq ?_
  refine Ec.region ?_
  refine Eo.val (x := (.ptr 0 11)) rfl rfl rfl rfl ?_
  refine Eo.val (x := a19) (op_loadB hp43 2 rfl rfl rfl rfl) rfl rfl rfl ?_
  refine Eo.val (x := (.v (.int .i64 ((p0.f_Nums.length : Nat) : Int)))) (op_lenL h20 rfl rfl rfl rfl rfl Tryz.underlying35) rfl rfl rfl ?_
  refine Eo.val (x := (.v (.int .i64 (IntKind.wrap .i64 (((p0.f_Nums.length : Nat) : Int) - 1))))) rfl rfl rfl rfl ?_
  refine Eo.val (x := (.v (.int .i64 (IntKind.wrap .i64 (((p0.f_Nums.length : Nat) : Int) - 1))))) rfl rfl rfl rfl ?_
  refine Eo.nil ?_
  refine Ec.block ?_
  obtain ⟨v131, hv132, H⟩ := bind_some H
  refine Ec.cut (J := _) (Ec.weak (.cons rfl (.cons rfl (.cons rfl (.cons rfl (.cons rfl (.cons rfl (.cons rfl (.cons rfl (.cons rfl (.cons rfl (.cons rfl (.nil')))))))))))) (Ec.loopF (f := (fun m (i : (Int × Bool × Int) × Unit) => gdovetaillaw10_TargetsFinds_L1 n p0 p1 m i.1.1 i.1.2.1 i.1.2.2)) (G := (fun (i : (Int × Bool × Int) × Unit) => ([(1, (.v (.string p1))), (2, (.ptr 0 0)), (5, (.v (.int .i64 r26))), (6, (.v (.bool r27))), (7, (.ptr b35 0)), (8, (.v (.bool r32))), (9, (.v (.int .i64 i.1.1))), (10, (.ptr b40 0)), (11, (.v (.bool i.1.2.1))), (12, (.v (.bool false))), (13, (.v (.int .i64 i.1.2.2)))] : List (Nat × A)))) (I := (fun (i : (Int × Bool × Int) × Unit) (s : St) => Hp s (.blk 0 (.cells [(.v (.string p0.f_Name)), (.v (.int .i64 p0.f_Order)), a1, a3, a5, a7, a9, a11, a13, a15, a17, a19, a21] 37) :: .blk b35 (.cells [(.v (.string r31.f_Name)), (.v (.int .i64 r31.f_File)), (.v (.int .i64 r31.f_Num))] 47) :: .blk b40 (.cells [(.v (.string (ByteArray.mk #[]))), (.v (.int .i64 0)), (.v (.int .i64 0))] 47) :: ([] : List Res)))) (J := (fun (v : (Int × Bool)) (x : X) (φ : Fr) (s : St) => match v with | (x102, x103) => x = (.exit 0) ∧ (Hp s (.blk 0 (.cells [(.v (.string p0.f_Name)), (.v (.int .i64 p0.f_Order)), a1, a3, a5, a7, a9, a11, a13, a15, a17, a19, a21] 37) :: .blk b35 (.cells [(.v (.string r31.f_Name)), (.v (.int .i64 r31.f_File)), (.v (.int .i64 r31.f_Num))] 47) :: .blk b40 (.cells [(.v (.string (ByteArray.mk #[]))), (.v (.int .i64 0)), (.v (.int .i64 0))] 47) :: ([] : List Res)) ∧ Fl [(1, (.v (.string p1))), (2, (.ptr 0 0)), (5, (.v (.int .i64 r26))), (6, (.v (.bool r27))), (7, (.ptr b35 0)), (8, (.v (.bool r32))), (9, (.v (.int .i64 x102))), (10, (.ptr b40 0)), (11, (.v (.bool x103))), (12, (.v (.bool false)))] φ))) (fun _ => rfl) ?_ n ((0, false, (IntKind.wrap .i64 (((p0.f_Nums.length : Nat) : Int) - 1))), ()) _ v131 (Hp.pick hp43 3 [2, 1, 0] rfl) hv132)) ?_
  · rintro m ⟨⟨y72, y73, y74⟩, _⟩ σ0 v hp0 H ih
    change gdovetaillaw10_TargetsFinds_L1 n p0 p1 (m + 1) y72 y73 y74 = some v at H
    rw [gdovetaillaw10_TargetsFinds_L1] at H
    change Ec _ _ _ [(1, (.v (.string p1))), (2, (.ptr 0 0)), (5, (.v (.int .i64 r26))), (6, (.v (.bool r27))), (7, (.ptr b35 0)), (8, (.v (.bool r32))), (9, (.v (.int .i64 y72))), (10, (.ptr b40 0)), (11, (.v (.bool y73))), (12, (.v (.bool false))), (13, (.v (.int .i64 y74)))] σ0 _
    refine Ec.seq ?_
    refine Ec.seq ?_
    refine Ec.region ?_
    refine Eo.val (x := (.v (.int .i64 y74))) rfl rfl rfl rfl ?_
    refine Eo.val (x := (.v (.bool (decide (y74 ≥ 0))))) rfl rfl rfl rfl ?_
    refine Eo.nil ?_
    refine Ec.cond (t := (decide (y74 ≥ 0))) rfl (fun hc104 => ?_) (fun hc104 => ?_)
    · have H := cond_t hc104 H
      refine Ec.skip ?_
      refine Ec.seq ?_
      obtain ⟨v129, hv130, H⟩ := bind_some H
      refine Ec.cut (J := (fun (v : (Int × Bool)) (x : X) (φ : Fr) (s : St) => match v with | (x114, x115) => x = .normal ∧ (Hp s (.blk 0 (.cells [(.v (.string p0.f_Name)), (.v (.int .i64 p0.f_Order)), a1, a3, a5, a7, a9, a11, a13, a15, a17, a19, a21] 37) :: .blk b35 (.cells [(.v (.string r31.f_Name)), (.v (.int .i64 r31.f_File)), (.v (.int .i64 r31.f_Num))] 47) :: .blk b40 (.cells [(.v (.string (ByteArray.mk #[]))), (.v (.int .i64 0)), (.v (.int .i64 0))] 47) :: ([] : List Res)) ∧ Fl [(1, (.v (.string p1))), (2, (.ptr 0 0)), (5, (.v (.int .i64 r26))), (6, (.v (.bool r27))), (7, (.ptr b35 0)), (8, (.v (.bool r32))), (9, (.v (.int .i64 x114))), (10, (.ptr b40 0)), (11, (.v (.bool x115))), (12, (.v (.bool false))), (13, (.v (.int .i64 y74)))] φ)) v129) ?_ ?_
      · have H := hv130
        refine Ec.block ?_
        refine Ec.seq ?_
        refine Ec.region ?_
        refine Eo.val (x := (.ptr 0 11)) rfl rfl rfl rfl ?_
        refine Eo.val (x := a19) (op_loadB hp0 0 rfl rfl rfl rfl) rfl rfl rfl ?_
        refine Eo.val (x := (.v (.int .i64 y74))) rfl rfl rfl rfl ?_
        obtain ⟨x116, hvx116, H⟩ := bind_some H
        refine Eo.idx h20 hvx116 rfl rfl rfl Tryz.underlying35 rfl rfl rfl rfl ?_
        rintro cs117 p118 _ hat119 rfl
        refine Eo.val (x := (.sp cs117 p118 .no)) rfl rfl rfl rfl ?_
        refine Eo.val (x := (.v (.string x116.f_Name))) (op_loadSp hat119 0 rfl rfl rfl rfl rfl) rfl rfl rfl ?_
        refine Eo.val (x := (.v (.string p1))) rfl rfl rfl rfl ?_
        refine Eo.val (x := (.v (.bool (decide (x116.f_Name = p1))))) (val_b rfl (seq_eq _ _)) rfl rfl rfl ?_
        refine Eo.nil ?_
        refine Ec.cond (t := (decide (x116.f_Name = p1))) rfl (fun hc120 => ?_) (fun hc120 => ?_)
        · have H := cond_t hc120 H
          refine Ec.seq ?_
          refine Ec.region ?_
          refine Eo.val (x := (.ptr 0 11)) rfl rfl rfl rfl ?_
          refine Eo.val (x := a19) (op_loadB hp0 0 rfl rfl rfl rfl) rfl rfl rfl ?_
          refine Eo.val (x := (.v (.int .i64 y74))) rfl rfl rfl rfl ?_
          obtain ⟨x121, hvx121, H⟩ := bind_some H
          refine Eo.idx h20 hvx121 rfl rfl rfl Tryz.underlying35 rfl rfl rfl rfl ?_
          rintro cs122 p123 _ hat124 rfl
          refine Eo.val (x := (.sp cs122 (p123 + 1) .no)) rfl rfl rfl rfl ?_
          refine Eo.val (x := (.v (.int .i64 x121.f_Num))) (op_loadSp hat124 1 rfl rfl rfl rfl rfl) rfl rfl rfl ?_
          refine Eo.val (x := (.v (.int .i64 x121.f_Num))) rfl rfl rfl rfl ?_
          refine Eo.nil ?_
          refine Ec.region ?_
          refine Eo.val (x := (.v (.bool true))) rfl rfl rfl rfl ?_
          refine Eo.nil ?_
          obtain rfl := Option.some.inj H
          exact And.intro rfl ⟨hp0, (.cons rfl (.cons rfl (.cons rfl (.cons rfl (.cons rfl (.cons rfl (.cons rfl (.cons rfl (.cons rfl (.cons rfl (.cons rfl (.nil'))))))))))))⟩
        · have H := cond_f hc120 H
          refine Ec.skip ?_
          obtain rfl := Option.some.inj H
          exact And.intro rfl ⟨hp0, (.cons rfl (.cons rfl (.cons rfl (.cons rfl (.cons rfl (.cons rfl (.cons rfl (.cons rfl (.cons rfl (.cons rfl (.cons rfl (.nil'))))))))))))⟩
      · skip
        intro x φ127 σ126 hJ
        obtain ⟨x114, x115⟩ := v129
        obtain ⟨rfl, hp125, hf128⟩ := hJ
        refine Ec.of (F := [(1, (.v (.string p1))), (2, (.ptr 0 0)), (5, (.v (.int .i64 r26))), (6, (.v (.bool r27))), (7, (.ptr b35 0)), (8, (.v (.bool r32))), (9, (.v (.int .i64 x114))), (10, (.ptr b40 0)), (11, (.v (.bool x115))), (12, (.v (.bool false))), (13, (.v (.int .i64 y74)))]) hf128 ?_
        refine Ec.region ?_
        refine Eo.val (x := (.v (.int .i64 y74))) rfl rfl rfl rfl ?_
        refine Eo.val (x := (.v (.int .i64 (IntKind.wrap .i64 (y74 - 1))))) rfl rfl rfl rfl ?_
        refine Eo.val (x := (.v (.int .i64 (IntKind.wrap .i64 (y74 - 1))))) rfl rfl rfl rfl ?_
        refine Eo.nil ?_
        exact Ec.of (.cons rfl (.cons rfl (.cons rfl (.cons rfl (.cons rfl (.cons rfl (.cons rfl (.cons rfl (.cons rfl (.cons rfl (.cons rfl (.nil')))))))))))) (ih ((x114, x115, (IntKind.wrap .i64 (y74 - 1))), ()) _ hp125 H)
    · have H := cond_f hc104 H
      refine Ec.exit ?_
      obtain rfl := Option.some.inj H
      exact And.intro rfl ⟨hp0, (.cons rfl (.cons rfl (.cons rfl (.cons rfl (.cons rfl (.cons rfl (.cons rfl (.cons rfl (.cons rfl (.cons rfl (.nil')))))))))))⟩
  · skip
    intro x φ135 σ134 hJ
    obtain ⟨x102, x103⟩ := v131
    obtain ⟨rfl, hp133, hf136⟩ := hJ
    refine Ec.of (F := [(1, (.v (.string p1))), (2, (.ptr 0 0)), (5, (.v (.int .i64 r26))), (6, (.v (.bool r27))), (7, (.ptr b35 0)), (8, (.v (.bool r32))), (9, (.v (.int .i64 x102))), (10, (.ptr b40 0)), (11, (.v (.bool x103))), (12, (.v (.bool false)))]) hf136 ?_
    refine Ec.seq ?_
    refine Ec.seq ?_
    refine Ec.region ?_
    refine Eo.val (x := (.ptr 0 12)) rfl rfl rfl rfl ?_
    refine Eo.val (x := a21) (op_loadB hp133 0 rfl rfl rfl rfl) rfl rfl rfl ?_
    refine Eo.val (x := (.v (.int .i64 ((p0.f_Regs.length : Nat) : Int)))) (op_lenL h22 rfl rfl rfl rfl rfl Tryz.underlying28) rfl rfl rfl ?_
    refine Eo.val (x := (.v (.int .i64 (IntKind.wrap .i64 (((p0.f_Regs.length : Nat) : Int) - 1))))) rfl rfl rfl rfl ?_
    refine Eo.val (x := (.v (.int .i64 (IntKind.wrap .i64 (((p0.f_Regs.length : Nat) : Int) - 1))))) rfl rfl rfl rfl ?_
    refine Eo.nil ?_
    refine Ec.block ?_
    obtain ⟨v245, hv246, H⟩ := bind_some H
    refine Ec.cut (J := _) (Ec.weak (.cons rfl (.cons rfl (.cons rfl (.cons rfl (.cons rfl (.cons rfl (.cons rfl (.cons rfl (.cons rfl (.cons rfl (.cons rfl (.nil')))))))))))) (Ec.loopF (f := (fun m (i : (Bool × Int × ByteArray × Int × Int) × Unit) => gdovetaillaw10_TargetsFinds_L2 n p0 p1 m i.1.1 i.1.2.1 i.1.2.2.1 i.1.2.2.2.1 i.1.2.2.2.2)) (G := (fun (i : (Bool × Int × ByteArray × Int × Int) × Unit) => ([(1, (.v (.string p1))), (2, (.ptr 0 0)), (5, (.v (.int .i64 r26))), (6, (.v (.bool r27))), (7, (.ptr b35 0)), (8, (.v (.bool r32))), (9, (.v (.int .i64 x102))), (10, (.ptr b40 0)), (11, (.v (.bool x103))), (12, (.v (.bool i.1.1))), (14, (.v (.int .i64 i.1.2.1)))] : List (Nat × A)))) (I := (fun (i : (Bool × Int × ByteArray × Int × Int) × Unit) (s : St) => Hp s (.blk 0 (.cells [(.v (.string p0.f_Name)), (.v (.int .i64 p0.f_Order)), a1, a3, a5, a7, a9, a11, a13, a15, a17, a19, a21] 37) :: .blk b35 (.cells [(.v (.string r31.f_Name)), (.v (.int .i64 r31.f_File)), (.v (.int .i64 r31.f_Num))] 47) :: .blk b40 (.cells [(.v (.string i.1.2.2.1)), (.v (.int .i64 i.1.2.2.2.1)), (.v (.int .i64 i.1.2.2.2.2))] 47) :: ([] : List Res)))) (J := (fun (v : (Bool × ByteArray × Int × Int)) (x : X) (φ : Fr) (s : St) => match v with | (x208, x209, x210, x211) => x = (.exit 2) ∧ (Hp s (.blk b35 (.cells [(.v (.string r31.f_Name)), (.v (.int .i64 r31.f_File)), (.v (.int .i64 r31.f_Num))] 47) :: .blk b40 (.cells [(.v (.string x209)), (.v (.int .i64 x210)), (.v (.int .i64 x211))] 47) :: ([] : List Res)) ∧ Fl [(5, (.v (.int .i64 r26))), (6, (.v (.bool r27))), (7, (.ptr b35 0)), (8, (.v (.bool r32))), (9, (.v (.int .i64 x102))), (10, (.ptr b40 0)), (11, (.v (.bool x103))), (12, (.v (.bool x208)))] φ))) (fun _ => rfl) ?_ n ((false, (IntKind.wrap .i64 (((p0.f_Regs.length : Nat) : Int) - 1)), (ByteArray.mk #[]), 0, 0), ()) _ v245 hp133 hv246)) ?_
    · rintro m ⟨⟨y170, y171, y172, y173, y174⟩, _⟩ σ0 v hp0 H ih
      change gdovetaillaw10_TargetsFinds_L2 n p0 p1 (m + 1) y170 y171 y172 y173 y174 = some v at H
      rw [gdovetaillaw10_TargetsFinds_L2] at H
      change Ec _ _ _ [(1, (.v (.string p1))), (2, (.ptr 0 0)), (5, (.v (.int .i64 r26))), (6, (.v (.bool r27))), (7, (.ptr b35 0)), (8, (.v (.bool r32))), (9, (.v (.int .i64 x102))), (10, (.ptr b40 0)), (11, (.v (.bool x103))), (12, (.v (.bool y170))), (14, (.v (.int .i64 y171)))] σ0 _
      refine Ec.seq ?_
      refine Ec.seq ?_
      refine Ec.region ?_
      refine Eo.val (x := (.v (.int .i64 y171))) rfl rfl rfl rfl ?_
      refine Eo.val (x := (.v (.bool (decide (y171 ≥ 0))))) rfl rfl rfl rfl ?_
      refine Eo.nil ?_
      refine Ec.cond (t := (decide (y171 ≥ 0))) rfl (fun hc212 => ?_) (fun hc212 => ?_)
      · have H := cond_t hc212 H
        refine Ec.skip ?_
        refine Ec.seq ?_
        obtain ⟨v243, hv244, H⟩ := bind_some H
        refine Ec.cut (J := (fun (v : (Bool × ByteArray × Int × Int)) (x : X) (φ : Fr) (s : St) => match v with | (x224, x225, x226, x227) => x = .normal ∧ (Hp s (.blk 0 (.cells [(.v (.string p0.f_Name)), (.v (.int .i64 p0.f_Order)), a1, a3, a5, a7, a9, a11, a13, a15, a17, a19, a21] 37) :: .blk b35 (.cells [(.v (.string r31.f_Name)), (.v (.int .i64 r31.f_File)), (.v (.int .i64 r31.f_Num))] 47) :: .blk b40 (.cells [(.v (.string x225)), (.v (.int .i64 x226)), (.v (.int .i64 x227))] 47) :: ([] : List Res)) ∧ Fl [(1, (.v (.string p1))), (2, (.ptr 0 0)), (5, (.v (.int .i64 r26))), (6, (.v (.bool r27))), (7, (.ptr b35 0)), (8, (.v (.bool r32))), (9, (.v (.int .i64 x102))), (10, (.ptr b40 0)), (11, (.v (.bool x103))), (12, (.v (.bool x224))), (14, (.v (.int .i64 y171)))] φ)) v243) ?_ ?_
        · have H := hv244
          refine Ec.block ?_
          refine Ec.seq ?_
          refine Ec.region ?_
          refine Eo.val (x := (.ptr 0 12)) rfl rfl rfl rfl ?_
          refine Eo.val (x := a21) (op_loadB hp0 0 rfl rfl rfl rfl) rfl rfl rfl ?_
          refine Eo.val (x := (.v (.int .i64 y171))) rfl rfl rfl rfl ?_
          obtain ⟨x228, hvx228, H⟩ := bind_some H
          refine Eo.idx h22 hvx228 rfl rfl rfl Tryz.underlying28 rfl rfl rfl rfl ?_
          rintro cs229 p230 _ hat231 rfl
          refine Eo.val (x := (.sp cs229 p230 .no)) rfl rfl rfl rfl ?_
          refine Eo.val (x := (.v (.string x228.f_Name))) (op_loadSp hat231 0 rfl rfl rfl rfl rfl) rfl rfl rfl ?_
          refine Eo.val (x := (.v (.string p1))) rfl rfl rfl rfl ?_
          refine Eo.val (x := (.v (.bool (decide (x228.f_Name = p1))))) (val_b rfl (seq_eq _ _)) rfl rfl rfl ?_
          refine Eo.nil ?_
          refine Ec.cond (t := (decide (x228.f_Name = p1))) rfl (fun hc232 => ?_) (fun hc232 => ?_)
          · have H := cond_t hc232 H
            refine Ec.seq ?_
            refine Ec.region ?_
            refine Eo.val (x := (.ptr 0 12)) rfl rfl rfl rfl ?_
            refine Eo.val (x := a21) (op_loadB hp0 0 rfl rfl rfl rfl) rfl rfl rfl ?_
            refine Eo.val (x := (.v (.int .i64 y171))) rfl rfl rfl rfl ?_
            obtain ⟨x233, hvx233, H⟩ := bind_some H
            refine Eo.idx h22 hvx233 rfl rfl rfl Tryz.underlying28 rfl rfl rfl rfl ?_
            rintro cs234 p235 _ hat236 rfl
            refine Eo.val (x := (.agg [(.v (.string x233.f_Name)), (.v (.int .i64 x233.f_File)), (.v (.int .i64 x233.f_Num))])) (op_loadSpAgg hat236 0 rfl rfl rfl rfl rfl rfl) rfl rfl rfl ?_
            refine Eo.store hp0 2 rfl (storeCells_mk rfl rfl rfl rfl rfl rfl) rfl rfl rfl rfl rfl ?_
            intro σ238 hp237
            change Hp σ238 (.blk 0 (.cells [(.v (.string p0.f_Name)), (.v (.int .i64 p0.f_Order)), a1, a3, a5, a7, a9, a11, a13, a15, a17, a19, a21] 37) :: .blk b35 (.cells [(.v (.string r31.f_Name)), (.v (.int .i64 r31.f_File)), (.v (.int .i64 r31.f_Num))] 47) :: .blk b40 (.cells [(.v (.string x233.f_Name)), (.v (.int .i64 x233.f_File)), (.v (.int .i64 x233.f_Num))] 47) :: ([] : List Res)) at hp237
            refine Eo.nil ?_
            refine Ec.region ?_
            refine Eo.val (x := (.v (.bool true))) rfl rfl rfl rfl ?_
            refine Eo.nil ?_
            obtain rfl := Option.some.inj H
            exact And.intro rfl ⟨hp237, (.cons rfl (.cons rfl (.cons rfl (.cons rfl (.cons rfl (.cons rfl (.cons rfl (.cons rfl (.cons rfl (.cons rfl (.cons rfl (.nil'))))))))))))⟩
          · have H := cond_f hc232 H
            refine Ec.skip ?_
            obtain rfl := Option.some.inj H
            exact And.intro rfl ⟨hp0, (.cons rfl (.cons rfl (.cons rfl (.cons rfl (.cons rfl (.cons rfl (.cons rfl (.cons rfl (.cons rfl (.cons rfl (.cons rfl (.nil'))))))))))))⟩
        · skip
          intro x φ241 σ240 hJ
          obtain ⟨x224, x225, x226, x227⟩ := v243
          obtain ⟨rfl, hp239, hf242⟩ := hJ
          refine Ec.of (F := [(1, (.v (.string p1))), (2, (.ptr 0 0)), (5, (.v (.int .i64 r26))), (6, (.v (.bool r27))), (7, (.ptr b35 0)), (8, (.v (.bool r32))), (9, (.v (.int .i64 x102))), (10, (.ptr b40 0)), (11, (.v (.bool x103))), (12, (.v (.bool x224))), (14, (.v (.int .i64 y171)))]) hf242 ?_
          refine Ec.region ?_
          refine Eo.val (x := (.v (.int .i64 y171))) rfl rfl rfl rfl ?_
          refine Eo.val (x := (.v (.int .i64 (IntKind.wrap .i64 (y171 - 1))))) rfl rfl rfl rfl ?_
          refine Eo.val (x := (.v (.int .i64 (IntKind.wrap .i64 (y171 - 1))))) rfl rfl rfl rfl ?_
          refine Eo.nil ?_
          exact Ec.of (.cons rfl (.cons rfl (.cons rfl (.cons rfl (.cons rfl (.cons rfl (.cons rfl (.cons rfl (.cons rfl (.cons rfl (.cons rfl (.nil')))))))))))) (ih ((x224, (IntKind.wrap .i64 (y171 - 1)), x225, x226, x227), ()) _ hp239 H)
      · have H := cond_f hc212 H
        refine Ec.exit ?_
        obtain rfl := Option.some.inj H
        exact And.intro rfl ⟨(Hp.pick hp0 1 [] rfl), (.cons rfl (.cons rfl (.cons rfl (.cons rfl (.cons rfl (.cons rfl (.cons rfl (.cons rfl (.nil')))))))))⟩
    · skip
      intro x φ249 σ248 hJ
      obtain ⟨x208, x209, x210, x211⟩ := v245
      obtain ⟨rfl, hp247, hf250⟩ := hJ
      refine Ec.of (F := [(5, (.v (.int .i64 r26))), (6, (.v (.bool r27))), (7, (.ptr b35 0)), (8, (.v (.bool r32))), (9, (.v (.int .i64 x102))), (10, (.ptr b40 0)), (11, (.v (.bool x103))), (12, (.v (.bool x208)))]) hf250 ?_
      refine Ec.seq ?_
      refine Ec.region ?_
      refine Eo.val (x := (.v (.int .i64 r26))) rfl rfl rfl rfl ?_
      refine Eo.val (x := (.v (.int .i64 x102))) rfl rfl rfl rfl ?_
      refine Eo.val (x := (.v (.bool (r26 == x102)))) rfl rfl rfl rfl ?_
      refine Eo.val (x := (.v (.bool (r26 == x102)))) rfl rfl rfl rfl ?_
      refine Eo.cutF 4 [(7, (.ptr b35 0)), (8, (.v (.bool r32))), (10, (.ptr b40 0)), (12, (.v (.bool x208))), (80, (.v (.bool ((r26 == x102) && (r27 == x103)))))] ?_ ?_
      · skip
        cases hc253 : (r26 == x102)
        · skip
          refine Eo.off rfl rfl rfl ?_
          refine Eo.off rfl rfl rfl ?_
          refine Eo.off rfl rfl rfl ?_
          refine Eo.val (x := (.v (.bool false))) rfl rfl rfl rfl ?_
          exact Eo.nil (And.intro rfl (And.intro rfl (.cons rfl (.cons rfl (.cons rfl (.cons rfl (.cons rfl (.nil'))))))))
        · skip
          refine Eo.val (x := (.v (.bool r27))) rfl rfl rfl rfl ?_
          refine Eo.val (x := (.v (.bool x103))) rfl rfl rfl rfl ?_
          refine Eo.val (x := (.v (.bool (r27 == x103)))) rfl rfl rfl rfl ?_
          refine Eo.val (x := (.v (.bool (r27 == x103)))) rfl rfl rfl rfl ?_
          exact Eo.nil (And.intro rfl (And.intro rfl (.cons rfl (.cons rfl (.cons rfl (.cons rfl (.cons rfl (.nil'))))))))
      · skip
        refine Eo.val (x := (.v (.bool ((r26 == x102) && (r27 == x103))))) rfl rfl rfl rfl ?_
        refine Eo.cutF 4 [(8, (.v (.bool r32))), (12, (.v (.bool x208))), (85, (.v (.bool (((r26 == x102) && (r27 == x103)) && ((decide (r31.f_Name = x209)) && ((r31.f_File == x210) && ((r31.f_Num == x211) && true)))))))] ?_ ?_
        · skip
          cases hc258 : ((r26 == x102) && (r27 == x103))
          · skip
            refine Eo.off rfl rfl rfl ?_
            refine Eo.off rfl rfl rfl ?_
            refine Eo.off rfl rfl rfl ?_
            refine Eo.val (x := (.v (.bool false))) rfl rfl rfl rfl ?_
            exact Eo.nil (And.intro rfl (And.intro rfl (.cons rfl (.cons rfl (.cons rfl (.nil'))))))
          · skip
            refine Eo.val (x := (.agg [(.v (.string r31.f_Name)), (.v (.int .i64 r31.f_File)), (.v (.int .i64 r31.f_Num))])) (op_loadB hp247 0 rfl rfl rfl rfl) rfl rfl rfl ?_
            refine Eo.val (x := (.agg [(.v (.string x209)), (.v (.int .i64 x210)), (.v (.int .i64 x211))])) (op_loadB hp247 1 rfl rfl rfl rfl) rfl rfl rfl ?_
            refine Eo.val (x := (.v (.bool ((decide (r31.f_Name = x209)) && ((r31.f_File == x210) && ((r31.f_Num == x211) && true)))))) (op_eqSt rfl rfl rfl rfl rfl Tryz.underlying47 (by kernel_rfl) (by kernel_rfl) (fun d => (det_eqF_cons rfl rfl rfl (det_eqS Tryz.underlying9) (det_eqF_cons rfl rfl rfl (det_eqI Tryz.underlying3) (det_eqF_cons rfl rfl rfl (det_eqI Tryz.underlying3) det_eqF_nil))))) rfl rfl rfl ?_
            refine Eo.val (x := (.v (.bool ((decide (r31.f_Name = x209)) && ((r31.f_File == x210) && ((r31.f_Num == x211) && true)))))) rfl rfl rfl rfl ?_
            exact Eo.nil (And.intro rfl (And.intro rfl (.cons rfl (.cons rfl (.cons rfl (.nil'))))))
        · skip
          refine Eo.val (x := (.v (.bool (((r26 == x102) && (r27 == x103)) && ((decide (r31.f_Name = x209)) && ((r31.f_File == x210) && ((r31.f_Num == x211) && true))))))) rfl rfl rfl rfl ?_
          refine Eo.cutF 4 [(90, (.v (.bool ((((r26 == x102) && (r27 == x103)) && ((decide (r31.f_Name = x209)) && ((r31.f_File == x210) && ((r31.f_Num == x211) && true)))) && (r32 == x208)))))] ?_ ?_
          · skip
            cases hc263 : (((r26 == x102) && (r27 == x103)) && ((decide (r31.f_Name = x209)) && ((r31.f_File == x210) && ((r31.f_Num == x211) && true))))
            · skip
              refine Eo.off rfl rfl rfl ?_
              refine Eo.off rfl rfl rfl ?_
              refine Eo.off rfl rfl rfl ?_
              refine Eo.val (x := (.v (.bool false))) rfl rfl rfl rfl ?_
              exact Eo.nil (And.intro rfl (And.intro rfl (.cons rfl (.nil'))))
            · skip
              refine Eo.val (x := (.v (.bool r32))) rfl rfl rfl rfl ?_
              refine Eo.val (x := (.v (.bool x208))) rfl rfl rfl rfl ?_
              refine Eo.val (x := (.v (.bool (r32 == x208)))) rfl rfl rfl rfl ?_
              refine Eo.val (x := (.v (.bool (r32 == x208)))) rfl rfl rfl rfl ?_
              exact Eo.nil (And.intro rfl (And.intro rfl (.cons rfl (.nil'))))
          · skip
            refine Eo.val (x := (.v (.bool ((((r26 == x102) && (r27 == x103)) && ((decide (r31.f_Name = x209)) && ((r31.f_File == x210) && ((r31.f_Num == x211) && true)))) && (r32 == x208))))) rfl rfl rfl rfl ?_
            refine Eo.nil ?_
            obtain rfl := Option.some.inj H
            refine Ec.ret ?_
            refine Ret.mk rfl ?_
            exact ⟨rfl, (Hp.pick hp247 2 [] rfl)⟩

end Go.DM
namespace Go.DM
open Go
theorem atL_n {α : Type} (l : List α) (i : Nat) : atL l (i : Int) = l[i]? := by
  unfold atL
  rw [if_pos (by omega)]; rfl
section
variable {α β : Type} (l : List α) (p : α → Bool)
theorem wrap_up (i : Nat) (h : (i : Int) < 9223372036854775807) : IntKind.wrap .i64 ((i : Int) + 1) = ((i + 1 : Nat) : Int) := by
  rw [wrap_i64 (by omega) (by omega)]; push_cast; rfl
theorem idx_law (g : Nat → Int → Option (LR Unit Int)) (hg : ∀ m y, g (m + 1) y = cond (decide (y < ((l.length : Nat) : Int))) ((atL l y).bind fun x => cond (p x) (some (.ret y)) (g m (IntKind.wrap .i64 (y + 1)))) (some (.out ())))
    (hlen : ((l.length : Nat) : Int) < 9223372036854775808) : ∀ (m i : Nat), i ≤ l.length → l.length - i < m →
    (∃ x k, (l.drop i).find? p = some x ∧ g m (i : Int) = some (.ret ((k : Nat) : Int)) ∧ l[k]? = some x) ∨ ((l.drop i).find? p = none ∧ g m (i : Int) = some (.out ()))
  | 0, i, _, h => by omega
  | m + 1, i, hi, h => by
    rw [hg]
    by_cases hlt : i < l.length
    · rw [decide_eq_true (by exact_mod_cast hlt), cond_true, atL_n, List.getElem?_eq_getElem hlt, List.drop_eq_getElem_cons hlt, Option.bind_some, List.find?_cons]
      cases hp : p l[i] with
      | true => exact .inl ⟨l[i], i, rfl, rfl, List.getElem?_eq_getElem hlt⟩
      | false =>
        rw [cond_false, wrap_up i (by omega)]
        exact idx_law g hg hlen m (i + 1) (by omega) (by omega)
    · rw [decide_eq_false (by intro c; exact hlt (by exact_mod_cast c)), cond_false, List.drop_eq_nil_of_le (by omega)]
      exact .inr ⟨rfl, rfl⟩
theorem back_law (f : α → β) (g : Nat → β → Int → Option β) (hg : ∀ m s y, g (m + 1) s y = cond (decide (y ≥ 0)) ((atL l y).bind fun x => g m (cond (p x) (f x) s) (IntKind.wrap .i64 (y - 1))) (some s)) :
    ∀ (j m : Nat) (s : β), j ≤ l.length → j < m → (j : Int) < 9223372036854775808 → g m s ((j : Int) - 1) = some ((((l.take j).find? p).map f).getD s) := by
  intro j
  induction j with
  | zero =>
    intro m s _ hm _
    obtain ⟨m, rfl⟩ := Nat.exists_eq_succ_of_ne_zero (Nat.ne_of_gt hm)
    rw [hg, decide_eq_false (by omega), cond_false, List.take_zero]; rfl
  | succ j ih =>
    intro m s hj hm hb
    obtain ⟨m, rfl⟩ := Nat.exists_eq_succ_of_ne_zero (n := m) (by omega)
    have e : ((j + 1 : Nat) : Int) - 1 = (j : Int) := by omega
    have hlt : j < l.length := by omega
    rw [hg, e, decide_eq_true (by omega), cond_true, atL_n, List.getElem?_eq_getElem hlt, Option.bind_some]
    rw [wrap_i64 (by omega) (by omega), ih m _ (by omega) (by omega) (by omega), List.take_add_one, List.getElem?_eq_getElem hlt, List.find?_append]
    cases hf : (l.take j).find? p with
    | some x => rfl
    | none =>
      simp only [Option.toList_some, List.find?_cons, List.find?_nil, Option.none_or]
      cases hp : p l[j] <;> rfl
end
theorem nums_idx (n : Nat) (l : List TNamed) (s : ByteArray) (hlen : ((l.length : Nat) : Int) < 9223372036854775808) (hn : l.length < n) :
    (∃ x k, l.find? (fun x => decide (x.f_Name = s)) = some x ∧ gslices_IndexFunc_31_32 n l s = some ((k : Nat) : Int) ∧ l[k]? = some x) ∨ (l.find? (fun x => decide (x.f_Name = s)) = none ∧ gslices_IndexFunc_31_32 n l s = some (-1)) := by
  have := idx_law l (fun x => decide (x.f_Name = s)) (gslices_IndexFunc_31_32_L1 n l s) (fun m y => by
    rw [gslices_IndexFunc_31_32_L1]
    congr 1) hlen n 0 (Nat.zero_le _) (by omega)
  rw [List.drop_zero] at this
  unfold gslices_IndexFunc_31_32
  rcases this with ⟨x, k, h1, h2, h3⟩ | ⟨h1, h2⟩
  · have h2 : gslices_IndexFunc_31_32_L1 n l s n 0 = some (.ret ((k : Nat) : Int)) := h2
    exact .inl ⟨x, k, h1, by rw [h2]; rfl, h3⟩
  · have h2 : gslices_IndexFunc_31_32_L1 n l s n 0 = some (.out ()) := h2
    exact .inr ⟨h1, by rw [h2]; rfl⟩
theorem regs_idx (n : Nat) (l : List TAlias) (s : ByteArray) (hlen : ((l.length : Nat) : Int) < 9223372036854775808) (hn : l.length < n) :
    (∃ x k, l.find? (fun x => decide (x.f_Name = s)) = some x ∧ gslices_IndexFunc_33_34 n l s = some ((k : Nat) : Int) ∧ l[k]? = some x) ∨ (l.find? (fun x => decide (x.f_Name = s)) = none ∧ gslices_IndexFunc_33_34 n l s = some (-1)) := by
  have := idx_law l (fun x => decide (x.f_Name = s)) (gslices_IndexFunc_33_34_L1 n l s) (fun m y => by
    rw [gslices_IndexFunc_33_34_L1]
    congr 1) hlen n 0 (Nat.zero_le _) (by omega)
  rw [List.drop_zero] at this
  unfold gslices_IndexFunc_33_34
  rcases this with ⟨x, k, h1, h2, h3⟩ | ⟨h1, h2⟩
  · have h2 : gslices_IndexFunc_33_34_L1 n l s n 0 = some (.ret ((k : Nat) : Int)) := h2
    exact .inl ⟨x, k, h1, by rw [h2]; rfl, h3⟩
  · have h2 : gslices_IndexFunc_33_34_L1 n l s n 0 = some (.out ()) := h2
    exact .inr ⟨h1, by rw [h2]; rfl⟩
theorem nums_back (n : Nat) (d : TDesc) (s : ByteArray) (hlen : ((d.f_Nums.length : Nat) : Int) < 9223372036854775808) (hn : d.f_Nums.length < n) :
    gdovetaillaw10_TargetsFinds_L1 n d s n 0 false (((d.f_Nums.length : Nat) : Int) - 1) = some (((d.f_Nums.find? (fun x => decide (x.f_Name = s))).map fun x => (x.f_Num, true)).getD (0, false)) := by
  have := back_law d.f_Nums (fun x => decide (x.f_Name = s)) (fun x => (x.f_Num, true)) (fun m (q : Int × Bool) y => gdovetaillaw10_TargetsFinds_L1 n d s m q.1 q.2 y) (fun m q y => by
    obtain ⟨a, b⟩ := q
    simp only
    rw [gdovetaillaw10_TargetsFinds_L1]
    congr 1
    cases atL d.f_Nums y with
    | none => rfl
    | some x =>
      simp only [Option.bind_some]
      cases decide (x.f_Name = s) <;> rfl) d.f_Nums.length n (0, false) (Nat.le_refl _) hn hlen
  rw [List.take_length] at this
  exact this
theorem regs_back (n : Nat) (d : TDesc) (s : ByteArray) (hlen : ((d.f_Regs.length : Nat) : Int) < 9223372036854775808) (hn : d.f_Regs.length < n) :
    gdovetaillaw10_TargetsFinds_L2 n d s n false (((d.f_Regs.length : Nat) : Int) - 1) (ByteArray.mk #[]) 0 0 = some (((d.f_Regs.find? (fun x => decide (x.f_Name = s))).map fun x => (true, x.f_Name, x.f_File, x.f_Num)).getD (false, ByteArray.mk #[], 0, 0)) := by
  have := back_law d.f_Regs (fun x => decide (x.f_Name = s)) (fun x => (true, x.f_Name, x.f_File, x.f_Num)) (fun m (q : Bool × ByteArray × Int × Int) y => gdovetaillaw10_TargetsFinds_L2 n d s m q.1 y q.2.1 q.2.2.1 q.2.2.2) (fun m q y => by
    obtain ⟨a, b, c, e⟩ := q
    simp only
    rw [gdovetaillaw10_TargetsFinds_L2]
    congr 1
    cases atL d.f_Regs y with
    | none => rfl
    | some x =>
      simp only [Option.bind_some]
      cases decide (x.f_Name = s) <;> rfl) d.f_Regs.length n (false, ByteArray.mk #[], 0, 0) (Nat.le_refl _) hn hlen
  rw [List.take_length] at this
  exact this
theorem neg_nat (k : Nat) : decide (((k : Nat) : Int) < 0) = false := decide_eq_false (by omega)
theorem finds_law (d : TDesc) (s : ByteArray) (h1 : ((d.f_Nums.length : Nat) : Int) < 9223372036854775808) (h2 : ((d.f_Regs.length : Nat) : Int) < 9223372036854775808) :
    gdovetaillaw10_TargetsFinds (d.f_Nums.length + d.f_Regs.length + 1) d s = some true := by
  have hN : d.f_Nums.length < d.f_Nums.length + d.f_Regs.length + 1 := by omega
  have hR : d.f_Regs.length < d.f_Nums.length + d.f_Regs.length + 1 := by omega
  generalize d.f_Nums.length + d.f_Regs.length + 1 = n at hN hR
  have e1 : gtargets_Num n d s = some (((d.f_Nums.find? (fun x => decide (x.f_Name = s))).map fun x => (x.f_Num, true)).getD (0, false)) := by
    unfold gtargets_Num
    rcases nums_idx n d.f_Nums s h1 hN with ⟨x, k, g1, g2, g3⟩ | ⟨g1, g2⟩
    · rw [g2, g1, Option.bind_some, neg_nat, cond_false, atL_n, g3]; rfl
    · rw [g2, g1]; rfl
  have e2 : gtargets_Reg n d s = some (((d.f_Regs.find? (fun x => decide (x.f_Name = s))).map fun x => (x, true)).getD (TAlias.mk (ByteArray.mk #[]) 0 0, false)) := by
    unfold gtargets_Reg
    rcases regs_idx n d.f_Regs s h2 hR with ⟨x, k, g1, g2, g3⟩ | ⟨g1, g2⟩
    · rw [g2, g1, Option.bind_some, neg_nat, cond_false, atL_n, g3]; rfl
    · rw [g2, g1]; rfl
  unfold gdovetaillaw10_TargetsFinds
  rw [e1, e2, Option.bind_some]
  have w1 : IntKind.wrap .i64 (((d.f_Nums.length : Nat) : Int) - 1) = ((d.f_Nums.length : Nat) : Int) - 1 := wrap_i64 (by omega) (by omega)
  have w2 : IntKind.wrap .i64 (((d.f_Regs.length : Nat) : Int) - 1) = ((d.f_Regs.length : Nat) : Int) - 1 := wrap_i64 (by omega) (by omega)
  rw [w1, w2, nums_back n d s h1 hN]
  simp only [Option.bind_some]
  rw [regs_back n d s h2 hR]
  cases d.f_Nums.find? (fun x => decide (x.f_Name = s)) <;> cases d.f_Regs.find? (fun x => decide (x.f_Name = s)) <;> simp
end Go.DM
namespace Go.Proofs.YtiommdibonjgjaaGreatDoor.targetsFinds
open Go.ChangeShapes Go.WideShapes Go.ChangeAt Go.RowKit
section
variable {H : Type} (enc : TypeId × Value → H)
def DTr {α : Type} (_ : α) (_ : DataW H) : Prop := True
def LB {α : Type} (l : List α) (_ : DataW H) : Prop := l.length ≤ maxLen
theorem opens_weak {α : Type} {t : TypeId} {r : DM.RepT α} {D D' : α → DataW H → Prop} (h : DM.Opens enc Tryz.prog t r D) (hD : ∀ x d, D x d → D' x d) : DM.Opens enc Tryz.prog t r D' :=
  ⟨h.sz, fun g => by obtain ⟨x, qs, h1, h2, h3⟩ := h.run g; exact ⟨x, qs, h1, h2, hD _ _ h3⟩⟩
theorem all2_len {α β : Type} {D : α → β → Prop} {l : List α} {m : List β} (h : DM.All2 D l m) : l.length = m.length := by
  induction h with
  | nil => rfl
  | cons _ _ ih => simp [ih]
theorem opens_sliceT {α : Type} {t e : TypeId} {r : DM.RepT α} {D : α → DataW H → Prop} (ht : Tryz.prog.underlying t = some (.slice e)) (hz : Tryz.prog.cellsOf t = 1) (he : DM.Opens enc Tryz.prog e r D) : DM.Opens enc Tryz.prog t (DM.rL r) LB := by
  refine ⟨hz, fun {W sp held fuel cs d ps} h => ?_⟩
  rcases DataW.trod_slice ht h with ⟨rfl, hx⟩ | ⟨a, len, cap, elems, rest, n, rfl, rfl, hx, hb, hlc, hcap, hlen, hel, hr1, hr2⟩
  · cases hx
    exact ⟨[], [DM.nilS], ⟨_, rfl, DM.Sl.nil⟩, DM.RelL.cons (.v rfl) (DM.RelL.nil _), Nat.zero_le _⟩
  · cases hx
    obtain ⟨x, qs, h1, h2, h3⟩ := DM.slice_open (rest := rest) (r := r) (D := D) (fun h => he.run h) he.sz hlc hlen hel
    refine ⟨x, qs, h1, h2, ?_⟩
    rcases h3 with ⟨rfl, _⟩ | ⟨es, rs, e1, h3⟩
    · exact Nat.zero_le _
    · have := all2_len h3
      have e2 : elems.map (·.1) = es := (DataW.slice.inj e1).1
      unfold LB
      rw [this, ← e2, List.length_map, hlen]
      exact Nat.le_trans hlc hcap
theorem oInt : DM.Opens enc Tryz.prog 3 (DM.rI .i64) DTr := opens_weak enc (DM.opens_int Tryz.underlying3 (by kernel_rfl)) (fun _ _ _ => trivial)
theorem oStr : DM.Opens enc Tryz.prog 9 DM.rS DTr := opens_weak enc (DM.opens_string Tryz.underlying9 (by kernel_rfl)) (fun _ _ _ => trivial)
theorem oBool : DM.Opens enc Tryz.prog 4 DM.rB DTr := opens_weak enc (DM.opens_bool Tryz.underlying4 (by kernel_rfl)) (fun _ _ _ => trivial)
theorem cells3 : Tryz.prog.cellsOf 3 = 1 := by kernel_rfl
theorem cellsK : Tryz.prog.cellsOf 61 = 1 := by kernel_rfl
theorem cellsT : Tryz.prog.cellsOf 85 = 5 := by kernel_rfl
set_option maxRecDepth 100000 in
theorem oTermF : ∀ (F : Nat) {W : World} {sp : Nat → Bool} {held : Bool} {fuel : Nat} {cs : List Value} {d : DataW H} {ps : List MemPlace}, fuel ≤ F → DataW.trod enc Tryz.prog W 0 sp held fuel 85 cs = some (d, ps) →
    ∃ x qs, DM.rTTerm.rep x qs ∧ DM.RelL (DM.start W) qs cs ∧ DTr x d := by
  intro F
  induction F with
  | zero =>
    intro W sp held fuel cs d ps hF h
    obtain ⟨xs, n, rfl, _⟩ := DataW.trod_struct Tryz.underlying85 h
    omega
  | succ F ih =>
    intro W sp held fuel cs d ps hF h
    obtain ⟨xs, n, rfl, hx, hl, hxl, hel⟩ := DataW.trod_struct Tryz.underlying85 h
    rw [cellsT] at hl
    match cs, hl with
    | [c0, c1, c2, c3, c4], _ =>
      match xs, hxl with
      | [y0, y1, y2, y3, y4], _ =>
        have h0 : DataW.trod enc Tryz.prog W 0 sp held n 3 ((([c0, c1, c2, c3, c4] : List Value).drop 0).take (Tryz.prog.cellsOf 3)) = some (y0.1, y0.2) := hel 0 _ rfl
        have h1 : DataW.trod enc Tryz.prog W 0 sp held n 3 ((([c0, c1, c2, c3, c4] : List Value).drop 1).take (Tryz.prog.cellsOf 3)) = some (y1.1, y1.2) := hel 1 _ rfl
        have h2 : DataW.trod enc Tryz.prog W 0 sp held n 3 ((([c0, c1, c2, c3, c4] : List Value).drop 2).take (Tryz.prog.cellsOf 3)) = some (y2.1, y2.2) := hel 2 _ rfl
        have h3 : DataW.trod enc Tryz.prog W 0 sp held n 3 ((([c0, c1, c2, c3, c4] : List Value).drop 3).take (Tryz.prog.cellsOf 3)) = some (y3.1, y3.2) := hel 3 _ rfl
        have h4 : DataW.trod enc Tryz.prog W 0 sp held n 61 ((([c0, c1, c2, c3, c4] : List Value).drop 4).take (Tryz.prog.cellsOf 61)) = some (y4.1, y4.2) := hel 4 _ rfl
        rw [cells3] at h0 h1 h2 h3
        rw [cellsK] at h4
        obtain ⟨v0, q0, rfl, r0, _⟩ := (oInt enc).run h0
        obtain ⟨v1, q1, rfl, r1, _⟩ := (oInt enc).run h1
        obtain ⟨v2, q2, rfl, r2, _⟩ := (oInt enc).run h2
        obtain ⟨v3, q3, rfl, r3, _⟩ := (oInt enc).run h3
        have hk : ∃ l a, DM.Sl DM.rTTerm a l ∧ DM.RelL (DM.start W) [a] [c4] := by
          rcases DataW.trod_slice Tryz.underlying61 h4 with ⟨e, _⟩ | ⟨a, len, cap, elems, rest, n2, rfl, e, _, _, hlc, _, hlen, hel4, _, _⟩
          · simp only [List.drop_succ_cons, List.drop_zero, List.take_succ_cons, List.take_zero] at e
            cases e
            exact ⟨[], DM.nilS, DM.Sl.nil, DM.RelL.cons (.v rfl) (DM.RelL.nil _)⟩
          · simp only [List.drop_succ_cons, List.drop_zero, List.take_succ_cons, List.take_zero] at e
            cases e
            obtain ⟨l, q, ⟨a', rfl, ha⟩, hr, _⟩ := DM.slice_open (rest := rest) (r := DM.rTTerm) (D := DTr) (fun h => ih (by omega) h) cellsT hlc hlen hel4
            exact ⟨l, a', ha, hr⟩
        obtain ⟨l, a, ha, r4⟩ := hk
        refine ⟨.mk v0 v1 v2 v3 l, _, DM.rTTerm_of ⟨a, rfl, ha⟩, ?_, trivial⟩
        have := r0.append (r1.append (r2.append (r3.append r4)))
        exact this
theorem oTerm : DM.Opens enc Tryz.prog 85 DM.rTTerm DTr := ⟨cellsT, fun h => oTermF enc _ (Nat.le_refl _) h⟩
set_option maxRecDepth 100000 in
theorem o77 : DM.Opens enc Tryz.prog 77 DM.rTFile DTr :=
  DM.opens_struct (fun (y : ByteArray × Int × Int × Int × Unit) => DM.TFile.mk y.1 y.2.1 y.2.2.1 y.2.2.2.1) (by kernel_rfl) Tryz.underlying77
    (DM.opensFs_cons rfl (oStr enc) (DM.opensFs_cons rfl (oInt enc) (DM.opensFs_cons rfl (oInt enc) (DM.opensFs_cons rfl (oInt enc) DM.opensFs_nil))))
    (by rintro ⟨v0, v1, v2, v3, u⟩ qs ⟨c0a, c0b, rfl, rfl, c1a, c1b, rfl, rfl, c2a, c2b, rfl, rfl, c3a, c3b, rfl, rfl, rfl⟩; rfl)
    (fun _ _ _ => trivial)
theorem o27 : DM.Opens enc Tryz.prog 27 (DM.rL DM.rTFile) LB := opens_sliceT enc Tryz.underlying27 (by kernel_rfl) (o77 enc)
set_option maxRecDepth 100000 in
theorem o47 : DM.Opens enc Tryz.prog 47 DM.rTAlias DTr :=
  DM.opens_struct (fun (y : ByteArray × Int × Int × Unit) => DM.TAlias.mk y.1 y.2.1 y.2.2.1) (by kernel_rfl) Tryz.underlying47
    (DM.opensFs_cons rfl (oStr enc) (DM.opensFs_cons rfl (oInt enc) (DM.opensFs_cons rfl (oInt enc) DM.opensFs_nil)))
    (by rintro ⟨v0, v1, v2, u⟩ qs ⟨c0a, c0b, rfl, rfl, c1a, c1b, rfl, rfl, c2a, c2b, rfl, rfl, rfl⟩; rfl)
    (fun _ _ _ => trivial)
theorem o28 : DM.Opens enc Tryz.prog 28 (DM.rL DM.rTAlias) LB := opens_sliceT enc Tryz.underlying28 (by kernel_rfl) (o47 enc)
theorem o23 : DM.Opens enc Tryz.prog 23 (DM.rL DM.rS) LB := opens_sliceT enc Tryz.underlying23 (by kernel_rfl) (oStr enc)
theorem o79 : DM.Opens enc Tryz.prog 79 (DM.rL (DM.rI .i64)) LB := opens_sliceT enc Tryz.underlying79 (by kernel_rfl) (oInt enc)
set_option maxRecDepth 100000 in
theorem o81 : DM.Opens enc Tryz.prog 81 DM.rTClass DTr :=
  DM.opens_struct (fun (y : ByteArray × Int × Int × Int × Int × Int × List (Int) × Unit) => DM.TClass.mk y.1 y.2.1 y.2.2.1 y.2.2.2.1 y.2.2.2.2.1 y.2.2.2.2.2.1 y.2.2.2.2.2.2.1) (by kernel_rfl) Tryz.underlying81
    (DM.opensFs_cons rfl (oStr enc) (DM.opensFs_cons rfl (oInt enc) (DM.opensFs_cons rfl (oInt enc) (DM.opensFs_cons rfl (oInt enc) (DM.opensFs_cons rfl (oInt enc) (DM.opensFs_cons rfl (oInt enc) (DM.opensFs_cons rfl (o79 enc) DM.opensFs_nil)))))))
    (by rintro ⟨v0, v1, v2, v3, v4, v5, v6, u⟩ qs ⟨c0a, c0b, rfl, rfl, c1a, c1b, rfl, rfl, c2a, c2b, rfl, rfl, c3a, c3b, rfl, rfl, c4a, c4b, rfl, rfl, c5a, c5b, rfl, rfl, c6a, c6b, rfl, ⟨a6, rfl, h6⟩, rfl⟩; exact ⟨a6, rfl, h6⟩)
    (fun _ _ _ => trivial)
theorem o29 : DM.Opens enc Tryz.prog 29 (DM.rL DM.rTClass) LB := opens_sliceT enc Tryz.underlying29 (by kernel_rfl) (o81 enc)
set_option maxRecDepth 100000 in
theorem o113 : DM.Opens enc Tryz.prog 113 DM.rTArg DTr :=
  DM.opens_struct (fun (y : ByteArray × Int × Unit) => DM.TArg.mk y.1 y.2.1) (by kernel_rfl) Tryz.underlying113
    (DM.opensFs_cons rfl (oStr enc) (DM.opensFs_cons rfl (oInt enc) DM.opensFs_nil))
    (by rintro ⟨v0, v1, u⟩ qs ⟨c0a, c0b, rfl, rfl, c1a, c1b, rfl, rfl, rfl⟩; rfl)
    (fun _ _ _ => trivial)
theorem o59 : DM.Opens enc Tryz.prog 59 (DM.rL DM.rTArg) LB := opens_sliceT enc Tryz.underlying59 (by kernel_rfl) (o113 enc)
set_option maxRecDepth 100000 in
theorem o187 : DM.Opens enc Tryz.prog 187 DM.rTPiece DTr :=
  DM.opens_struct (fun (y : ByteArray × Int × Int × Int × Unit) => DM.TPiece.mk y.1 y.2.1 y.2.2.1 y.2.2.2.1) (by kernel_rfl) Tryz.underlying187
    (DM.opensFs_cons rfl (oStr enc) (DM.opensFs_cons rfl (oInt enc) (DM.opensFs_cons rfl (oInt enc) (DM.opensFs_cons rfl (oInt enc) DM.opensFs_nil))))
    (by rintro ⟨v0, v1, v2, v3, u⟩ qs ⟨c0a, c0b, rfl, rfl, c1a, c1b, rfl, rfl, c2a, c2b, rfl, rfl, c3a, c3b, rfl, rfl, rfl⟩; rfl)
    (fun _ _ _ => trivial)
theorem o60 : DM.Opens enc Tryz.prog 60 (DM.rL DM.rTPiece) LB := opens_sliceT enc Tryz.underlying60 (by kernel_rfl) (o187 enc)
theorem o61 : DM.Opens enc Tryz.prog 61 (DM.rL DM.rTTerm) LB := opens_sliceT enc Tryz.underlying61 (by kernel_rfl) (oTerm enc)
set_option maxRecDepth 100000 in
theorem o63 : DM.Opens enc Tryz.prog 63 DM.rTForm DTr :=
  DM.opens_struct (fun (y : ByteArray × ByteArray × List (DM.TArg) × List (DM.TPiece) × List (DM.TTerm) × Unit) => DM.TForm.mk y.1 y.2.1 y.2.2.1 y.2.2.2.1 y.2.2.2.2.1) (by kernel_rfl) Tryz.underlying63
    (DM.opensFs_cons rfl (oStr enc) (DM.opensFs_cons rfl (oStr enc) (DM.opensFs_cons rfl (o59 enc) (DM.opensFs_cons rfl (o60 enc) (DM.opensFs_cons rfl (o61 enc) DM.opensFs_nil)))))
    (by rintro ⟨v0, v1, v2, v3, v4, u⟩ qs ⟨c0a, c0b, rfl, rfl, c1a, c1b, rfl, rfl, c2a, c2b, rfl, ⟨a2, rfl, h2⟩, c3a, c3b, rfl, ⟨a3, rfl, h3⟩, c4a, c4b, rfl, ⟨a4, rfl, h4⟩, rfl⟩; exact ⟨a2, a3, a4, rfl, h2, h3, h4⟩)
    (fun _ _ _ => trivial)
theorem o30 : DM.Opens enc Tryz.prog 30 (DM.rL DM.rTForm) LB := opens_sliceT enc Tryz.underlying30 (by kernel_rfl) (o63 enc)
set_option maxRecDepth 100000 in
theorem o87 : DM.Opens enc Tryz.prog 87 DM.rTRel DTr :=
  DM.opens_struct (fun (y : ByteArray × Int × Int × Int × Int × Int × DM.TTerm × Int × Int × Int × Int × Int × Int × Unit) => DM.TRel.mk y.1 y.2.1 y.2.2.1 y.2.2.2.1 y.2.2.2.2.1 y.2.2.2.2.2.1 y.2.2.2.2.2.2.1 y.2.2.2.2.2.2.2.1 y.2.2.2.2.2.2.2.2.1 y.2.2.2.2.2.2.2.2.2.1 y.2.2.2.2.2.2.2.2.2.2.1 y.2.2.2.2.2.2.2.2.2.2.2.1 y.2.2.2.2.2.2.2.2.2.2.2.2.1) (by kernel_rfl) Tryz.underlying87
    (DM.opensFs_cons rfl (oStr enc) (DM.opensFs_cons rfl (oInt enc) (DM.opensFs_cons rfl (oInt enc) (DM.opensFs_cons rfl (oInt enc) (DM.opensFs_cons rfl (oInt enc) (DM.opensFs_cons rfl (oInt enc) (DM.opensFs_cons rfl (oTerm enc) (DM.opensFs_cons rfl (oInt enc) (DM.opensFs_cons rfl (oInt enc) (DM.opensFs_cons rfl (oInt enc) (DM.opensFs_cons rfl (oInt enc) (DM.opensFs_cons rfl (oInt enc) (DM.opensFs_cons rfl (oInt enc) DM.opensFs_nil)))))))))))))
    (by
      rintro ⟨v0, v1, v2, v3, v4, v5, v6, v7, v8, v9, v10, v11, v12, u⟩ qs ⟨c0a, c0b, rfl, rfl, c1a, c1b, rfl, rfl, c2a, c2b, rfl, rfl, c3a, c3b, rfl, rfl, c4a, c4b, rfl, rfl, c5a, c5b, rfl, rfl, c6a, c6b, rfl, hs6, c7a, c7b, rfl, rfl, c8a, c8b, rfl, rfl, c9a, c9b, rfl, rfl, c10a, c10b, rfl, rfl, c11a, c11b, rfl, rfl, c12a, c12b, rfl, rfl, rfl⟩
      obtain ⟨a0, e0, g0⟩ := DM.rTTerm_un hs6
      subst e0
      exact ⟨a0, rfl, g0⟩)
    (fun _ _ _ => trivial)
theorem o31 : DM.Opens enc Tryz.prog 31 (DM.rL DM.rTRel) LB := opens_sliceT enc Tryz.underlying31 (by kernel_rfl) (o87 enc)
set_option maxRecDepth 100000 in
theorem o193 : DM.Opens enc Tryz.prog 193 DM.rTUse DTr :=
  DM.opens_struct (fun (y : ByteArray × Int × Int × Bool × Unit) => DM.TUse.mk y.1 y.2.1 y.2.2.1 y.2.2.2.1) (by kernel_rfl) Tryz.underlying193
    (DM.opensFs_cons rfl (oStr enc) (DM.opensFs_cons rfl (oInt enc) (DM.opensFs_cons rfl (oInt enc) (DM.opensFs_cons rfl (oBool enc) DM.opensFs_nil))))
    (by rintro ⟨v0, v1, v2, v3, u⟩ qs ⟨c0a, c0b, rfl, rfl, c1a, c1b, rfl, rfl, c2a, c2b, rfl, rfl, c3a, c3b, rfl, rfl, rfl⟩; rfl)
    (fun _ _ _ => trivial)
theorem o32 : DM.Opens enc Tryz.prog 32 (DM.rL DM.rTUse) LB := opens_sliceT enc Tryz.underlying32 (by kernel_rfl) (o193 enc)
set_option maxRecDepth 100000 in
theorem o183 : DM.Opens enc Tryz.prog 183 DM.rTRelaxed DTr :=
  DM.opens_struct (fun (y : Int × Int × Int × Unit) => DM.TRelaxed.mk y.1 y.2.1 y.2.2.1) (by kernel_rfl) Tryz.underlying183
    (DM.opensFs_cons rfl (oInt enc) (DM.opensFs_cons rfl (oInt enc) (DM.opensFs_cons rfl (oInt enc) DM.opensFs_nil)))
    (by rintro ⟨v0, v1, v2, u⟩ qs ⟨c0a, c0b, rfl, rfl, c1a, c1b, rfl, rfl, c2a, c2b, rfl, rfl, rfl⟩; rfl)
    (fun _ _ _ => trivial)
theorem o33 : DM.Opens enc Tryz.prog 33 (DM.rL DM.rTRelaxed) LB := opens_sliceT enc Tryz.underlying33 (by kernel_rfl) (o183 enc)
set_option maxRecDepth 100000 in
theorem o191 : DM.Opens enc Tryz.prog 191 DM.rTMacro DTr :=
  DM.opens_struct (fun (y : ByteArray × Int × List (ByteArray) × Unit) => DM.TMacro.mk y.1 y.2.1 y.2.2.1) (by kernel_rfl) Tryz.underlying191
    (DM.opensFs_cons rfl (oStr enc) (DM.opensFs_cons rfl (oInt enc) (DM.opensFs_cons rfl (o23 enc) DM.opensFs_nil)))
    (by rintro ⟨v0, v1, v2, u⟩ qs ⟨c0a, c0b, rfl, rfl, c1a, c1b, rfl, rfl, c2a, c2b, rfl, ⟨a2, rfl, h2⟩, rfl⟩; exact ⟨a2, rfl, h2⟩)
    (fun _ _ _ => trivial)
theorem o34 : DM.Opens enc Tryz.prog 34 (DM.rL DM.rTMacro) LB := opens_sliceT enc Tryz.underlying34 (by kernel_rfl) (o191 enc)
set_option maxRecDepth 100000 in
theorem o51 : DM.Opens enc Tryz.prog 51 DM.rTNamed DTr :=
  DM.opens_struct (fun (y : ByteArray × Int × Unit) => DM.TNamed.mk y.1 y.2.1) (by kernel_rfl) Tryz.underlying51
    (DM.opensFs_cons rfl (oStr enc) (DM.opensFs_cons rfl (oInt enc) DM.opensFs_nil))
    (by rintro ⟨v0, v1, u⟩ qs ⟨c0a, c0b, rfl, rfl, c1a, c1b, rfl, rfl, rfl⟩; rfl)
    (fun _ _ _ => trivial)
theorem o35 : DM.Opens enc Tryz.prog 35 (DM.rL DM.rTNamed) LB := opens_sliceT enc Tryz.underlying35 (by kernel_rfl) (o51 enc)
def DRoot (x : DM.TDesc) (_ : DataW H) : Prop := x.f_Files.length ≤ maxLen ∧ x.f_Aliases.length ≤ maxLen ∧ x.f_Flags.length ≤ maxLen ∧ x.f_Classes.length ≤ maxLen ∧ x.f_Forms.length ≤ maxLen ∧ x.f_Rels.length ≤ maxLen ∧ x.f_Uses.length ≤ maxLen ∧ x.f_Relaxes.length ≤ maxLen ∧ x.f_Macros.length ≤ maxLen ∧ x.f_Nums.length ≤ maxLen ∧ x.f_Regs.length ≤ maxLen
set_option maxRecDepth 100000 in
theorem o37 : DM.Opens enc Tryz.prog 37 DM.rTDesc DRoot :=
  DM.opens_struct (fun (y : ByteArray × Int × List (DM.TFile) × List (DM.TAlias) × List (ByteArray) × List (DM.TClass) × List (DM.TForm) × List (DM.TRel) × List (DM.TUse) × List (DM.TRelaxed) × List (DM.TMacro) × List (DM.TNamed) × List (DM.TAlias) × Unit) => DM.TDesc.mk y.1 y.2.1 y.2.2.1 y.2.2.2.1 y.2.2.2.2.1 y.2.2.2.2.2.1 y.2.2.2.2.2.2.1 y.2.2.2.2.2.2.2.1 y.2.2.2.2.2.2.2.2.1 y.2.2.2.2.2.2.2.2.2.1 y.2.2.2.2.2.2.2.2.2.2.1 y.2.2.2.2.2.2.2.2.2.2.2.1 y.2.2.2.2.2.2.2.2.2.2.2.2.1) (by kernel_rfl) Tryz.underlying37
    (DM.opensFs_cons rfl (oStr enc) (DM.opensFs_cons rfl (oInt enc) (DM.opensFs_cons rfl (o27 enc) (DM.opensFs_cons rfl (o28 enc) (DM.opensFs_cons rfl (o23 enc) (DM.opensFs_cons rfl (o29 enc) (DM.opensFs_cons rfl (o30 enc) (DM.opensFs_cons rfl (o31 enc) (DM.opensFs_cons rfl (o32 enc) (DM.opensFs_cons rfl (o33 enc) (DM.opensFs_cons rfl (o34 enc) (DM.opensFs_cons rfl (o35 enc) (DM.opensFs_cons rfl (o28 enc) DM.opensFs_nil)))))))))))))
    (by rintro ⟨v0, v1, v2, v3, v4, v5, v6, v7, v8, v9, v10, v11, v12, u⟩ qs ⟨c0a, c0b, rfl, rfl, c1a, c1b, rfl, rfl, c2a, c2b, rfl, ⟨a2, rfl, h2⟩, c3a, c3b, rfl, ⟨a3, rfl, h3⟩, c4a, c4b, rfl, ⟨a4, rfl, h4⟩, c5a, c5b, rfl, ⟨a5, rfl, h5⟩, c6a, c6b, rfl, ⟨a6, rfl, h6⟩, c7a, c7b, rfl, ⟨a7, rfl, h7⟩, c8a, c8b, rfl, ⟨a8, rfl, h8⟩, c9a, c9b, rfl, ⟨a9, rfl, h9⟩, c10a, c10b, rfl, ⟨a10, rfl, h10⟩, c11a, c11b, rfl, ⟨a11, rfl, h11⟩, c12a, c12b, rfl, ⟨a12, rfl, h12⟩, rfl⟩; exact ⟨a2, a3, a4, a5, a6, a7, a8, a9, a10, a11, a12, rfl, h2, h3, h4, h5, h6, h7, h8, h9, h10, h11, h12⟩)
    (by rintro ⟨v0, v1, v2, v3, v4, v5, v6, v7, v8, v9, v10, v11, v12, u⟩ ds ⟨d0, e0, rfl, g0, d1, e1, rfl, g1, d2, e2, rfl, g2, d3, e3, rfl, g3, d4, e4, rfl, g4, d5, e5, rfl, g5, d6, e6, rfl, g6, d7, e7, rfl, g7, d8, e8, rfl, g8, d9, e9, rfl, g9, d10, e10, rfl, g10, d11, e11, rfl, g11, d12, e12, rfl, g12, rfl⟩; exact ⟨g2, g3, g4, g5, g6, g7, g8, g9, g10, g11, g12⟩)
end
end Go.Proofs.YtiommdibonjgjaaGreatDoor.targetsFinds
namespace Go.DM.FM
open Go Go.Proofs Go.Proofs.YtiommdibonjgjaaGreatDoor
set_option maxRecDepth 1000000 in
theorem alive_run : retX (fcall cfg2 orc 1000 9 [] σ0) = some (.v (.bool true)) := by kernel_rfl
theorem primsF : PrimsOk DM.cfg YtiommdibonjgjaaGreatDoor.Good := by
  obtain ⟨σ1, h⟩ := retX_inv alive_run
  exact PrimsOk.add (C := cfg2) (x := .v (.bool true)) (σ1 := σ1) good_below prims2 globs0 (fun w hw k us hI hg hr => call_good (drOk orders_cfg2) (prims2 w hw) 1000 9 [] σ0 (.ret (.v (.bool true))) σ1 k us (fcall_ok orcs_cfg2 1000 _ _ _ _ h) hI hg hr) rfl rfl
end Go.DM.FM
