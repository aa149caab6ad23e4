/- Typed functions of the program's functions, and the walks that show that the calls come to them. No condition. -/
import Derived.Test.YtiidocaofjmomaaRuleU
import Derived.Test.YtiidocaofjmomaaSortT
import Derived.Test.YtiidocaofjmomaaProg
namespace Go.DM
open Go Go.Proofs Go.DM
set_option maxRecDepth 100000
set_option maxHeartbeats 4000000
noncomputable def cfg : Cfg := { P := Try.prog, glob := fun _ => none, prim := fun f => if f = 32 then some containsG else if f = 12 then some (sortedG 21) else none }
instance : NoMut cfg := ⟨fun _ => rfl⟩
theorem gmapsKeys13_ok {b : Nat} {R : List Res} {σ : St} (hp : Hp σ R) : Ca cfg 13 [(.mp b)] σ (fun x s => ∃ (bk : Nat), x = (.fn (.func 21) [] [(.ptr bk 0)]) ∧ Hp s (.blk bk (.cells [(.mp b)] 47) :: R)) := by
 refine Ca.enterL (G := [(0, (.mp b))]) Try.func13 rfl rfl rfl rfl ?_
 refine Ec.seq ?_
 refine Ec.region ?_
 refine Eo.box hp rfl rfl rfl rfl rfl rfl rfl ?_
 intro bk σ1 hp1
 refine V rfl ?_
 refine Eo.nil ?_
 refine Ec.seq ?_
 refine Ec.region ?_
 refine V rfl ?_
 refine V rfl ?_
 refine Eo.nil ?_
 refine Ec.ret ?_
 refine Ret.mk rfl ?_
 exact ⟨bk, rfl, hp1⟩

theorem prim32_ok {p0 : ByteArray} {p1 : ByteArray} {R : List Res} {σ : St} (hp : Hp σ R) {r : Bool} (H : containsT p0 p1 = some r) : Ca cfg 32 [(vS p0), (vS p1)] σ (fun x σ' => x = (vB r) ∧ Hp σ' R) := containsT_ok (C := cfg) (f := 32) rfl hp H
structure TSec where
  f_Name : ByteArray
  f_Kind : Int
  f_Flags : Int
  f_Align : Int
  f_Size : Int
  f_Data : (List Int)
  deriving DecidableEq


def rTSec : RepT TSec := ⟨6, fun x c => ∃ (a0 : A), c = [.v (.string x.f_Name), .v (.int .i64 x.f_Kind), .v (.int .i64 x.f_Flags), .v (.int .i64 x.f_Align), .v (.int .i64 x.f_Size), a0] ∧ Sl (rI .u8) a0 x.f_Data, by rintro x c ⟨a0, rfl, _⟩; rfl, by decide, by rintro x c ⟨a0, rfl, h0⟩; simp [allOne, h0.isOne]⟩

structure TSym where
  f_Name : ByteArray
  f_Bind : Int
  f_Type : Int
  f_Sec : Int
  f_Value : Int
  f_Size : Int
  deriving DecidableEq


def rTSym : RepT TSym := ⟨6, fun x c => c = [.v (.string x.f_Name), .v (.int .i64 x.f_Bind), .v (.int .i64 x.f_Type), .v (.int .i64 x.f_Sec), .v (.int .i64 x.f_Value), .v (.int .i64 x.f_Size)], by rintro x c rfl; rfl, by decide, by rintro x c rfl; simp [allOne]⟩

structure TReloc where
  f_Sec : Int
  f_Off : Int
  f_Kind : Int
  f_Sym : Int
  f_Add : Int
  deriving DecidableEq


def rTReloc : RepT TReloc := ⟨5, fun x c => c = [.v (.int .i64 x.f_Sec), .v (.int .i64 x.f_Off), .v (.int .i64 x.f_Kind), .v (.int .i64 x.f_Sym), .v (.int .i64 x.f_Add)], by rintro x c rfl; rfl, by decide, by rintro x c rfl; simp [allOne]⟩

structure TObj where
  f_Machine : Int
  f_Secs : (List TSec)
  f_Syms : (List TSym)
  f_Rels : (List TReloc)
  deriving DecidableEq


def rTObj : RepT TObj := ⟨4, fun x c => ∃ (a0 a1 a2 : A), c = [.v (.int .i64 x.f_Machine), a0, a1, a2] ∧ Sl rTSec a0 x.f_Secs ∧ Sl rTSym a1 x.f_Syms ∧ Sl rTReloc a2 x.f_Rels, by rintro x c ⟨a0, a1, a2, rfl, _, _, _⟩; rfl, by decide, by rintro x c ⟨a0, a1, a2, rfl, h0, h1, h2⟩; simp [allOne, h0.isOne, h1.isOne, h2.isOne]⟩

structure TDef where
  f_Name : ByteArray
  f_Obj : Int
  f_Sec : Int
  f_Value : Int
  f_Size : Int
  f_Type : Int
  deriving DecidableEq


def rTDef : RepT TDef := ⟨6, fun x c => c = [.v (.string x.f_Name), .v (.int .i64 x.f_Obj), .v (.int .i64 x.f_Sec), .v (.int .i64 x.f_Value), .v (.int .i64 x.f_Size), .v (.int .i64 x.f_Type)], by rintro x c rfl; rfl, by decide, by rintro x c rfl; simp [allOne]⟩


def gdovetaillaw20_small_L1 (N : Nat) (p0 : (List TObj)) : Nat → Int → Int → Option (Int)
  | 0, _, _ => none
  | m + 1, y19, y20 => (cond (decide (y20 < ((p0.length : Nat) : Int))) (((atL p0 y20).bind fun x39 => gdovetaillaw20_small_L1 N p0 m (IntKind.wrap .i64 (y19 + ((x39.f_Syms.length : Nat) : Int))) (IntKind.wrap .i64 (y20 + 1)))) (some y19))

def gdovetaillaw20_small (n : Nat) (p0 : (List TObj)) : Option (Bool) := ((gdovetaillaw20_small_L1 n p0 n 0 0).bind fun x37 => some (decide (x37 ≤ 500)))

def gdovetaillaw20_small_post (R : List Res) (r : Bool) (x : A) (s : St) : Prop := x = (vB r) ∧ Hp s R

theorem gdovetaillaw20_small_ok {n : Nat} {p0 : (List TObj)} {a1 : A} {R : List Res} {σ : St} (h2 : Sl rTObj a1 p0) (hp : Hp σ R) {r : Bool} (H : gdovetaillaw20_small n p0 = some r) : Ca cfg 5 [a1] σ (gdovetaillaw20_small_post R r) := by
 unfold gdovetaillaw20_small at H
 refine Ca.enterL (G := [(0, a1)]) Try.func5 rfl rfl rfl rfl ?_
 refine Ec.seq ?_
 refine Ec.region ?_
 refine V rfl ?_
 refine Eo.nil ?_
 refine Ec.seq ?_
 refine Ec.region ?_
 refine V rfl ?_
 refine Eo.nil ?_
 refine Ec.seq ?_
 refine Ec.seq ?_
 refine Ec.region ?_
 refine V rfl ?_
 refine Eo.val (op_lenL h2 rfl rfl rfl rfl rfl Try.underlying22) rfl rfl rfl ?_
 refine V rfl ?_
 refine Eo.nil ?_
 refine Ec.block ?_
 obtain ⟨x37, hv55, H⟩ := bind_some H
 refine Ec.cut (J := _) (Ec.weak (.cons rfl (.cons rfl (.cons rfl (.cons rfl (.nil'))))) (Ec.loopF (f := (fun m (i : (Int × Int) × Unit) => gdovetaillaw20_small_L1 n p0 m i.1.1 i.1.2)) (G := (fun (i : (Int × Int) × Unit) => ([(3, (vI i.1.1)), (6, a1), (7, (vI ((p0.length : Nat) : Int))), (8, (vI i.1.2))] : List (Nat × A)))) (I := (fun (i : (Int × Int) × Unit) (s : St) => Hp s R)) (J := (fun (x37 : Int) (x : X) (φ : Fr) (s : St) => x = (.exit 0) ∧ (Hp s R ∧ Fl [(3, (vI x37))] φ))) (fun _ => rfl) ?_ n ((0, 0), ()) _ x37 hp hv55)) ?_
 {
 rintro m ⟨⟨y19, y20⟩, _⟩ σ0 v hp0 H ih
 change gdovetaillaw20_small_L1 n p0 (m + 1) y19 y20 = some v at H
 rw [gdovetaillaw20_small_L1] at H
 change Ec _ _ _ [(3, (vI y19)), (6, a1), (7, (vI ((p0.length : Nat) : Int))), (8, (vI y20))] σ0 _
 refine Ec.seq ?_
 refine Ec.region ?_
 refine V rfl ?_
 refine Eo.nil ?_
 refine Ec.seq ?_
 refine Ec.cond (t := (decide (y20 < ((p0.length : Nat) : Int)))) rfl (fun hc38 => ?_) (fun hc38 => ?_)
 {
 have H := cond_t hc38 H
 refine Ec.skip ?_
 refine Ec.seq ?_
 refine Ec.block ?_
 refine Ec.seq ?_
 refine Ec.region ?_
 obtain ⟨x39, hvx39, H⟩ := bind_some H
 refine Eo.idx h2 hvx39 rfl rfl rfl Try.underlying22 rfl rfl rfl rfl ?_
 rintro cs40 p41 _ hat42 ⟨a43, a45, a47, rfl, h44, h46, h48⟩
 refine Eo.val (op_loadSpAgg hat42 0 rfl rfl rfl rfl rfl rfl) rfl rfl rfl ?_
 refine Eo.alloc (z := [(vI 0), nilS, nilS, nilS]) hp0 rfl rfl rfl rfl rfl ?_
 intro b49 σ51 hp50
 refine Eo.store hp50 0 rfl (storeCells_mk rfl rfl rfl (by exact on rfl (on h44.isOne (on h46.isOne (on h48.isOne on0)))) rfl rfl) rfl rfl rfl rfl rfl ?_
 intro σ53 hp52
 refine Eo.nil ?_
 refine Ec.region ?_
 refine V rfl ?_
 refine V rfl ?_
 refine Eo.val (op_loadB hp52 0 rfl rfl rfl rfl) rfl rfl rfl ?_
 refine Eo.val (op_lenL h46 rfl rfl rfl rfl rfl Try.underlying26) rfl rfl rfl ?_
 refine V rfl ?_
 refine V rfl ?_
 refine Eo.nil ?_
 refine Ec.region ?_
 refine V rfl ?_
 refine V rfl ?_
 refine Eo.nil ?_
 exact Ec.of (.cons rfl (.cons rfl (.cons rfl (.cons rfl (.nil'))))) (ih (((IntKind.wrap .i64 (y19 + ((x39.f_Syms.length : Nat) : Int))), (IntKind.wrap .i64 (y20 + 1))), ()) _ (Hp.pick hp52 1 [] rfl) H)}
 {
 have H := cond_f hc38 H
 refine Ec.exit ?_
 obtain rfl := Option.some.inj H
 exact And.intro rfl ⟨hp0, (.cons rfl (.nil'))⟩}}
 {
 intro x φ58 σ57 hJ
 obtain ⟨rfl, hp56, hf59⟩ := hJ
 refine Ec.of (F := [(3, (vI x37))]) hf59 ?_
 refine Ec.seq ?_
 refine Ec.region ?_
 iterate 3 refine V rfl ?_
 refine Eo.nil ?_
 obtain rfl := Option.some.inj H
 refine Ec.ret ?_
 refine Ret.mk rfl ?_
 exact ⟨rfl, hp56⟩}

def gdovetailref17_Copy_L1 (N : Nat) (p0 : TObj) : Nat → Int → (List TSec) → Option ((List TSec))
  | 0, _, _ => none
  | m + 1, y109, y110 => (cond (decide (y109 < ((p0.f_Secs.length : Nat) : Int))) (((atL p0.f_Secs y109).bind fun x150 => ((appL 1 ([] : List Int) x150.f_Data).bind fun l164 => ((appL 72 y110 ([(TSec.mk x150.f_Name x150.f_Kind x150.f_Flags x150.f_Align x150.f_Size l164)] : List TSec)).bind fun l175 => gdovetailref17_Copy_L1 N p0 m (IntKind.wrap .i64 (y109 + 1)) l175)))) (some y110))

def gdovetailref17_Copy (n : Nat) (p0 : TObj) : Option (TObj) := ((((appL 56 ([] : List TSym) p0.f_Syms).bind fun l54 => ((appL 40 ([] : List TReloc) p0.f_Rels).bind fun l62 => some (p0.f_Machine, ([] : List TSec), l54, l62))) : Option ((Int × (List TSec) × (List TSym) × (List TReloc)))).bind fun v => match v with | (x41, x42, x45, x48) => ((gdovetailref17_Copy_L1 n p0 n 0 x42).bind fun x146 => some (TObj.mk x41 x146 x45 x48)))

def gdovetailref17_Copy_post (R : List Res) (r : TObj) (x : A) (s : St) : Prop := ∃ (a7 a9 a11 : A), x = (.agg [(vI r.f_Machine), a7, a9, a11]) ∧ Sl rTSec a7 r.f_Secs ∧ Sl rTSym a9 r.f_Syms ∧ Sl rTReloc a11 r.f_Rels ∧ Hp s (.app a7 46 :: .app a9 31 :: .app a11 72 :: R)

theorem gdovetailref17_Copy_ok {n : Nat} {p0 : TObj} {a1 : A} {a3 : A} {a5 : A} {R : List Res} {σ : St} (h2 : Sl rTSec a1 p0.f_Secs) (h4 : Sl rTSym a3 p0.f_Syms) (h6 : Sl rTReloc a5 p0.f_Rels) (hp : Hp σ R) {r : TObj} (H : gdovetailref17_Copy n p0 = some r) : Ca cfg 6 [(.agg [(vI p0.f_Machine), a1, a3, a5])] σ (gdovetailref17_Copy_post R r) := by
 unfold gdovetailref17_Copy at H
 refine Ca.enterL (G := [(0, (.agg [(vI p0.f_Machine), a1, a3, a5]))]) Try.func6 rfl rfl rfl rfl ?_
 refine Ec.seq ?_
 refine Ec.region ?_
 refine Eo.box hp rfl (by exact on rfl (on h2.isOne (on h4.isOne (on h6.isOne on0)))) rfl rfl rfl rfl rfl ?_
 intro b13 σ15 hp14
 refine Eo.alloc (z := [(vI 0), nilS, nilS, nilS]) hp14 rfl rfl rfl rfl rfl ?_
 intro b16 σ18 hp17
 refine Eo.nil ?_
 refine Ec.seq ?_
 obtain ⟨v190, hv191, H⟩ := bind_some H
 refine Ec.cut (J := (fun (v : (Int × (List TSec) × (List TSym) × (List TReloc))) (x : X) (φ : Fr) (s : St) => match v with | (x41, x42, x45, x48) => x = .normal ∧ (∃ (b40 : Nat), ∃ (a43 a46 a49 : A), Sl rTSec a43 x42 ∧ Sl rTSym a46 x45 ∧ Sl rTReloc a49 x48 ∧ Hp s (.blk b13 (.cells [(vI p0.f_Machine), a1, a3, a5] 29) :: .blk b16 (.cells [(vI 0), nilS, nilS, nilS] 29) :: .blk b40 (.cells [(vI x41), a43, a46, a49] 29) :: .app a43 46 :: .app a46 31 :: .app a49 72 :: R) ∧ Fl [(1, (.ptr b13 0)), (2, (.ptr b16 0)), (3, (.ptr b40 0))] φ)) v190) ?_ ?_
 {
 have H := hv191
 refine Ec.drawnS (by kernel_rfl) ?_
 refine Ed.val rfl rfl rfl rfl rfl rfl ?_
 refine Ed.val (op_loadB hp17 1 rfl rfl rfl rfl) rfl rfl rfl rfl rfl ?_
 refine Ed.val rfl rfl rfl rfl rfl rfl ?_
 have hp53 := Hp.appEx hp17 31 6 []
 refine Ed.val rfl rfl rfl rfl rfl rfl ?_
 refine Ed.val (op_loadB hp53 2 rfl rfl rfl rfl) rfl rfl rfl rfl rfl ?_
 obtain ⟨l54, hvl54, H⟩ := bind_some H
 refine Ed.append hp53 0 rfl (.inr ⟨_, _, rfl, .nil⟩ : Sl rTSym (.sl 6 [] .ex) ([] : List TSym)) (New.of h4) hvl54 rfl rfl rfl rfl rfl rfl rfl Try.underlying26 rfl Try.underlying26 rfl rfl rfl rfl rfl rfl rfl rfl (fun a' σ' h' hp' => ((stF_bef (by kernel_rfl) (stF_pure rfl (stF_pure rfl (stF_load rfl (op_loadB hp' 2 rfl rfl rfl rfl) (stF_pure rfl stF_nil))))))) ?_
 intro a55 σ58 h56 hp57
 refine Ed.valP rfl rfl rfl rfl rfl (stP_pure rfl stP_nil) ?_
 have hp61 := Hp.appEx hp57 72 5 []
 refine Ed.valP rfl rfl rfl rfl rfl (stP_pure rfl stP_nil) ?_
 refine Ed.valP (op_loadB hp61 3 rfl rfl rfl rfl) rfl rfl rfl rfl (stP_op rfl (op_loadB hp53 2 rfl rfl rfl rfl) stP_nil) ?_
 obtain ⟨l62, hvl62, H⟩ := bind_some H
 refine Ed.append hp61 0 rfl (.inr ⟨_, _, rfl, .nil⟩ : Sl rTReloc (.sl 5 [] .ex) ([] : List TReloc)) (New.of h6) hvl62 rfl rfl rfl rfl rfl rfl rfl Try.underlying27 rfl Try.underlying27 rfl rfl rfl rfl rfl rfl rfl rfl (fun a' σ' h' hp' => ((stF_bef (by kernel_rfl) (stF_pure rfl (stF_pure rfl (stF_bef (by kernel_rfl) (stF_pure rfl (stF_pure rfl (stF_load rfl (op_loadB hp' 3 rfl rfl rfl rfl) (stF_pure rfl stF_nil)))))))))) ?_
 intro a63 σ66 h64 hp65
 refine Ed.valP (op_build (lay_cons rfl rfl rfl rfl rfl (lay_cons rfl h56.cells rfl rfl rfl (lay_cons rfl h64.cells rfl rfl rfl lay_nil))) rfl (parts_cons rfl rfl (parts_cons rfl h56.noJunk (parts_cons rfl h64.noJunk rfl))) Try.underlying29 rfl rfl) rfl rfl rfl rfl (stP_pure rfl (stP_pure rfl stP_nil)) ?_
 refine Ed.alloc (z := [(vI 0), nilS, nilS, nilS]) hp65 rfl rfl rfl rfl rfl (fun b' σ' hp' => ((stF_pure rfl (stF_load rfl (op_loadB hp' 4 rfl rfl rfl rfl) (stF_pure rfl (stF_pure rfl (stF_load rfl (op_loadB hp' 4 rfl rfl rfl rfl) (stF_pure rfl (stF_pure rfl (stF_load rfl (op_loadB hp' 4 rfl rfl rfl rfl) (stF_pure rfl stF_nil))))))))))) ?_
 intro b67 σ69 hp68
 refine Ed.store hp68 0 rfl (storeCells_mk rfl rfl rfl (by exact on rfl (on rfl (on h56.isOne (on h64.isOne on0)))) rfl rfl) rfl rfl rfl rfl rfl (fun σ' hp' => ((stF_pure rfl (stF_bef (by kernel_rfl) (stF_pure rfl (stF_pure rfl (stF_bef (by kernel_rfl) (stF_pure rfl (stF_pure rfl (stF_bef (by kernel_rfl) (stF_pure rfl stF_nil))))))))))) ?_
 intro σ71 hp70
 refine Ed.nil ?_
 obtain rfl := Option.some.inj H
 exact And.intro rfl (And.intro rfl ⟨b67, nilS, a55, a63, Sl.nil, h56, h64, (Hp.pick (Hp.appNil hp70 46) 6 [5, 4, 1, 0, 3, 2] rfl), (.cons rfl (.cons rfl (.cons rfl (.nil'))))⟩)}
 {
 intro x φ74 σ73 hJ
 obtain ⟨x41, x42, x45, x48⟩ := v190
 obtain ⟨rfl, b40, a43, a46, a49, h44, h47, h50, hp72, hf75⟩ := hJ
 refine Ec.of (F := [(1, (.ptr b13 0)), (2, (.ptr b16 0)), (3, (.ptr b40 0))]) hf75 ?_
 refine Ec.seq ?_
 refine Ec.seq ?_
 refine Ec.region ?_
 refine V rfl ?_
 refine Eo.val (op_loadB hp72 0 rfl rfl rfl rfl) rfl rfl rfl ?_
 refine Eo.val (op_lenL h2 rfl rfl rfl rfl rfl Try.underlying25) rfl rfl rfl ?_
 refine V rfl ?_
 refine Eo.nil ?_
 refine Ec.block ?_
 obtain ⟨x146, hv183, H⟩ := bind_some H
 refine Ec.cut (J := _) (Ec.weak (.cons rfl (.cons rfl (.cons rfl (.cons rfl (.cons rfl (.nil')))))) (Ec.loopF (f := (fun m (i : (Int × (List TSec)) × A) => gdovetailref17_Copy_L1 n p0 m i.1.1 i.1.2)) (G := (fun (i : (Int × (List TSec)) × A) => ([(2, (.ptr b16 0)), (3, (.ptr b40 0)), (18, a1), (19, (vI ((p0.f_Secs.length : Nat) : Int))), (20, (vI i.1.1))] : List (Nat × A)))) (I := (fun (i : (Int × (List TSec)) × A) (s : St) => Sl rTSec i.2 i.1.2 ∧ Hp s (.blk b16 (.cells [(vI 0), nilS, nilS, nilS] 29) :: .blk b40 (.cells [(vI x41), i.2, a46, a49] 29) :: .app i.2 46 :: .app a46 31 :: .app a49 72 :: R))) (J := (fun (x146 : (List TSec)) (x : X) (φ : Fr) (s : St) => x = (.exit 0) ∧ (∃ (a147 : A), Sl rTSec a147 x146 ∧ Hp s (.blk b16 (.cells [(vI 0), nilS, nilS, nilS] 29) :: .blk b40 (.cells [(vI x41), a147, a46, a49] 29) :: .app a147 46 :: .app a46 31 :: .app a49 72 :: R) ∧ Fl [(2, (.ptr b16 0)), (3, (.ptr b40 0))] φ))) (fun _ => rfl) ?_ n ((0, x42), a43) _ x146 ⟨h44, (Hp.pick hp72 1 [] rfl)⟩ hv183)) ?_
 {
 rintro m ⟨⟨y109, y110⟩, a111⟩ σ0 v ⟨h112, hp0⟩ H ih
 change gdovetailref17_Copy_L1 n p0 (m + 1) y109 y110 = some v at H
 rw [gdovetailref17_Copy_L1] at H
 change Ec _ _ _ [(2, (.ptr b16 0)), (3, (.ptr b40 0)), (18, a1), (19, (vI ((p0.f_Secs.length : Nat) : Int))), (20, (vI y109))] σ0 _
 refine Ec.seq ?_
 refine Ec.region ?_
 refine V rfl ?_
 refine Eo.nil ?_
 refine Ec.seq ?_
 refine Ec.cond (t := (decide (y109 < ((p0.f_Secs.length : Nat) : Int)))) rfl (fun hc149 => ?_) (fun hc149 => ?_)
 {
 have H := cond_t hc149 H
 refine Ec.skip ?_
 refine Ec.seq ?_
 refine Ec.block ?_
 refine Ec.seq ?_
 refine Ec.region ?_
 obtain ⟨x150, hvx150, H⟩ := bind_some H
 refine Eo.idx h2 hvx150 rfl rfl rfl Try.underlying25 rfl rfl rfl rfl ?_
 rintro cs151 p152 _ hat153 ⟨a154, rfl, h155⟩
 refine Eo.val (op_loadSpAgg hat153 0 rfl rfl rfl rfl rfl rfl) rfl rfl rfl ?_
 refine Eo.alloc (z := [(vS (ByteArray.mk #[])), (vI 0), (vI 0), (vI 0), (vI 0), nilS]) hp0 rfl rfl rfl rfl rfl ?_
 intro b156 σ158 hp157
 refine Eo.store hp157 0 rfl (storeCells_mk rfl rfl rfl (by exact on rfl (on rfl (on rfl (on rfl (on rfl (on h155.isOne on0)))))) rfl rfl) rfl rfl rfl rfl rfl ?_
 intro σ160 hp159
 refine Eo.nil ?_
 refine Ec.seq ?_
 refine Ec.region ?_
 refine V rfl ?_
 have hp163 := Hp.appEx hp159 5 1 []
 refine V rfl ?_
 refine Eo.val (op_loadB hp163 1 rfl rfl rfl rfl) rfl rfl rfl ?_
 obtain ⟨l164, hvl164, H⟩ := bind_some H
 refine Eo.append hp163 0 rfl (.inr ⟨_, _, rfl, .nil⟩ : Sl (rI .u8) (.sl 1 [] .ex) ([] : List Int)) (New.of h155) hvl164 rfl rfl rfl rfl rfl rfl rfl Try.underlying44 rfl Try.underlying44 rfl rfl rfl rfl rfl rfl rfl rfl ?_
 intro a165 σ168 h166 hp167
 refine V rfl ?_
 refine Eo.store hp167 1 rfl (storeCells_mk (h166.cells) rfl rfl (by exact on h166.isOne on0) rfl rfl) rfl rfl rfl rfl rfl ?_
 intro σ170 hp169
 refine Eo.nil ?_
 refine Ec.region ?_
 refine V rfl ?_
 refine Eo.val (op_loadB hp169 3 rfl rfl rfl rfl) rfl rfl rfl ?_
 refine Eo.val (op_loadB hp169 1 rfl rfl rfl rfl) rfl rfl rfl ?_
 refine Eo.val (op_buildS (lay_cons rfl rfl rfl rfl rfl lay_nil) rfl (parts_cons rfl rfl rfl) Try.underlying25 rfl rfl rfl rfl (by decide) rfl) rfl rfl rfl ?_
 have h174 : Sl rTSec (.sl 6 [(vS x150.f_Name), (vI x150.f_Kind), (vI x150.f_Flags), (vI x150.f_Align), (vI x150.f_Size), a165] .ex) ([(TSec.mk x150.f_Name x150.f_Kind x150.f_Flags x150.f_Align x150.f_Size l164)] : List TSec) := .inr ⟨_, _, rfl, (.cons (c := [(vS x150.f_Name), (vI x150.f_Kind), (vI x150.f_Flags), (vI x150.f_Align), (vI x150.f_Size), a165]) ⟨a165, rfl, h166⟩ .nil)⟩
 have hp173 := Hp.appEx hp169 46 6 [(vS x150.f_Name), (vI x150.f_Kind), (vI x150.f_Flags), (vI x150.f_Align), (vI x150.f_Size), a165]
 obtain ⟨l175, hvl175, H⟩ := bind_some H
 refine Eo.append hp173 5 rfl h112 (New.of h174) hvl175 rfl rfl rfl rfl rfl rfl rfl Try.underlying25 rfl Try.underlying25 rfl rfl rfl rfl rfl rfl rfl rfl ?_
 intro a176 σ179 h177 hp178
 refine V rfl ?_
 refine Eo.store hp178 4 rfl (storeCells_mk (h177.cells) rfl rfl (by exact on h177.isOne on0) rfl rfl) rfl rfl rfl rfl rfl ?_
 intro σ181 hp180
 refine Eo.nil ?_
 refine Ec.region ?_
 refine V rfl ?_
 refine V rfl ?_
 refine Eo.nil ?_
 exact Ec.of (.cons rfl (.cons rfl (.cons rfl (.cons rfl (.cons rfl (.nil')))))) (ih (((IntKind.wrap .i64 (y109 + 1)), l175), a176) _ ⟨h177, (Hp.pick hp180 3 [] rfl)⟩ H)}
 {
 have H := cond_f hc149 H
 refine Ec.exit ?_
 obtain rfl := Option.some.inj H
 exact And.intro rfl ⟨a111, h112, hp0, (.cons rfl (.cons rfl (.nil')))⟩}}
 {
 intro x φ186 σ185 hJ
 obtain ⟨rfl, a147, h148, hp184, hf187⟩ := hJ
 refine Ec.of (F := [(2, (.ptr b16 0)), (3, (.ptr b40 0))]) hf187 ?_
 refine Ec.seq ?_
 refine Ec.region ?_
 refine Eo.val (op_loadB hp184 1 rfl rfl rfl rfl) rfl rfl rfl ?_
 refine Eo.store hp184 0 rfl (storeCells_mk rfl rfl rfl (by exact on rfl (on h148.isOne (on h47.isOne (on h50.isOne on0)))) rfl rfl) rfl rfl rfl rfl rfl ?_
 intro σ189 hp188
 refine Eo.nil ?_
 obtain rfl := Option.some.inj H
 refine Ec.ret ?_
 refine Ret.mk' (resA_cell hp188 0 rfl rfl rfl rfl) ?_
 exact ⟨a147, a46, a49, rfl, h148, h47, h50, (Hp.pick hp188 2 [] rfl)⟩}}

def gdovetailref20_Copy_L1 (N : Nat) (p0 : (List TObj)) : Nat → (List TObj) → Int → Option ((List TObj))
  | 0, _, _ => none
  | m + 1, y42, y45 => (cond (decide (y45 < ((p0.length : Nat) : Int))) (((atL p0 y45).bind fun x84 => ((gdovetailref17_Copy N x84).bind fun r99 => ((appL 80 y42 ([r99] : List TObj)).bind fun l112 => gdovetailref20_Copy_L1 N p0 m l112 (IntKind.wrap .i64 (y45 + 1)))))) (some y42))

def gdovetailref20_Copy (n : Nat) (p0 : (List TObj)) : Option ((List TObj)) := ((gdovetailref20_Copy_L1 n p0 n ([] : List TObj) 0).bind fun x80 => some x80)

def gdovetailref20_Copy_post (R : List Res) (r : (List TObj)) (x : A) (s : St) : Prop := ∃ (a3 : A), x = a3 ∧ Sl rTObj a3 r ∧ Hp s (.app a3 29 :: R)

theorem gdovetailref20_Copy_ok {n : Nat} {p0 : (List TObj)} {a1 : A} {R : List Res} {σ : St} (h2 : Sl rTObj a1 p0) (hp : Hp σ R) {r : (List TObj)} (H : gdovetailref20_Copy n p0 = some r) : Ca cfg 8 [a1] σ (gdovetailref20_Copy_post R r) := by
 unfold gdovetailref20_Copy at H
 refine Ca.enterL (G := [(0, a1)]) Try.func8 rfl rfl rfl rfl ?_
 refine Ec.seq ?_
 refine Ec.region ?_
 refine V rfl ?_
 refine Eo.nil ?_
 refine Ec.seq ?_
 refine Ec.region ?_
 refine V rfl ?_
 have hp7 := Hp.appEx hp 29 4 []
 refine V rfl ?_
 refine Eo.nil ?_
 refine Ec.seq ?_
 refine Ec.seq ?_
 refine Ec.region ?_
 refine V rfl ?_
 refine Eo.val (op_lenL h2 rfl rfl rfl rfl rfl Try.underlying22) rfl rfl rfl ?_
 refine V rfl ?_
 refine Eo.nil ?_
 refine Ec.block ?_
 obtain ⟨x80, hv118, H⟩ := bind_some H
 refine Ec.cut (J := _) (Ec.weak (.cons rfl (.cons rfl (.cons rfl (.cons rfl (.nil'))))) (Ec.loopF (f := (fun m (i : ((List TObj) × Int) × A) => gdovetailref20_Copy_L1 n p0 m i.1.1 i.1.2)) (G := (fun (i : ((List TObj) × Int) × A) => ([(3, i.2), (7, a1), (8, (vI ((p0.length : Nat) : Int))), (9, (vI i.1.2))] : List (Nat × A)))) (I := (fun (i : ((List TObj) × Int) × A) (s : St) => Sl rTObj i.2 i.1.1 ∧ Hp s (.app i.2 29 :: R))) (J := (fun (x80 : (List TObj)) (x : X) (φ : Fr) (s : St) => x = (.exit 0) ∧ (∃ (a81 : A), Sl rTObj a81 x80 ∧ Hp s (.app a81 29 :: R) ∧ Fl [(3, a81)] φ))) (fun _ => rfl) ?_ n ((([] : List TObj), 0), (.sl 4 [] .ex)) _ x80 ⟨(.inr ⟨_, _, rfl, .nil⟩ : Sl rTObj (.sl 4 [] .ex) ([] : List TObj)), hp7⟩ hv118)) ?_
 {
 rintro m ⟨⟨y42, y45⟩, a43⟩ σ0 v ⟨h44, hp0⟩ H ih
 change gdovetailref20_Copy_L1 n p0 (m + 1) y42 y45 = some v at H
 rw [gdovetailref20_Copy_L1] at H
 change Ec _ _ _ [(3, a43), (7, a1), (8, (vI ((p0.length : Nat) : Int))), (9, (vI y45))] σ0 _
 refine Ec.seq ?_
 refine Ec.region ?_
 refine V rfl ?_
 refine Eo.nil ?_
 refine Ec.seq ?_
 refine Ec.cond (t := (decide (y45 < ((p0.length : Nat) : Int)))) rfl (fun hc83 => ?_) (fun hc83 => ?_)
 {
 have H := cond_t hc83 H
 refine Ec.skip ?_
 refine Ec.seq ?_
 refine Ec.block ?_
 refine Ec.seq ?_
 refine Ec.region ?_
 obtain ⟨x84, hvx84, H⟩ := bind_some H
 refine Eo.idx h2 hvx84 rfl rfl rfl Try.underlying22 rfl rfl rfl rfl ?_
 rintro cs85 p86 _ hat87 ⟨a88, a90, a92, rfl, h89, h91, h93⟩
 refine Eo.val (op_loadSpAgg hat87 0 rfl rfl rfl rfl rfl rfl) rfl rfl rfl ?_
 refine Eo.alloc (z := [(vI 0), nilS, nilS, nilS]) hp0 rfl rfl rfl rfl rfl ?_
 intro b94 σ96 hp95
 refine Eo.store hp95 0 rfl (storeCells_mk rfl rfl rfl (by exact on rfl (on h89.isOne (on h91.isOne (on h93.isOne on0)))) rfl rfl) rfl rfl rfl rfl rfl ?_
 intro σ98 hp97
 refine Eo.nil ?_
 refine Ec.region ?_
 refine V rfl ?_
 refine Eo.val (op_loadB hp97 0 rfl rfl rfl rfl) rfl rfl rfl ?_
 obtain ⟨r99, hvr99, H⟩ := bind_some H
 refine Eo.call rfl rfl rfl rfl (gdovetailref17_Copy_ok h89 h91 h93 hp97 hvr99) ?_
 rintro _ σ107 ⟨a100, a102, a104, rfl, h101, h103, h105, hp106⟩
 refine Eo.val (op_buildS (lay_cons rfl rfl rfl rfl rfl lay_nil) rfl (parts_cons rfl rfl rfl) Try.underlying22 rfl rfl rfl rfl (by decide) rfl) rfl rfl rfl ?_
 have h111 : Sl rTObj (.sl 4 [(vI r99.f_Machine), a100, a102, a104] .ex) ([r99] : List TObj) := .inr ⟨_, _, rfl, (.cons (c := [(vI r99.f_Machine), a100, a102, a104]) ⟨a100, a102, a104, rfl, h101, h103, h105⟩ .nil)⟩
 have hp110 := Hp.appEx hp106 29 4 [(vI r99.f_Machine), a100, a102, a104]
 obtain ⟨l112, hvl112, H⟩ := bind_some H
 refine Eo.append hp110 5 rfl h44 (New.of h111) hvl112 rfl rfl rfl rfl rfl rfl rfl Try.underlying22 rfl Try.underlying22 rfl rfl rfl rfl rfl rfl rfl rfl ?_
 intro a113 σ116 h114 hp115
 refine V rfl ?_
 refine Eo.nil ?_
 refine Ec.region ?_
 refine V rfl ?_
 refine V rfl ?_
 refine Eo.nil ?_
 exact Ec.of (.cons rfl (.cons rfl (.cons rfl (.cons rfl (.nil'))))) (ih ((l112, (IntKind.wrap .i64 (y45 + 1))), a113) _ ⟨h114, (Hp.pick hp115 5 [] rfl)⟩ H)}
 {
 have H := cond_f hc83 H
 refine Ec.exit ?_
 obtain rfl := Option.some.inj H
 exact And.intro rfl ⟨a43, h44, hp0, (.cons rfl (.nil'))⟩}}
 {
 intro x φ121 σ120 hJ
 obtain ⟨rfl, a81, h82, hp119, hf122⟩ := hJ
 refine Ec.of (F := [(3, a81)]) hf122 ?_
 refine Ec.seq ?_
 refine Ec.region ?_
 refine V rfl ?_
 refine V rfl ?_
 refine Eo.nil ?_
 obtain rfl := Option.some.inj H
 refine Ec.ret ?_
 refine Ret.mk rfl ?_
 exact ⟨a81, rfl, h82, hp119⟩}

def gelfobj_named (_n : Nat) (p0 : ByteArray) : Option (Bool) := ((containsT p0 (ByteArray.mk #[0])).bind fun r1 => some (!r1))

def gelfobj_named_post (R : List Res) (r : Bool) (x : A) (s : St) : Prop := x = (vB r) ∧ Hp s R

theorem gelfobj_named_ok {n : Nat} {p0 : ByteArray} {R : List Res} {σ : St} (hp : Hp σ R) {r : Bool} (H : gelfobj_named n p0 = some r) : Ca cfg 25 [(vS p0)] σ (gelfobj_named_post R r) := by
 unfold gelfobj_named at H
 refine Ca.enterL (G := [(0, (vS p0))]) Try.func25 rfl rfl rfl rfl ?_
 refine Ec.seq ?_
 refine Ec.region ?_
 refine V rfl ?_
 refine Eo.nil ?_
 refine Ec.seq ?_
 refine Ec.region ?_
 refine V rfl ?_
 obtain ⟨r1, hvr1, H⟩ := bind_some H
 refine Eo.call rfl rfl rfl rfl (prim32_ok hp hvr1) ?_
 rintro _ σ3 ⟨rfl, hp2⟩
 refine V rfl ?_
 refine V rfl ?_
 refine Eo.nil ?_
 obtain rfl := Option.some.inj H
 refine Ec.ret ?_
 refine Ret.mk rfl ?_
 exact ⟨rfl, hp2⟩

def gelfobj_power (_n : Nat) (p0 : Int) : Option (Bool) := some (((decide (p0 ≥ 1)) && (decide (p0 ≤ 4096))) && ((IntKind.wrap .i64 ((BitVec.ofInt 64 p0 &&& BitVec.ofInt 64 (IntKind.wrap .i64 (p0 - 1))).toNat : Nat)) == 0))

def gelfobj_power_post (R : List Res) (r : Bool) (x : A) (s : St) : Prop := x = (vB r) ∧ Hp s R

theorem gelfobj_power_ok {n : Nat} {p0 : Int} {R : List Res} {σ : St} (hp : Hp σ R) {r : Bool} (H : gelfobj_power n p0 = some r) : Ca cfg 31 [(vI p0)] σ (gelfobj_power_post R r) := by
 unfold gelfobj_power at H
 refine Ca.enterL (G := [(0, (vI p0))]) Try.func31 rfl rfl rfl rfl ?_
 refine Ec.seq ?_
 refine Ec.region ?_
 refine V rfl ?_
 refine Eo.nil ?_
 refine Ec.seq ?_
 refine Ec.region ?_
 iterate 3 refine V rfl ?_
 refine Eo.cutF 3 [(0, (vI p0)), (2, (vB false)), (8, (vB ((decide (p0 ≥ 1)) && (decide (p0 ≤ 4096)))))] ?_ ?_
 {
 cases hc3 : (decide (p0 ≥ 1))
 {
 refine Eo.off rfl rfl rfl ?_
 refine Eo.off rfl rfl rfl ?_
 refine V rfl ?_
 exact Eo.nil (And.intro rfl (And.intro rfl (.cons rfl (.cons rfl (.cons rfl (.nil'))))))}
 {
 iterate 3 refine V rfl ?_
 exact Eo.nil (And.intro rfl (And.intro rfl (.cons rfl (.cons rfl (.cons rfl (.nil'))))))}}
 {
 refine V rfl ?_
 refine Eo.cutF 6 [(2, (vB false)), (15, (vB (((decide (p0 ≥ 1)) && (decide (p0 ≤ 4096))) && ((IntKind.wrap .i64 ((BitVec.ofInt 64 p0 &&& BitVec.ofInt 64 (IntKind.wrap .i64 (p0 - 1))).toNat : Nat)) == 0))))] ?_ ?_
 {
 cases hc8 : ((decide (p0 ≥ 1)) && (decide (p0 ≤ 4096)))
 {
 iterate 5 refine Eo.off rfl rfl rfl ?_
 refine V rfl ?_
 exact Eo.nil (And.intro rfl (And.intro rfl (.cons rfl (.cons rfl (.nil')))))}
 {
 iterate 6 refine V rfl ?_
 exact Eo.nil (And.intro rfl (And.intro rfl (.cons rfl (.cons rfl (.nil')))))}}
 {
 refine V rfl ?_
 refine Eo.nil ?_
 obtain rfl := Option.some.inj H
 refine Ec.ret ?_
 refine Ret.mk rfl ?_
 exact ⟨rfl, hp⟩}}

def gelfobj_soundSec (n : Nat) (p0 : TSec) : Option (Bool) := (((cond (p0.f_Kind == 8) (some 0) (some p0.f_Size)) : Option (Int)).bind fun x7 => ((gelfobj_named n p0.f_Name).bind fun r18 => (((cond (((r18 && ((p0.f_Kind == 1) || (p0.f_Kind == 8))) && (decide (p0.f_Flags ≥ 0))) && (decide (p0.f_Flags ≤ 2147483647))) (((gelfobj_power n p0.f_Align).bind fun r42 => some r42)) (some false)) : Option (Bool)).bind fun x40 => some (((x40 && (decide (p0.f_Size ≥ 0))) && (decide (p0.f_Size ≤ 4194304))) && (((p0.f_Data.length : Nat) : Int) == x7)))))

def gelfobj_soundSec_post (R : List Res) (r : Bool) (x : A) (s : St) : Prop := x = (vB r) ∧ Hp s R

theorem gelfobj_soundSec_ok {n : Nat} {p0 : TSec} {a1 : A} {R : List Res} {σ : St} (h2 : Sl (rI .u8) a1 p0.f_Data) (hp : Hp σ R) {r : Bool} (H : gelfobj_soundSec n p0 = some r) : Ca cfg 24 [(.agg [(vS p0.f_Name), (vI p0.f_Kind), (vI p0.f_Flags), (vI p0.f_Align), (vI p0.f_Size), a1])] σ (gelfobj_soundSec_post R r) := by
 unfold gelfobj_soundSec at H
 refine Ca.enterL (G := [(0, (.agg [(vS p0.f_Name), (vI p0.f_Kind), (vI p0.f_Flags), (vI p0.f_Align), (vI p0.f_Size), a1]))]) Try.func24 rfl rfl rfl rfl ?_
 refine Ec.seq ?_
 refine Ec.region ?_
 refine Eo.box hp rfl (by exact on rfl (on rfl (on rfl (on rfl (on rfl (on h2.isOne on0)))))) rfl rfl rfl rfl rfl ?_
 intro b3 σ5 hp4
 refine V rfl ?_
 refine Eo.nil ?_
 refine Ec.seq ?_
 refine Ec.region ?_
 refine V rfl ?_
 refine Eo.val (op_loadB hp4 0 rfl rfl rfl rfl) rfl rfl rfl ?_
 refine V rfl ?_
 refine Eo.nil ?_
 refine Ec.seq ?_
 refine Ec.seq ?_
 refine Ec.region ?_
 refine V rfl ?_
 refine Eo.val (op_loadB hp4 0 rfl rfl rfl rfl) rfl rfl rfl ?_
 refine V rfl ?_
 refine Eo.nil ?_
 obtain ⟨x7, hv67, H⟩ := bind_some H
 refine Ec.cut (J := (fun (x7 : Int) (x : X) (φ : Fr) (s : St) => x = .normal ∧ (Hp s (.blk b3 (.cells [(vS p0.f_Name), (vI p0.f_Kind), (vI p0.f_Flags), (vI p0.f_Align), (vI p0.f_Size), a1] 46) :: R) ∧ Fl [(1, (.ptr b3 0)), (3, (vI x7))] φ)) x7) ?_ ?_
 {
 have H := hv67
 refine Ec.cond (t := (p0.f_Kind == 8)) rfl (fun hc8 => ?_) (fun hc8 => ?_)
 {
 have H := cond_t hc8 H
 refine Ec.region ?_
 refine V rfl ?_
 refine Eo.nil ?_
 obtain rfl := Option.some.inj H
 exact And.intro rfl ⟨hp4, (.cons rfl (.cons rfl (.nil')))⟩}
 {
 have H := cond_f hc8 H
 refine Ec.skip ?_
 obtain rfl := Option.some.inj H
 exact And.intro rfl ⟨hp4, (.cons rfl (.cons rfl (.nil')))⟩}}
 {
 intro x φ11 σ10 hJ
 obtain ⟨rfl, hp9, hf12⟩ := hJ
 refine Ec.of (F := [(1, (.ptr b3 0)), (3, (vI x7))]) hf12 ?_
 refine Ec.seq ?_
 refine Ec.region ?_
 refine V rfl ?_
 refine Eo.val (op_loadB hp9 0 rfl rfl rfl rfl) rfl rfl rfl ?_
 refine V rfl ?_
 refine V rfl ?_
 refine Eo.cutF 4 [(1, (.ptr b3 0)), (3, (vI x7)), (17, (vB ((p0.f_Kind == 1) || (p0.f_Kind == 8))))] ?_ ?_
 {
 cases hc15 : (p0.f_Kind == 1)
 {
 refine V rfl ?_
 refine Eo.val (op_loadB hp9 0 rfl rfl rfl rfl) rfl rfl rfl ?_
 refine V rfl ?_
 refine V rfl ?_
 exact Eo.nil (And.intro rfl (And.intro rfl (.cons rfl (.cons rfl (.cons rfl (.nil'))))))}
 {
 iterate 3 refine Eo.off rfl rfl rfl ?_
 refine V rfl ?_
 exact Eo.nil (And.intro rfl (And.intro rfl (.cons rfl (.cons rfl (.cons rfl (.nil'))))))}}
 {
 refine V rfl ?_
 refine Eo.nil ?_
 refine Ec.seq ?_
 refine Ec.region ?_
 refine V rfl ?_
 refine Eo.val (op_loadB hp9 0 rfl rfl rfl rfl) rfl rfl rfl ?_
 obtain ⟨r18, hvr18, H⟩ := bind_some H
 refine Eo.call rfl rfl rfl rfl (gelfobj_named_ok hp9 hvr18) ?_
 rintro _ σ20 ⟨rfl, hp19⟩
 refine V rfl ?_
 refine Eo.cutF 2 [(1, (.ptr b3 0)), (3, (vI x7)), (23, (vB (r18 && ((p0.f_Kind == 1) || (p0.f_Kind == 8)))))] ?_ ?_
 {
 cases hc23 : r18
 {
 refine Eo.off rfl rfl rfl ?_
 refine V rfl ?_
 exact Eo.nil (And.intro rfl (And.intro rfl (.cons rfl (.cons rfl (.cons rfl (.nil'))))))}
 {
 refine V rfl ?_
 refine V rfl ?_
 exact Eo.nil (And.intro rfl (And.intro rfl (.cons rfl (.cons rfl (.cons rfl (.nil'))))))}}
 {
 refine V rfl ?_
 refine Eo.cutF 4 [(1, (.ptr b3 0)), (3, (vI x7)), (28, (vB ((r18 && ((p0.f_Kind == 1) || (p0.f_Kind == 8))) && (decide (p0.f_Flags ≥ 0)))))] ?_ ?_
 {
 cases hc28 : (r18 && ((p0.f_Kind == 1) || (p0.f_Kind == 8)))
 {
 iterate 3 refine Eo.off rfl rfl rfl ?_
 refine V rfl ?_
 exact Eo.nil (And.intro rfl (And.intro rfl (.cons rfl (.cons rfl (.cons rfl (.nil'))))))}
 {
 refine V rfl ?_
 refine Eo.val (op_loadB hp19 0 rfl rfl rfl rfl) rfl rfl rfl ?_
 refine V rfl ?_
 refine V rfl ?_
 exact Eo.nil (And.intro rfl (And.intro rfl (.cons rfl (.cons rfl (.cons rfl (.nil'))))))}}
 {
 refine V rfl ?_
 refine Eo.cutF 4 [(1, (.ptr b3 0)), (3, (vI x7)), (33, (vB (((r18 && ((p0.f_Kind == 1) || (p0.f_Kind == 8))) && (decide (p0.f_Flags ≥ 0))) && (decide (p0.f_Flags ≤ 2147483647)))))] ?_ ?_
 {
 cases hc33 : ((r18 && ((p0.f_Kind == 1) || (p0.f_Kind == 8))) && (decide (p0.f_Flags ≥ 0)))
 {
 iterate 3 refine Eo.off rfl rfl rfl ?_
 refine V rfl ?_
 exact Eo.nil (And.intro rfl (And.intro rfl (.cons rfl (.cons rfl (.cons rfl (.nil'))))))}
 {
 refine V rfl ?_
 refine Eo.val (op_loadB hp19 0 rfl rfl rfl rfl) rfl rfl rfl ?_
 refine V rfl ?_
 refine V rfl ?_
 exact Eo.nil (And.intro rfl (And.intro rfl (.cons rfl (.cons rfl (.cons rfl (.nil'))))))}}
 {
 refine V rfl ?_
 obtain ⟨x40, hv65, H⟩ := bind_some H
 refine Eo.cutN 4 (J := (fun (x40 : Bool) (x : X) (φ : Fr) (s : St) => x = .normal ∧ (Hp s (.blk b3 (.cells [(vS p0.f_Name), (vI p0.f_Kind), (vI p0.f_Flags), (vI p0.f_Align), (vI p0.f_Size), a1] 46) :: R) ∧ Fl [(1, (.ptr b3 0)), (3, (vI x7)), (38, (vB x40))] φ)) x40) ?_ ?_
 {
 have H := hv65
 cases hc41 : (((r18 && ((p0.f_Kind == 1) || (p0.f_Kind == 8))) && (decide (p0.f_Flags ≥ 0))) && (decide (p0.f_Flags ≤ 2147483647)))
 {
 have H := cond_f hc41 H
 iterate 3 refine Eo.off rfl rfl rfl ?_
 refine V rfl ?_
 refine Eo.nil ?_
 obtain rfl := Option.some.inj H
 exact And.intro rfl ⟨hp19, (.cons rfl (.cons rfl (.cons rfl (.nil'))))⟩}
 {
 have H := cond_t hc41 H
 refine V rfl ?_
 refine Eo.val (op_loadB hp19 0 rfl rfl rfl rfl) rfl rfl rfl ?_
 obtain ⟨r42, hvr42, H⟩ := bind_some H
 refine Eo.call rfl rfl rfl rfl (gelfobj_power_ok hp19 hvr42) ?_
 rintro _ σ44 ⟨rfl, hp43⟩
 refine V rfl ?_
 refine Eo.nil ?_
 obtain rfl := Option.some.inj H
 exact And.intro rfl ⟨hp43, (.cons rfl (.cons rfl (.cons rfl (.nil'))))⟩}}
 {
 intro x φ47 σ46 hJ
 obtain ⟨rfl, hp45, hf48⟩ := hJ
 refine ⟨rfl, Eo.of (F := [(1, (.ptr b3 0)), (3, (vI x7)), (38, (vB x40))]) hf48 ?_⟩
 refine V rfl ?_
 refine Eo.cutF 4 [(1, (.ptr b3 0)), (3, (vI x7)), (43, (vB (x40 && (decide (p0.f_Size ≥ 0)))))] ?_ ?_
 {
 cases hc51 : x40
 {
 iterate 3 refine Eo.off rfl rfl rfl ?_
 refine V rfl ?_
 exact Eo.nil (And.intro rfl (And.intro rfl (.cons rfl (.cons rfl (.cons rfl (.nil'))))))}
 {
 refine V rfl ?_
 refine Eo.val (op_loadB hp45 0 rfl rfl rfl rfl) rfl rfl rfl ?_
 refine V rfl ?_
 refine V rfl ?_
 exact Eo.nil (And.intro rfl (And.intro rfl (.cons rfl (.cons rfl (.cons rfl (.nil'))))))}}
 {
 refine V rfl ?_
 refine Eo.cutF 4 [(1, (.ptr b3 0)), (3, (vI x7)), (48, (vB ((x40 && (decide (p0.f_Size ≥ 0))) && (decide (p0.f_Size ≤ 4194304)))))] ?_ ?_
 {
 cases hc56 : (x40 && (decide (p0.f_Size ≥ 0)))
 {
 iterate 3 refine Eo.off rfl rfl rfl ?_
 refine V rfl ?_
 exact Eo.nil (And.intro rfl (And.intro rfl (.cons rfl (.cons rfl (.cons rfl (.nil'))))))}
 {
 refine V rfl ?_
 refine Eo.val (op_loadB hp45 0 rfl rfl rfl rfl) rfl rfl rfl ?_
 refine V rfl ?_
 refine V rfl ?_
 exact Eo.nil (And.intro rfl (And.intro rfl (.cons rfl (.cons rfl (.cons rfl (.nil'))))))}}
 {
 refine V rfl ?_
 refine Eo.cutF 6 [(55, (vB (((x40 && (decide (p0.f_Size ≥ 0))) && (decide (p0.f_Size ≤ 4194304))) && (((p0.f_Data.length : Nat) : Int) == x7))))] ?_ ?_
 {
 cases hc61 : ((x40 && (decide (p0.f_Size ≥ 0))) && (decide (p0.f_Size ≤ 4194304)))
 {
 iterate 5 refine Eo.off rfl rfl rfl ?_
 refine V rfl ?_
 exact Eo.nil (And.intro rfl (And.intro rfl (.cons rfl (.nil'))))}
 {
 refine V rfl ?_
 refine Eo.val (op_loadB hp45 0 rfl rfl rfl rfl) rfl rfl rfl ?_
 refine Eo.val (op_lenL h2 rfl rfl rfl rfl rfl Try.underlying44) rfl rfl rfl ?_
 iterate 3 refine V rfl ?_
 exact Eo.nil (And.intro rfl (And.intro rfl (.cons rfl (.nil'))))}}
 {
 refine V rfl ?_
 refine Eo.nil ?_
 obtain rfl := Option.some.inj H
 refine Ec.ret ?_
 refine Ret.mk rfl ?_
 exact ⟨rfl, (Hp.pick hp45 1 [] rfl)⟩}}}}}}}}}

def gelfobj_Sound_1 (n : Nat) (p0 : TSec) : Option (Bool) := ((gelfobj_soundSec n p0).bind fun r6 => some (!r6))

def gelfobj_Sound_1_post (R : List Res) (r : Bool) (x : A) (s : St) : Prop := x = (vB r) ∧ Hp s R

theorem gelfobj_Sound_1_ok {n : Nat} {p0 : TSec} {a1 : A} {R : List Res} {σ : St} (h2 : Sl (rI .u8) a1 p0.f_Data) (hp : Hp σ R) {r : Bool} (H : gelfobj_Sound_1 n p0 = some r) : Ca cfg 23 [(.agg [(vS p0.f_Name), (vI p0.f_Kind), (vI p0.f_Flags), (vI p0.f_Align), (vI p0.f_Size), a1])] σ (gelfobj_Sound_1_post R r) := by
 unfold gelfobj_Sound_1 at H
 refine Ca.enterL (G := [(0, (.agg [(vS p0.f_Name), (vI p0.f_Kind), (vI p0.f_Flags), (vI p0.f_Align), (vI p0.f_Size), a1]))]) Try.func23 rfl rfl rfl rfl ?_
 refine Ec.seq ?_
 refine Ec.region ?_
 refine Eo.box hp rfl (by exact on rfl (on rfl (on rfl (on rfl (on rfl (on h2.isOne on0)))))) rfl rfl rfl rfl rfl ?_
 intro b3 σ5 hp4
 refine V rfl ?_
 refine Eo.nil ?_
 refine Ec.seq ?_
 refine Ec.region ?_
 refine Eo.val (op_loadB hp4 0 rfl rfl rfl rfl) rfl rfl rfl ?_
 obtain ⟨r6, hvr6, H⟩ := bind_some H
 refine Eo.call rfl rfl rfl rfl (gelfobj_soundSec_ok h2 hp4 hvr6) ?_
 rintro _ σ8 ⟨rfl, hp7⟩
 refine V rfl ?_
 refine V rfl ?_
 refine Eo.nil ?_
 obtain rfl := Option.some.inj H
 refine Ec.ret ?_
 refine Ret.mk rfl ?_
 exact ⟨rfl, (Hp.pick hp7 1 [] rfl)⟩

def gslices_IndexFunc_30_23_L1 (N : Nat) (p0 : (List TSec)) : Nat → Int → Option (LR Unit Int)
  | 0, _ => none
  | m + 1, y14 => (cond (decide (y14 < ((p0.length : Nat) : Int))) (((atL p0 y14).bind fun x27 => ((gelfobj_Sound_1 N x27).bind fun r33 => (cond r33 (some (.ret y14)) (gslices_IndexFunc_30_23_L1 N p0 m (IntKind.wrap .i64 (y14 + 1))))))) (some (.out ())))

def gslices_IndexFunc_30_23 (n : Nat) (p0 : (List TSec)) : Option (Int) := ((gslices_IndexFunc_30_23_L1 n p0 n 0).bind fun v => match v with | .out _ => some (-1) | .ret r43 => some r43)

def gslices_IndexFunc_30_23_post (R : List Res) (r : Int) (x : A) (s : St) : Prop := x = (vI r) ∧ Hp s R

theorem gslices_IndexFunc_30_23_ok {n : Nat} {p0 : (List TSec)} {a1 : A} {R : List Res} {σ : St} (h2 : Sl rTSec a1 p0) (hp : Hp σ R) {r : Int} (H : gslices_IndexFunc_30_23 n p0 = some r) : Ca cfg 30 [a1, (.fn (.func 23) [] [])] σ (gslices_IndexFunc_30_23_post R r) := by
 unfold gslices_IndexFunc_30_23 at H
 refine Ca.enterL (G := [(0, a1), (1, (.fn (.func 23) [] []))]) Try.func30 rfl rfl rfl rfl ?_
 refine Ec.seq ?_
 refine Ec.region ?_
 refine V rfl ?_
 refine Eo.nil ?_
 refine Ec.seq ?_
 refine Ec.seq ?_
 refine Ec.region ?_
 refine V rfl ?_
 refine Eo.val (op_lenL h2 rfl rfl rfl rfl rfl Try.underlying25) rfl rfl rfl ?_
 refine V rfl ?_
 refine Eo.nil ?_
 refine Ec.block ?_
 obtain ⟨v37, hv38, H⟩ := bind_some H
 refine Ec.cut (J := _) (Ec.weak (.cons rfl (.cons rfl (.cons rfl (.cons rfl (.nil'))))) (Ec.loopF (f := (fun m (i : Int × Unit) => gslices_IndexFunc_30_23_L1 n p0 m i.1)) (G := (fun (i : Int × Unit) => ([(0, a1), (1, (.fn (.func 23) [] [])), (7, (vI ((p0.length : Nat) : Int))), (8, (vI i.1))] : List (Nat × A)))) (I := (fun (i : Int × Unit) (s : St) => Hp s R)) (J := (fun (v : LR Unit Int) (x : X) (φ : Fr) (s : St) => match v with | .out _ => x = (.exit 0) ∧ (Hp s R ∧ Fl [] φ) | .ret r => x = .ret ∧ Ret cfg Try.f30 (gslices_IndexFunc_30_23_post R r) .ret φ s)) (fun _ => rfl) ?_ n (0, ()) _ v37 hp hv38)) ?_
 {
 rintro m ⟨y14, _⟩ σ0 v hp0 H ih
 change gslices_IndexFunc_30_23_L1 n p0 (m + 1) y14 = some v at H
 rw [gslices_IndexFunc_30_23_L1] at H
 change Ec _ _ _ [(0, a1), (1, (.fn (.func 23) [] [])), (7, (vI ((p0.length : Nat) : Int))), (8, (vI y14))] σ0 _
 refine Ec.seq ?_
 refine Ec.region ?_
 refine V rfl ?_
 refine Eo.nil ?_
 refine Ec.seq ?_
 refine Ec.cond (t := (decide (y14 < ((p0.length : Nat) : Int)))) rfl (fun hc26 => ?_) (fun hc26 => ?_)
 {
 have H := cond_t hc26 H
 refine Ec.skip ?_
 refine Ec.seq ?_
 refine Ec.block ?_
 refine Ec.seq ?_
 refine Ec.region ?_
 refine V rfl ?_
 refine V rfl ?_
 refine Eo.nil ?_
 refine Ec.seq ?_
 refine Ec.region ?_
 iterate 3 refine V rfl ?_
 obtain ⟨x27, hvx27, H⟩ := bind_some H
 refine Eo.idx h2 hvx27 rfl rfl rfl Try.underlying25 rfl rfl rfl rfl ?_
 rintro cs28 p29 _ hat30 ⟨a31, rfl, h32⟩
 refine Eo.val (op_loadSpAgg hat30 0 rfl rfl rfl rfl rfl rfl) rfl rfl rfl ?_
 obtain ⟨r33, hvr33, H⟩ := bind_some H
 refine Eo.call rfl rfl rfl rfl (gelfobj_Sound_1_ok h32 hp0 hvr33) ?_
 rintro _ σ35 ⟨rfl, hp34⟩
 refine Eo.nil ?_
 refine Ec.cond (t := r33) rfl (fun hc36 => ?_) (fun hc36 => ?_)
 {
 have H := cond_t hc36 H
 refine Ec.seq ?_
 refine Ec.region ?_
 refine V rfl ?_
 refine V rfl ?_
 refine Eo.nil ?_
 obtain rfl := Option.some.inj H
 refine Ec.ret ?_
 refine And.intro rfl (Ret.mk rfl ?_)
 exact ⟨rfl, hp34⟩}
 {
 have H := cond_f hc36 H
 refine Ec.skip ?_
 refine Ec.region ?_
 refine V rfl ?_
 refine V rfl ?_
 refine Eo.nil ?_
 exact Ec.of (.cons rfl (.cons rfl (.cons rfl (.cons rfl (.nil'))))) (ih ((IntKind.wrap .i64 (y14 + 1)), ()) _ hp34 H)}}
 {
 have H := cond_f hc26 H
 refine Ec.exit ?_
 obtain rfl := Option.some.inj H
 exact And.intro rfl ⟨hp0, (.nil')⟩}}
 {
 rcases v37 with _ | r43
 {
 intro x φ41 σ40 hJ
 obtain ⟨rfl, hp39, hf42⟩ := hJ
 refine Ec.of (F := []) hf42 ?_
 refine Ec.seq ?_
 refine Ec.region ?_
 refine V rfl ?_
 refine Eo.nil ?_
 obtain rfl := Option.some.inj H
 refine Ec.ret ?_
 refine Ret.mk rfl ?_
 exact ⟨rfl, hp39⟩}
 {
 intro x φ44 σ45 hJ
 obtain rfl := Option.some.inj H
 obtain ⟨rfl, hr⟩ := hJ
 exact hr}}

def gslices_ContainsFunc_22_23 (n : Nat) (p0 : (List TSec)) : Option (Bool) := ((gslices_IndexFunc_30_23 n p0).bind fun r3 => some (decide (r3 ≥ 0)))

def gslices_ContainsFunc_22_23_post (R : List Res) (r : Bool) (x : A) (s : St) : Prop := x = (vB r) ∧ Hp s R

theorem gslices_ContainsFunc_22_23_ok {n : Nat} {p0 : (List TSec)} {a1 : A} {R : List Res} {σ : St} (h2 : Sl rTSec a1 p0) (hp : Hp σ R) {r : Bool} (H : gslices_ContainsFunc_22_23 n p0 = some r) : Ca cfg 22 [a1, (.fn (.func 23) [] [])] σ (gslices_ContainsFunc_22_23_post R r) := by
 unfold gslices_ContainsFunc_22_23 at H
 refine Ca.enterL (G := [(0, a1), (1, (.fn (.func 23) [] []))]) Try.func22 rfl rfl rfl rfl ?_
 refine Ec.seq ?_
 refine Ec.region ?_
 refine V rfl ?_
 refine Eo.nil ?_
 refine Ec.seq ?_
 refine Ec.region ?_
 refine V rfl ?_
 refine V rfl ?_
 obtain ⟨r3, hvr3, H⟩ := bind_some H
 refine Eo.call rfl rfl rfl rfl (gslices_IndexFunc_30_23_ok h2 hp hvr3) ?_
 rintro _ σ5 ⟨rfl, hp4⟩
 refine V rfl ?_
 refine V rfl ?_
 refine Eo.nil ?_
 obtain rfl := Option.some.inj H
 refine Ec.ret ?_
 refine Ret.mk rfl ?_
 exact ⟨rfl, hp4⟩

def gelfobj_Sound_L1 (N : Nat) (p0 : TObj) : Nat → Int → Option (LR Unit Bool)
  | 0, _ => none
  | m + 1, y111 => (cond (decide (y111 < ((p0.f_Syms.length : Nat) : Int))) (((atL p0.f_Syms y111).bind fun x195 => ((gelfobj_named N x195.f_Name).bind fun r204 => (cond ((((((((((!r204) || (decide (x195.f_Name = (ByteArray.mk #[])))) || (decide (x195.f_Bind < 0))) || (decide (x195.f_Bind > 2))) || (decide (x195.f_Type < 0))) || (decide (x195.f_Type > 15))) || (decide (x195.f_Sec < (-3)))) || (decide (x195.f_Sec ≥ ((p0.f_Secs.length : Nat) : Int)))) || (decide (x195.f_Value < 0))) || (decide (x195.f_Size < 0))) (some (.ret false)) ((((cond ((decide (y111 > 0)) && (x195.f_Bind == 0)) (((atL p0.f_Syms (IntKind.wrap .i64 (y111 - 1))).bind fun x265 => some (x265.f_Bind != 0))) (some false)) : Option (Bool)).bind fun x263 => (cond x263 (some (.ret false)) (gelfobj_Sound_L1 N p0 m (IntKind.wrap .i64 (y111 + 1)))))))))) (some (.out ())))

def gelfobj_Sound_L2 (N : Nat) (p0 : TObj) : Nat → Int → Option (LR Unit Bool)
  | 0, _ => none
  | m + 1, y344 => (cond (decide (y344 < ((p0.f_Rels.length : Nat) : Int))) (((atL p0.f_Rels y344).bind fun x408 => (((cond (decide (x408.f_Sec < 0)) (some true) ((cond (decide (x408.f_Sec ≥ ((p0.f_Secs.length : Nat) : Int))) (some true) ((cond (decide (x408.f_Off < 0)) (some true) (((atL p0.f_Secs x408.f_Sec).bind fun x434 => (cond (decide (x408.f_Off > x434.f_Size)) (some true) ((cond (decide (x408.f_Kind < 0)) (some true) ((cond (decide (x408.f_Kind > 2147483647)) (some true) ((cond (decide (x408.f_Sym < (-1))) (some true) (some (decide (x408.f_Sym ≥ ((p0.f_Syms.length : Nat) : Int)))))))))))))))))) : Option (Bool)).bind fun x430 => (cond x430 (some (.ret false)) ((((cond (decide (y344 > 0)) (((atL p0.f_Rels (IntKind.wrap .i64 (y344 - 1))).bind fun x456 => some (decide (x408.f_Sec < x456.f_Sec)))) (some false)) : Option (Bool)).bind fun x454 => (cond x454 (some (.ret false)) (gelfobj_Sound_L2 N p0 m (IntKind.wrap .i64 (y344 + 1)))))))))) (some (.out ())))

def gelfobj_Sound (n : Nat) (p0 : TObj) : Option (Bool) := (((cond ((decide (p0.f_Machine < 0)) || (decide (p0.f_Machine > 65535))) (some true) (((gslices_ContainsFunc_22_23 n p0.f_Secs).bind fun r21 => some r21))) : Option (Bool)).bind fun x19 => (cond x19 (some false) (((gelfobj_Sound_L1 n p0 n 0).bind fun v => match v with | .out _ => ((gelfobj_Sound_L2 n p0 n 0).bind fun v => match v with | .out _ => some true | .ret r475 => some r475) | .ret r478 => some r478))))

def gelfobj_Sound_post (R : List Res) (r : Bool) (x : A) (s : St) : Prop := x = (vB r) ∧ Hp s R

theorem gelfobj_Sound_ok {n : Nat} {p0 : TObj} {a1 : A} {a3 : A} {a5 : A} {R : List Res} {σ : St} (h2 : Sl rTSec a1 p0.f_Secs) (h4 : Sl rTSym a3 p0.f_Syms) (h6 : Sl rTReloc a5 p0.f_Rels) (hp : Hp σ R) {r : Bool} (H : gelfobj_Sound n p0 = some r) : Ca cfg 17 [(.agg [(vI p0.f_Machine), a1, a3, a5])] σ (gelfobj_Sound_post R r) := by
 unfold gelfobj_Sound at H
 refine Ca.enterL (G := [(0, (.agg [(vI p0.f_Machine), a1, a3, a5]))]) Try.func17 rfl rfl rfl rfl ?_
 refine Ec.seq ?_
 refine Ec.region ?_
 refine Eo.box hp rfl (by exact on rfl (on h2.isOne (on h4.isOne (on h6.isOne on0)))) rfl rfl rfl rfl rfl ?_
 intro b7 σ9 hp8
 refine V rfl ?_
 refine Eo.nil ?_
 refine Ec.seq ?_
 refine Ec.seq ?_
 refine Ec.region ?_
 refine V rfl ?_
 refine Eo.val (op_loadB hp8 0 rfl rfl rfl rfl) rfl rfl rfl ?_
 refine V rfl ?_
 refine V rfl ?_
 refine Eo.cutF 4 [(1, (.ptr b7 0)), (14, (vB ((decide (p0.f_Machine < 0)) || (decide (p0.f_Machine > 65535)))))] ?_ ?_
 {
 cases hc12 : (decide (p0.f_Machine < 0))
 {
 refine V rfl ?_
 refine Eo.val (op_loadB hp8 0 rfl rfl rfl rfl) rfl rfl rfl ?_
 refine V rfl ?_
 refine V rfl ?_
 exact Eo.nil (And.intro rfl (And.intro rfl (.cons rfl (.cons rfl (.nil')))))}
 {
 iterate 3 refine Eo.off rfl rfl rfl ?_
 refine V rfl ?_
 exact Eo.nil (And.intro rfl (And.intro rfl (.cons rfl (.cons rfl (.nil')))))}}
 {
 refine V rfl ?_
 obtain ⟨x19, hv482, H⟩ := bind_some H
 refine Eo.cutN 4 (J := (fun (x19 : Bool) (x : X) (φ : Fr) (s : St) => x = .normal ∧ (Hp s (.blk b7 (.cells [(vI p0.f_Machine), a1, a3, a5] 29) :: R) ∧ Fl [(1, (.ptr b7 0)), (19, (vB x19))] φ)) x19) ?_ ?_
 {
 have H := hv482
 cases hc20 : ((decide (p0.f_Machine < 0)) || (decide (p0.f_Machine > 65535)))
 {
 have H := cond_f hc20 H
 refine V rfl ?_
 refine Eo.val (op_loadB hp8 0 rfl rfl rfl rfl) rfl rfl rfl ?_
 obtain ⟨r21, hvr21, H⟩ := bind_some H
 refine Eo.call rfl rfl rfl rfl (gslices_ContainsFunc_22_23_ok h2 hp8 hvr21) ?_
 rintro _ σ23 ⟨rfl, hp22⟩
 refine V rfl ?_
 refine Eo.nil ?_
 obtain rfl := Option.some.inj H
 exact And.intro rfl ⟨hp22, (.cons rfl (.cons rfl (.nil')))⟩}
 {
 have H := cond_t hc20 H
 iterate 3 refine Eo.off rfl rfl rfl ?_
 refine V rfl ?_
 refine Eo.nil ?_
 obtain rfl := Option.some.inj H
 exact And.intro rfl ⟨hp8, (.cons rfl (.cons rfl (.nil')))⟩}}
 {
 intro x φ26 σ25 hJ
 obtain ⟨rfl, hp24, hf27⟩ := hJ
 refine ⟨rfl, Eo.of (F := [(1, (.ptr b7 0)), (19, (vB x19))]) hf27 ?_⟩
 refine Eo.nil ?_
 refine Ec.cond (t := x19) rfl (fun hc28 => ?_) (fun hc28 => ?_)
 {
 have H := cond_t hc28 H
 refine Ec.seq ?_
 refine Ec.region ?_
 refine V rfl ?_
 refine Eo.nil ?_
 obtain rfl := Option.some.inj H
 refine Ec.ret ?_
 refine Ret.mk rfl ?_
 exact ⟨rfl, (Hp.pick hp24 1 [] rfl)⟩}
 {
 have H := cond_f hc28 H
 refine Ec.skip ?_
 refine Ec.seq ?_
 refine Ec.seq ?_
 refine Ec.region ?_
 refine V rfl ?_
 refine Eo.val (op_loadB hp24 0 rfl rfl rfl rfl) rfl rfl rfl ?_
 refine Eo.val (op_lenL h4 rfl rfl rfl rfl rfl Try.underlying26) rfl rfl rfl ?_
 refine V rfl ?_
 refine Eo.nil ?_
 refine Ec.block ?_
 obtain ⟨v276, hv277, H⟩ := bind_some H
 refine Ec.cut (J := _) (Ec.weak (.cons rfl (.cons rfl (.cons rfl (.cons rfl (.nil'))))) (Ec.loopF (f := (fun m (i : Int × Unit) => gelfobj_Sound_L1 n p0 m i.1)) (G := (fun (i : Int × Unit) => ([(1, (.ptr b7 0)), (21, a3), (22, (vI ((p0.f_Syms.length : Nat) : Int))), (23, (vI i.1))] : List (Nat × A)))) (I := (fun (i : Int × Unit) (s : St) => Hp s (.blk b7 (.cells [(vI p0.f_Machine), a1, a3, a5] 29) :: R))) (J := (fun (v : LR Unit Bool) (x : X) (φ : Fr) (s : St) => match v with | .out _ => x = (.exit 0) ∧ (Hp s (.blk b7 (.cells [(vI p0.f_Machine), a1, a3, a5] 29) :: R) ∧ Fl [(1, (.ptr b7 0))] φ) | .ret r => x = .ret ∧ Ret cfg Try.f17 (gelfobj_Sound_post R r) .ret φ s)) (fun _ => rfl) ?_ n (0, ()) _ v276 hp24 hv277)) ?_
 {
 rintro m ⟨y111, _⟩ σ0 v hp0 H ih
 change gelfobj_Sound_L1 n p0 (m + 1) y111 = some v at H
 rw [gelfobj_Sound_L1] at H
 change Ec _ _ _ [(1, (.ptr b7 0)), (21, a3), (22, (vI ((p0.f_Syms.length : Nat) : Int))), (23, (vI y111))] σ0 _
 refine Ec.seq ?_
 refine Ec.region ?_
 refine V rfl ?_
 refine Eo.nil ?_
 refine Ec.seq ?_
 refine Ec.cond (t := (decide (y111 < ((p0.f_Syms.length : Nat) : Int)))) rfl (fun hc194 => ?_) (fun hc194 => ?_)
 {
 have H := cond_t hc194 H
 refine Ec.skip ?_
 refine Ec.seq ?_
 refine Ec.block ?_
 refine Ec.seq ?_
 refine Ec.region ?_
 refine V rfl ?_
 obtain ⟨x195, hvx195, H⟩ := bind_some H
 refine Eo.idx h4 hvx195 rfl rfl rfl Try.underlying26 rfl rfl rfl rfl ?_
 rintro cs196 p197 _ hat198 rfl
 refine Eo.val (op_loadSpAgg hat198 0 rfl rfl rfl rfl rfl rfl) rfl rfl rfl ?_
 refine Eo.alloc (z := [(vS (ByteArray.mk #[])), (vI 0), (vI 0), (vI 0), (vI 0), (vI 0)]) hp0 rfl rfl rfl rfl rfl ?_
 intro b199 σ201 hp200
 refine V rfl ?_
 refine Eo.store hp200 0 rfl (storeCells_mk rfl rfl rfl rfl rfl rfl) rfl rfl rfl rfl rfl ?_
 intro σ203 hp202
 refine Eo.nil ?_
 refine Ec.seq ?_
 refine Ec.seq ?_
 refine Ec.region ?_
 refine V rfl ?_
 refine Eo.val (op_loadB hp202 0 rfl rfl rfl rfl) rfl rfl rfl ?_
 obtain ⟨r204, hvr204, H⟩ := bind_some H
 refine Eo.call rfl rfl rfl rfl (gelfobj_named_ok hp202 hvr204) ?_
 rintro _ σ206 ⟨rfl, hp205⟩
 refine V rfl ?_
 refine V rfl ?_
 refine Eo.cutF 4 [(1, (.ptr b7 0)), (21, a3), (22, (vI ((p0.f_Syms.length : Nat) : Int))), (23, (vI y111)), (4, (.ptr b199 0)), (3, (vI y111)), (36, (vB ((!r204) || (decide (x195.f_Name = (ByteArray.mk #[]))))))] ?_ ?_
 {
 cases hc209 : (!r204)
 {
 refine V rfl ?_
 refine Eo.val (op_loadB hp205 0 rfl rfl rfl rfl) rfl rfl rfl ?_
 refine Eo.val (val_b rfl (seq_eq _ _)) rfl rfl rfl ?_
 refine V rfl ?_
 exact Eo.nil (And.intro rfl (And.intro rfl (.cons rfl (.cons rfl (.cons rfl (.cons rfl (.cons rfl (.cons rfl (.cons rfl (.nil'))))))))))}
 {
 iterate 3 refine Eo.off rfl rfl rfl ?_
 refine V rfl ?_
 exact Eo.nil (And.intro rfl (And.intro rfl (.cons rfl (.cons rfl (.cons rfl (.cons rfl (.cons rfl (.cons rfl (.cons rfl (.nil'))))))))))}}
 {
 refine V rfl ?_
 refine Eo.cutF 4 [(1, (.ptr b7 0)), (21, a3), (22, (vI ((p0.f_Syms.length : Nat) : Int))), (23, (vI y111)), (4, (.ptr b199 0)), (3, (vI y111)), (41, (vB (((!r204) || (decide (x195.f_Name = (ByteArray.mk #[])))) || (decide (x195.f_Bind < 0)))))] ?_ ?_
 {
 cases hc214 : ((!r204) || (decide (x195.f_Name = (ByteArray.mk #[]))))
 {
 refine V rfl ?_
 refine Eo.val (op_loadB hp205 0 rfl rfl rfl rfl) rfl rfl rfl ?_
 refine V rfl ?_
 refine V rfl ?_
 exact Eo.nil (And.intro rfl (And.intro rfl (.cons rfl (.cons rfl (.cons rfl (.cons rfl (.cons rfl (.cons rfl (.cons rfl (.nil'))))))))))}
 {
 iterate 3 refine Eo.off rfl rfl rfl ?_
 refine V rfl ?_
 exact Eo.nil (And.intro rfl (And.intro rfl (.cons rfl (.cons rfl (.cons rfl (.cons rfl (.cons rfl (.cons rfl (.cons rfl (.nil'))))))))))}}
 {
 refine V rfl ?_
 refine Eo.cutF 4 [(1, (.ptr b7 0)), (21, a3), (22, (vI ((p0.f_Syms.length : Nat) : Int))), (23, (vI y111)), (4, (.ptr b199 0)), (3, (vI y111)), (46, (vB ((((!r204) || (decide (x195.f_Name = (ByteArray.mk #[])))) || (decide (x195.f_Bind < 0))) || (decide (x195.f_Bind > 2)))))] ?_ ?_
 {
 cases hc219 : (((!r204) || (decide (x195.f_Name = (ByteArray.mk #[])))) || (decide (x195.f_Bind < 0)))
 {
 refine V rfl ?_
 refine Eo.val (op_loadB hp205 0 rfl rfl rfl rfl) rfl rfl rfl ?_
 refine V rfl ?_
 refine V rfl ?_
 exact Eo.nil (And.intro rfl (And.intro rfl (.cons rfl (.cons rfl (.cons rfl (.cons rfl (.cons rfl (.cons rfl (.cons rfl (.nil'))))))))))}
 {
 iterate 3 refine Eo.off rfl rfl rfl ?_
 refine V rfl ?_
 exact Eo.nil (And.intro rfl (And.intro rfl (.cons rfl (.cons rfl (.cons rfl (.cons rfl (.cons rfl (.cons rfl (.cons rfl (.nil'))))))))))}}
 {
 refine V rfl ?_
 refine Eo.cutF 4 [(1, (.ptr b7 0)), (21, a3), (22, (vI ((p0.f_Syms.length : Nat) : Int))), (23, (vI y111)), (4, (.ptr b199 0)), (3, (vI y111)), (51, (vB (((((!r204) || (decide (x195.f_Name = (ByteArray.mk #[])))) || (decide (x195.f_Bind < 0))) || (decide (x195.f_Bind > 2))) || (decide (x195.f_Type < 0)))))] ?_ ?_
 {
 cases hc224 : ((((!r204) || (decide (x195.f_Name = (ByteArray.mk #[])))) || (decide (x195.f_Bind < 0))) || (decide (x195.f_Bind > 2)))
 {
 refine V rfl ?_
 refine Eo.val (op_loadB hp205 0 rfl rfl rfl rfl) rfl rfl rfl ?_
 refine V rfl ?_
 refine V rfl ?_
 exact Eo.nil (And.intro rfl (And.intro rfl (.cons rfl (.cons rfl (.cons rfl (.cons rfl (.cons rfl (.cons rfl (.cons rfl (.nil'))))))))))}
 {
 iterate 3 refine Eo.off rfl rfl rfl ?_
 refine V rfl ?_
 exact Eo.nil (And.intro rfl (And.intro rfl (.cons rfl (.cons rfl (.cons rfl (.cons rfl (.cons rfl (.cons rfl (.cons rfl (.nil'))))))))))}}
 {
 refine V rfl ?_
 refine Eo.cutF 4 [(1, (.ptr b7 0)), (21, a3), (22, (vI ((p0.f_Syms.length : Nat) : Int))), (23, (vI y111)), (4, (.ptr b199 0)), (3, (vI y111)), (56, (vB ((((((!r204) || (decide (x195.f_Name = (ByteArray.mk #[])))) || (decide (x195.f_Bind < 0))) || (decide (x195.f_Bind > 2))) || (decide (x195.f_Type < 0))) || (decide (x195.f_Type > 15)))))] ?_ ?_
 {
 cases hc229 : (((((!r204) || (decide (x195.f_Name = (ByteArray.mk #[])))) || (decide (x195.f_Bind < 0))) || (decide (x195.f_Bind > 2))) || (decide (x195.f_Type < 0)))
 {
 refine V rfl ?_
 refine Eo.val (op_loadB hp205 0 rfl rfl rfl rfl) rfl rfl rfl ?_
 refine V rfl ?_
 refine V rfl ?_
 exact Eo.nil (And.intro rfl (And.intro rfl (.cons rfl (.cons rfl (.cons rfl (.cons rfl (.cons rfl (.cons rfl (.cons rfl (.nil'))))))))))}
 {
 iterate 3 refine Eo.off rfl rfl rfl ?_
 refine V rfl ?_
 exact Eo.nil (And.intro rfl (And.intro rfl (.cons rfl (.cons rfl (.cons rfl (.cons rfl (.cons rfl (.cons rfl (.cons rfl (.nil'))))))))))}}
 {
 refine V rfl ?_
 refine Eo.cutF 4 [(1, (.ptr b7 0)), (21, a3), (22, (vI ((p0.f_Syms.length : Nat) : Int))), (23, (vI y111)), (4, (.ptr b199 0)), (3, (vI y111)), (61, (vB (((((((!r204) || (decide (x195.f_Name = (ByteArray.mk #[])))) || (decide (x195.f_Bind < 0))) || (decide (x195.f_Bind > 2))) || (decide (x195.f_Type < 0))) || (decide (x195.f_Type > 15))) || (decide (x195.f_Sec < (-3))))))] ?_ ?_
 {
 cases hc234 : ((((((!r204) || (decide (x195.f_Name = (ByteArray.mk #[])))) || (decide (x195.f_Bind < 0))) || (decide (x195.f_Bind > 2))) || (decide (x195.f_Type < 0))) || (decide (x195.f_Type > 15)))
 {
 refine V rfl ?_
 refine Eo.val (op_loadB hp205 0 rfl rfl rfl rfl) rfl rfl rfl ?_
 refine V rfl ?_
 refine V rfl ?_
 exact Eo.nil (And.intro rfl (And.intro rfl (.cons rfl (.cons rfl (.cons rfl (.cons rfl (.cons rfl (.cons rfl (.cons rfl (.nil'))))))))))}
 {
 iterate 3 refine Eo.off rfl rfl rfl ?_
 refine V rfl ?_
 exact Eo.nil (And.intro rfl (And.intro rfl (.cons rfl (.cons rfl (.cons rfl (.cons rfl (.cons rfl (.cons rfl (.cons rfl (.nil'))))))))))}}
 {
 refine V rfl ?_
 refine Eo.cutF 7 [(1, (.ptr b7 0)), (21, a3), (22, (vI ((p0.f_Syms.length : Nat) : Int))), (23, (vI y111)), (4, (.ptr b199 0)), (3, (vI y111)), (69, (vB ((((((((!r204) || (decide (x195.f_Name = (ByteArray.mk #[])))) || (decide (x195.f_Bind < 0))) || (decide (x195.f_Bind > 2))) || (decide (x195.f_Type < 0))) || (decide (x195.f_Type > 15))) || (decide (x195.f_Sec < (-3)))) || (decide (x195.f_Sec ≥ ((p0.f_Secs.length : Nat) : Int))))))] ?_ ?_
 {
 cases hc239 : (((((((!r204) || (decide (x195.f_Name = (ByteArray.mk #[])))) || (decide (x195.f_Bind < 0))) || (decide (x195.f_Bind > 2))) || (decide (x195.f_Type < 0))) || (decide (x195.f_Type > 15))) || (decide (x195.f_Sec < (-3))))
 {
 refine V rfl ?_
 refine Eo.val (op_loadB hp205 0 rfl rfl rfl rfl) rfl rfl rfl ?_
 refine V rfl ?_
 refine Eo.val (op_loadB hp205 1 rfl rfl rfl rfl) rfl rfl rfl ?_
 refine Eo.val (op_lenL h2 rfl rfl rfl rfl rfl Try.underlying25) rfl rfl rfl ?_
 refine V rfl ?_
 refine V rfl ?_
 exact Eo.nil (And.intro rfl (And.intro rfl (.cons rfl (.cons rfl (.cons rfl (.cons rfl (.cons rfl (.cons rfl (.cons rfl (.nil'))))))))))}
 {
 iterate 6 refine Eo.off rfl rfl rfl ?_
 refine V rfl ?_
 exact Eo.nil (And.intro rfl (And.intro rfl (.cons rfl (.cons rfl (.cons rfl (.cons rfl (.cons rfl (.cons rfl (.cons rfl (.nil'))))))))))}}
 {
 refine V rfl ?_
 refine Eo.cutF 4 [(1, (.ptr b7 0)), (21, a3), (22, (vI ((p0.f_Syms.length : Nat) : Int))), (23, (vI y111)), (4, (.ptr b199 0)), (3, (vI y111)), (74, (vB (((((((((!r204) || (decide (x195.f_Name = (ByteArray.mk #[])))) || (decide (x195.f_Bind < 0))) || (decide (x195.f_Bind > 2))) || (decide (x195.f_Type < 0))) || (decide (x195.f_Type > 15))) || (decide (x195.f_Sec < (-3)))) || (decide (x195.f_Sec ≥ ((p0.f_Secs.length : Nat) : Int)))) || (decide (x195.f_Value < 0)))))] ?_ ?_
 {
 cases hc244 : ((((((((!r204) || (decide (x195.f_Name = (ByteArray.mk #[])))) || (decide (x195.f_Bind < 0))) || (decide (x195.f_Bind > 2))) || (decide (x195.f_Type < 0))) || (decide (x195.f_Type > 15))) || (decide (x195.f_Sec < (-3)))) || (decide (x195.f_Sec ≥ ((p0.f_Secs.length : Nat) : Int))))
 {
 refine V rfl ?_
 refine Eo.val (op_loadB hp205 0 rfl rfl rfl rfl) rfl rfl rfl ?_
 refine V rfl ?_
 refine V rfl ?_
 exact Eo.nil (And.intro rfl (And.intro rfl (.cons rfl (.cons rfl (.cons rfl (.cons rfl (.cons rfl (.cons rfl (.cons rfl (.nil'))))))))))}
 {
 iterate 3 refine Eo.off rfl rfl rfl ?_
 refine V rfl ?_
 exact Eo.nil (And.intro rfl (And.intro rfl (.cons rfl (.cons rfl (.cons rfl (.cons rfl (.cons rfl (.cons rfl (.cons rfl (.nil'))))))))))}}
 {
 refine V rfl ?_
 refine Eo.cutF 4 [(1, (.ptr b7 0)), (21, a3), (22, (vI ((p0.f_Syms.length : Nat) : Int))), (23, (vI y111)), (4, (.ptr b199 0)), (3, (vI y111)), (79, (vB ((((((((((!r204) || (decide (x195.f_Name = (ByteArray.mk #[])))) || (decide (x195.f_Bind < 0))) || (decide (x195.f_Bind > 2))) || (decide (x195.f_Type < 0))) || (decide (x195.f_Type > 15))) || (decide (x195.f_Sec < (-3)))) || (decide (x195.f_Sec ≥ ((p0.f_Secs.length : Nat) : Int)))) || (decide (x195.f_Value < 0))) || (decide (x195.f_Size < 0)))))] ?_ ?_
 {
 cases hc249 : (((((((((!r204) || (decide (x195.f_Name = (ByteArray.mk #[])))) || (decide (x195.f_Bind < 0))) || (decide (x195.f_Bind > 2))) || (decide (x195.f_Type < 0))) || (decide (x195.f_Type > 15))) || (decide (x195.f_Sec < (-3)))) || (decide (x195.f_Sec ≥ ((p0.f_Secs.length : Nat) : Int)))) || (decide (x195.f_Value < 0)))
 {
 refine V rfl ?_
 refine Eo.val (op_loadB hp205 0 rfl rfl rfl rfl) rfl rfl rfl ?_
 refine V rfl ?_
 refine V rfl ?_
 exact Eo.nil (And.intro rfl (And.intro rfl (.cons rfl (.cons rfl (.cons rfl (.cons rfl (.cons rfl (.cons rfl (.cons rfl (.nil'))))))))))}
 {
 iterate 3 refine Eo.off rfl rfl rfl ?_
 refine V rfl ?_
 exact Eo.nil (And.intro rfl (And.intro rfl (.cons rfl (.cons rfl (.cons rfl (.cons rfl (.cons rfl (.cons rfl (.cons rfl (.nil'))))))))))}}
 {
 refine Eo.nil ?_
 refine Ec.cond (t := ((((((((((!r204) || (decide (x195.f_Name = (ByteArray.mk #[])))) || (decide (x195.f_Bind < 0))) || (decide (x195.f_Bind > 2))) || (decide (x195.f_Type < 0))) || (decide (x195.f_Type > 15))) || (decide (x195.f_Sec < (-3)))) || (decide (x195.f_Sec ≥ ((p0.f_Secs.length : Nat) : Int)))) || (decide (x195.f_Value < 0))) || (decide (x195.f_Size < 0)))) rfl (fun hc252 => ?_) (fun hc252 => ?_)
 {
 have H := cond_t hc252 H
 refine Ec.seq ?_
 refine Ec.region ?_
 refine V rfl ?_
 refine Eo.nil ?_
 obtain rfl := Option.some.inj H
 refine Ec.ret ?_
 refine And.intro rfl (Ret.mk rfl ?_)
 exact ⟨rfl, (Hp.pick hp205 2 [] rfl)⟩}
 {
 have H := cond_f hc252 H
 refine Ec.skip ?_
 refine Ec.seq ?_
 refine Ec.region ?_
 iterate 3 refine V rfl ?_
 refine Eo.cutF 4 [(1, (.ptr b7 0)), (21, a3), (22, (vI ((p0.f_Syms.length : Nat) : Int))), (23, (vI y111)), (3, (vI y111)), (86, (vB ((decide (y111 > 0)) && (x195.f_Bind == 0))))] ?_ ?_
 {
 cases hc255 : (decide (y111 > 0))
 {
 iterate 3 refine Eo.off rfl rfl rfl ?_
 refine V rfl ?_
 exact Eo.nil (And.intro rfl (And.intro rfl (.cons rfl (.cons rfl (.cons rfl (.cons rfl (.cons rfl (.cons rfl (.nil')))))))))}
 {
 refine V rfl ?_
 refine Eo.val (op_loadB hp205 0 rfl rfl rfl rfl) rfl rfl rfl ?_
 refine V rfl ?_
 refine V rfl ?_
 exact Eo.nil (And.intro rfl (And.intro rfl (.cons rfl (.cons rfl (.cons rfl (.cons rfl (.cons rfl (.cons rfl (.nil')))))))))}}
 {
 refine V rfl ?_
 obtain ⟨x263, hv275, H⟩ := bind_some H
 refine Eo.cutN 9 (J := (fun (x263 : Bool) (x : X) (φ : Fr) (s : St) => x = .normal ∧ (Hp s (.blk b7 (.cells [(vI p0.f_Machine), a1, a3, a5] 29) :: R) ∧ Fl [(1, (.ptr b7 0)), (21, a3), (22, (vI ((p0.f_Syms.length : Nat) : Int))), (23, (vI y111)), (96, (vB x263))] φ)) x263) ?_ ?_
 {
 have H := hv275
 cases hc264 : ((decide (y111 > 0)) && (x195.f_Bind == 0))
 {
 have H := cond_f hc264 H
 iterate 8 refine Eo.off rfl rfl rfl ?_
 refine V rfl ?_
 refine Eo.nil ?_
 obtain rfl := Option.some.inj H
 exact And.intro rfl ⟨(Hp.pick hp205 1 [] rfl), (.cons rfl (.cons rfl (.cons rfl (.cons rfl (.cons rfl (.nil'))))))⟩}
 {
 have H := cond_t hc264 H
 refine V rfl ?_
 refine Eo.val (op_loadB hp205 1 rfl rfl rfl rfl) rfl rfl rfl ?_
 refine V rfl ?_
 refine V rfl ?_
 obtain ⟨x265, hvx265, H⟩ := bind_some H
 refine Eo.idx h4 hvx265 rfl rfl rfl Try.underlying26 rfl rfl rfl rfl ?_
 rintro cs266 p267 _ hat268 rfl
 refine V rfl ?_
 refine Eo.val (op_loadSp hat268 1 rfl rfl rfl rfl rfl) rfl rfl rfl ?_
 refine V rfl ?_
 refine V rfl ?_
 refine Eo.nil ?_
 obtain rfl := Option.some.inj H
 exact And.intro rfl ⟨(Hp.pick hp205 1 [] rfl), (.cons rfl (.cons rfl (.cons rfl (.cons rfl (.cons rfl (.nil'))))))⟩}}
 {
 intro x φ271 σ270 hJ
 obtain ⟨rfl, hp269, hf272⟩ := hJ
 refine ⟨rfl, Eo.of (F := [(1, (.ptr b7 0)), (21, a3), (22, (vI ((p0.f_Syms.length : Nat) : Int))), (23, (vI y111)), (96, (vB x263))]) hf272 ?_⟩
 refine Eo.nil ?_
 refine Ec.cond (t := x263) rfl (fun hc273 => ?_) (fun hc273 => ?_)
 {
 have H := cond_t hc273 H
 refine Ec.seq ?_
 refine Ec.region ?_
 refine V rfl ?_
 refine Eo.nil ?_
 obtain rfl := Option.some.inj H
 refine Ec.ret ?_
 refine And.intro rfl (Ret.mk rfl ?_)
 exact ⟨rfl, (Hp.pick hp269 1 [] rfl)⟩}
 {
 have H := cond_f hc273 H
 refine Ec.skip ?_
 refine Ec.region ?_
 refine V rfl ?_
 refine V rfl ?_
 refine Eo.nil ?_
 exact Ec.of (.cons rfl (.cons rfl (.cons rfl (.cons rfl (.nil'))))) (ih ((IntKind.wrap .i64 (y111 + 1)), ()) _ hp269 H)}}}}}}}}}}}}}}
 {
 have H := cond_f hc194 H
 refine Ec.exit ?_
 obtain rfl := Option.some.inj H
 exact And.intro rfl ⟨hp0, (.cons rfl (.nil'))⟩}}
 {
 rcases v276 with _ | r478
 {
 intro x φ280 σ279 hJ
 obtain ⟨rfl, hp278, hf281⟩ := hJ
 refine Ec.of (F := [(1, (.ptr b7 0))]) hf281 ?_
 refine Ec.seq ?_
 refine Ec.seq ?_
 refine Ec.region ?_
 refine V rfl ?_
 refine Eo.val (op_loadB hp278 0 rfl rfl rfl rfl) rfl rfl rfl ?_
 refine Eo.val (op_lenL h6 rfl rfl rfl rfl rfl Try.underlying27) rfl rfl rfl ?_
 refine V rfl ?_
 refine Eo.nil ?_
 refine Ec.block ?_
 obtain ⟨v469, hv470, H⟩ := bind_some H
 refine Ec.cut (J := _) (Ec.weak (.cons rfl (.cons rfl (.cons rfl (.cons rfl (.nil'))))) (Ec.loopF (f := (fun m (i : Int × Unit) => gelfobj_Sound_L2 n p0 m i.1)) (G := (fun (i : Int × Unit) => ([(1, (.ptr b7 0)), (99, a5), (100, (vI ((p0.f_Rels.length : Nat) : Int))), (101, (vI i.1))] : List (Nat × A)))) (I := (fun (i : Int × Unit) (s : St) => Hp s (.blk b7 (.cells [(vI p0.f_Machine), a1, a3, a5] 29) :: R))) (J := (fun (v : LR Unit Bool) (x : X) (φ : Fr) (s : St) => match v with | .out _ => x = (.exit 2) ∧ (Hp s R ∧ Fl [] φ) | .ret r => x = .ret ∧ Ret cfg Try.f17 (gelfobj_Sound_post R r) .ret φ s)) (fun _ => rfl) ?_ n (0, ()) _ v469 hp278 hv470)) ?_
 {
 rintro m ⟨y344, _⟩ σ0 v hp0 H ih
 change gelfobj_Sound_L2 n p0 (m + 1) y344 = some v at H
 rw [gelfobj_Sound_L2] at H
 change Ec _ _ _ [(1, (.ptr b7 0)), (99, a5), (100, (vI ((p0.f_Rels.length : Nat) : Int))), (101, (vI y344))] σ0 _
 refine Ec.seq ?_
 refine Ec.region ?_
 refine V rfl ?_
 refine Eo.nil ?_
 refine Ec.seq ?_
 refine Ec.cond (t := (decide (y344 < ((p0.f_Rels.length : Nat) : Int)))) rfl (fun hc407 => ?_) (fun hc407 => ?_)
 {
 have H := cond_t hc407 H
 refine Ec.skip ?_
 refine Ec.seq ?_
 refine Ec.block ?_
 refine Ec.seq ?_
 refine Ec.region ?_
 refine V rfl ?_
 obtain ⟨x408, hvx408, H⟩ := bind_some H
 refine Eo.idx h6 hvx408 rfl rfl rfl Try.underlying27 rfl rfl rfl rfl ?_
 rintro cs409 p410 _ hat411 rfl
 refine Eo.val (op_loadSpAgg hat411 0 rfl rfl rfl rfl rfl rfl) rfl rfl rfl ?_
 refine Eo.alloc (z := [(vI 0), (vI 0), (vI 0), (vI 0), (vI 0)]) hp0 rfl rfl rfl rfl rfl ?_
 intro b412 σ414 hp413
 refine V rfl ?_
 refine Eo.store hp413 0 rfl (storeCells_mk rfl rfl rfl rfl rfl rfl) rfl rfl rfl rfl rfl ?_
 intro σ416 hp415
 refine Eo.nil ?_
 refine Ec.seq ?_
 refine Ec.seq ?_
 obtain ⟨x430, hv468, H⟩ := bind_some H
 refine Ec.cut (J := (fun (x430 : Bool) (x : X) (φ : Fr) (s : St) => x = .normal ∧ (Hp s (.blk b7 (.cells [(vI p0.f_Machine), a1, a3, a5] 29) :: .blk b412 (.cells [(vI x408.f_Sec), (vI x408.f_Off), (vI x408.f_Kind), (vI x408.f_Sym), (vI x408.f_Add)] 72) :: R) ∧ Fl [(1, (.ptr b7 0)), (5, (vI y344)), (6, (.ptr b412 0)), (99, a5), (100, (vI ((p0.f_Rels.length : Nat) : Int))), (101, (vI y344)), (156, (vB x430))] φ)) x430) ?_ ?_
 {
 have H := hv468
 refine Ec.drawn2 (by kernel_rfl) ?_
 refine V rfl ?_
 refine Eo.val (op_loadB hp415 0 rfl rfl rfl rfl) rfl rfl rfl ?_
 refine V rfl ?_
 refine V rfl ?_
 cases hc431 : (decide (x408.f_Sec < 0))
 {
 have H := cond_f hc431 H
 refine V rfl ?_
 refine Eo.val (op_loadB hp415 0 rfl rfl rfl rfl) rfl rfl rfl ?_
 refine V rfl ?_
 refine Eo.val (op_loadB hp415 1 rfl rfl rfl rfl) rfl rfl rfl ?_
 refine Eo.val (op_lenL h2 rfl rfl rfl rfl rfl Try.underlying25) rfl rfl rfl ?_
 iterate 3 refine V rfl ?_
 cases hc432 : (decide (x408.f_Sec ≥ ((p0.f_Secs.length : Nat) : Int)))
 {
 have H := cond_f hc432 H
 refine V rfl ?_
 refine Eo.val (op_loadB hp415 0 rfl rfl rfl rfl) rfl rfl rfl ?_
 iterate 3 refine V rfl ?_
 cases hc433 : (decide (x408.f_Off < 0))
 {
 have H := cond_f hc433 H
 refine V rfl ?_
 refine Eo.val (op_loadB hp415 0 rfl rfl rfl rfl) rfl rfl rfl ?_
 refine V rfl ?_
 refine Eo.val (op_loadB hp415 1 rfl rfl rfl rfl) rfl rfl rfl ?_
 refine V rfl ?_
 refine Eo.val (op_loadB hp415 0 rfl rfl rfl rfl) rfl rfl rfl ?_
 obtain ⟨x434, hvx434, H⟩ := bind_some H
 refine Eo.idx h2 hvx434 rfl rfl rfl Try.underlying25 rfl rfl rfl rfl ?_
 rintro cs435 p436 _ hat437 ⟨a438, rfl, h439⟩
 refine V rfl ?_
 refine Eo.val (op_loadSp hat437 4 rfl rfl rfl rfl rfl) rfl rfl rfl ?_
 iterate 3 refine V rfl ?_
 cases hc440 : (decide (x408.f_Off > x434.f_Size))
 {
 have H := cond_f hc440 H
 refine V rfl ?_
 refine Eo.val (op_loadB hp415 0 rfl rfl rfl rfl) rfl rfl rfl ?_
 iterate 3 refine V rfl ?_
 cases hc441 : (decide (x408.f_Kind < 0))
 {
 have H := cond_f hc441 H
 refine V rfl ?_
 refine Eo.val (op_loadB hp415 0 rfl rfl rfl rfl) rfl rfl rfl ?_
 iterate 3 refine V rfl ?_
 cases hc442 : (decide (x408.f_Kind > 2147483647))
 {
 have H := cond_f hc442 H
 refine V rfl ?_
 refine Eo.val (op_loadB hp415 0 rfl rfl rfl rfl) rfl rfl rfl ?_
 iterate 3 refine V rfl ?_
 cases hc443 : (decide (x408.f_Sym < (-1)))
 {
 have H := cond_f hc443 H
 refine V rfl ?_
 refine Eo.val (op_loadB hp415 0 rfl rfl rfl rfl) rfl rfl rfl ?_
 refine V rfl ?_
 refine Eo.val (op_loadB hp415 1 rfl rfl rfl rfl) rfl rfl rfl ?_
 refine Eo.val (op_lenL h4 rfl rfl rfl rfl rfl Try.underlying26) rfl rfl rfl ?_
 refine V rfl ?_
 refine V rfl ?_
 refine Eo.nil ?_
 obtain rfl := Option.some.inj H
 exact And.intro rfl (And.intro rfl ⟨(Hp.pick hp415 2 [1, 0] rfl), (.cons rfl (.cons rfl (.cons rfl (.cons rfl (.cons rfl (.cons rfl (.cons rfl (.nil'))))))))⟩)}
 {
 have H := cond_t hc443 H
 iterate 6 refine Eo.off rfl rfl rfl ?_
 refine V rfl ?_
 refine Eo.nil ?_
 obtain rfl := Option.some.inj H
 exact And.intro rfl (And.intro rfl ⟨(Hp.pick hp415 2 [1, 0] rfl), (.cons rfl (.cons rfl (.cons rfl (.cons rfl (.cons rfl (.cons rfl (.cons rfl (.nil'))))))))⟩)}}
 {
 have H := cond_t hc442 H
 iterate 3 refine Eo.off rfl rfl rfl ?_
 refine V rfl ?_
 refine V rfl ?_
 iterate 6 refine Eo.off rfl rfl rfl ?_
 refine V rfl ?_
 refine Eo.nil ?_
 obtain rfl := Option.some.inj H
 exact And.intro rfl (And.intro rfl ⟨(Hp.pick hp415 2 [1, 0] rfl), (.cons rfl (.cons rfl (.cons rfl (.cons rfl (.cons rfl (.cons rfl (.cons rfl (.nil'))))))))⟩)}}
 {
 have H := cond_t hc441 H
 iterate 3 refine Eo.off rfl rfl rfl ?_
 refine V rfl ?_
 refine V rfl ?_
 iterate 3 refine Eo.off rfl rfl rfl ?_
 refine V rfl ?_
 refine V rfl ?_
 iterate 6 refine Eo.off rfl rfl rfl ?_
 refine V rfl ?_
 refine Eo.nil ?_
 obtain rfl := Option.some.inj H
 exact And.intro rfl (And.intro rfl ⟨(Hp.pick hp415 2 [1, 0] rfl), (.cons rfl (.cons rfl (.cons rfl (.cons rfl (.cons rfl (.cons rfl (.cons rfl (.nil'))))))))⟩)}}
 {
 have H := cond_t hc440 H
 iterate 3 refine Eo.off rfl rfl rfl ?_
 refine V rfl ?_
 refine V rfl ?_
 iterate 3 refine Eo.off rfl rfl rfl ?_
 refine V rfl ?_
 refine V rfl ?_
 iterate 3 refine Eo.off rfl rfl rfl ?_
 refine V rfl ?_
 refine V rfl ?_
 iterate 6 refine Eo.off rfl rfl rfl ?_
 refine V rfl ?_
 refine Eo.nil ?_
 obtain rfl := Option.some.inj H
 exact And.intro rfl (And.intro rfl ⟨(Hp.pick hp415 2 [1, 0] rfl), (.cons rfl (.cons rfl (.cons rfl (.cons rfl (.cons rfl (.cons rfl (.cons rfl (.nil'))))))))⟩)}}
 {
 have H := cond_t hc433 H
 iterate 10 refine Eo.off rfl rfl rfl ?_
 refine V rfl ?_
 refine V rfl ?_
 iterate 3 refine Eo.off rfl rfl rfl ?_
 refine V rfl ?_
 refine V rfl ?_
 iterate 3 refine Eo.off rfl rfl rfl ?_
 refine V rfl ?_
 refine V rfl ?_
 iterate 3 refine Eo.off rfl rfl rfl ?_
 refine V rfl ?_
 refine V rfl ?_
 iterate 6 refine Eo.off rfl rfl rfl ?_
 refine V rfl ?_
 refine Eo.nil ?_
 obtain rfl := Option.some.inj H
 exact And.intro rfl (And.intro rfl ⟨(Hp.pick hp415 2 [1, 0] rfl), (.cons rfl (.cons rfl (.cons rfl (.cons rfl (.cons rfl (.cons rfl (.cons rfl (.nil'))))))))⟩)}}
 {
 have H := cond_t hc432 H
 iterate 3 refine Eo.off rfl rfl rfl ?_
 refine V rfl ?_
 refine V rfl ?_
 iterate 10 refine Eo.off rfl rfl rfl ?_
 refine V rfl ?_
 refine V rfl ?_
 iterate 3 refine Eo.off rfl rfl rfl ?_
 refine V rfl ?_
 refine V rfl ?_
 iterate 3 refine Eo.off rfl rfl rfl ?_
 refine V rfl ?_
 refine V rfl ?_
 iterate 3 refine Eo.off rfl rfl rfl ?_
 refine V rfl ?_
 refine V rfl ?_
 iterate 6 refine Eo.off rfl rfl rfl ?_
 refine V rfl ?_
 refine Eo.nil ?_
 obtain rfl := Option.some.inj H
 exact And.intro rfl (And.intro rfl ⟨(Hp.pick hp415 2 [1, 0] rfl), (.cons rfl (.cons rfl (.cons rfl (.cons rfl (.cons rfl (.cons rfl (.cons rfl (.nil'))))))))⟩)}}
 {
 have H := cond_t hc431 H
 iterate 6 refine Eo.off rfl rfl rfl ?_
 refine V rfl ?_
 refine V rfl ?_
 iterate 3 refine Eo.off rfl rfl rfl ?_
 refine V rfl ?_
 refine V rfl ?_
 iterate 10 refine Eo.off rfl rfl rfl ?_
 refine V rfl ?_
 refine V rfl ?_
 iterate 3 refine Eo.off rfl rfl rfl ?_
 refine V rfl ?_
 refine V rfl ?_
 iterate 3 refine Eo.off rfl rfl rfl ?_
 refine V rfl ?_
 refine V rfl ?_
 iterate 3 refine Eo.off rfl rfl rfl ?_
 refine V rfl ?_
 refine V rfl ?_
 iterate 6 refine Eo.off rfl rfl rfl ?_
 refine V rfl ?_
 refine Eo.nil ?_
 obtain rfl := Option.some.inj H
 exact And.intro rfl (And.intro rfl ⟨(Hp.pick hp415 2 [1, 0] rfl), (.cons rfl (.cons rfl (.cons rfl (.cons rfl (.cons rfl (.cons rfl (.cons rfl (.nil'))))))))⟩)}}
 {
 intro x φ446 σ445 hJ
 obtain ⟨rfl, hp444, hf447⟩ := hJ
 refine Ec.of (F := [(1, (.ptr b7 0)), (5, (vI y344)), (6, (.ptr b412 0)), (99, a5), (100, (vI ((p0.f_Rels.length : Nat) : Int))), (101, (vI y344)), (156, (vB x430))]) hf447 ?_
 refine Ec.cond (t := x430) rfl (fun hc448 => ?_) (fun hc448 => ?_)
 {
 have H := cond_t hc448 H
 refine Ec.seq ?_
 refine Ec.region ?_
 refine V rfl ?_
 refine Eo.nil ?_
 obtain rfl := Option.some.inj H
 refine Ec.ret ?_
 refine And.intro rfl (Ret.mk rfl ?_)
 exact ⟨rfl, (Hp.pick hp444 2 [] rfl)⟩}
 {
 have H := cond_f hc448 H
 refine Ec.skip ?_
 refine Ec.seq ?_
 obtain ⟨x454, hv466, H⟩ := bind_some H
 refine Ec.cut (J := (fun (x454 : Bool) (x : X) (φ : Fr) (s : St) => x = .normal ∧ (Hp s (.blk b7 (.cells [(vI p0.f_Machine), a1, a3, a5] 29) :: R) ∧ Fl [(1, (.ptr b7 0)), (99, a5), (100, (vI ((p0.f_Rels.length : Nat) : Int))), (101, (vI y344)), (170, (vB x454))] φ)) x454) ?_ ?_
 {
 have H := hv466
 refine Ec.drawn2 (by kernel_rfl) ?_
 iterate 3 refine V rfl ?_
 cases hc455 : (decide (y344 > 0))
 {
 have H := cond_f hc455 H
 iterate 10 refine Eo.off rfl rfl rfl ?_
 refine V rfl ?_
 refine Eo.nil ?_
 obtain rfl := Option.some.inj H
 exact And.intro rfl (And.intro rfl ⟨(Hp.pick hp444 2 [0] rfl), (.cons rfl (.cons rfl (.cons rfl (.cons rfl (.cons rfl (.nil'))))))⟩)}
 {
 have H := cond_t hc455 H
 refine V rfl ?_
 refine Eo.val (op_loadB hp444 1 rfl rfl rfl rfl) rfl rfl rfl ?_
 refine V rfl ?_
 refine Eo.val (op_loadB hp444 0 rfl rfl rfl rfl) rfl rfl rfl ?_
 refine V rfl ?_
 refine V rfl ?_
 obtain ⟨x456, hvx456, H⟩ := bind_some H
 refine Eo.idx h6 hvx456 rfl rfl rfl Try.underlying27 rfl rfl rfl rfl ?_
 rintro cs457 p458 _ hat459 rfl
 refine V rfl ?_
 refine Eo.val (op_loadSp hat459 0 rfl rfl rfl rfl rfl) rfl rfl rfl ?_
 refine V rfl ?_
 refine V rfl ?_
 refine Eo.nil ?_
 obtain rfl := Option.some.inj H
 exact And.intro rfl (And.intro rfl ⟨(Hp.pick hp444 2 [0] rfl), (.cons rfl (.cons rfl (.cons rfl (.cons rfl (.cons rfl (.nil'))))))⟩)}}
 {
 intro x φ462 σ461 hJ
 obtain ⟨rfl, hp460, hf463⟩ := hJ
 refine Ec.of (F := [(1, (.ptr b7 0)), (99, a5), (100, (vI ((p0.f_Rels.length : Nat) : Int))), (101, (vI y344)), (170, (vB x454))]) hf463 ?_
 refine Ec.cond (t := x454) rfl (fun hc464 => ?_) (fun hc464 => ?_)
 {
 have H := cond_t hc464 H
 refine Ec.seq ?_
 refine Ec.region ?_
 refine V rfl ?_
 refine Eo.nil ?_
 obtain rfl := Option.some.inj H
 refine Ec.ret ?_
 refine And.intro rfl (Ret.mk rfl ?_)
 exact ⟨rfl, (Hp.pick hp460 1 [] rfl)⟩}
 {
 have H := cond_f hc464 H
 refine Ec.skip ?_
 refine Ec.region ?_
 refine V rfl ?_
 refine V rfl ?_
 refine Eo.nil ?_
 exact Ec.of (.cons rfl (.cons rfl (.cons rfl (.cons rfl (.nil'))))) (ih ((IntKind.wrap .i64 (y344 + 1)), ()) _ hp460 H)}}}}}
 {
 have H := cond_f hc407 H
 refine Ec.exit ?_
 obtain rfl := Option.some.inj H
 exact And.intro rfl ⟨(Hp.pick hp0 1 [] rfl), (.nil')⟩}}
 {
 rcases v469 with _ | r475
 {
 intro x φ473 σ472 hJ
 obtain ⟨rfl, hp471, hf474⟩ := hJ
 refine Ec.of (F := []) hf474 ?_
 refine Ec.seq ?_
 refine Ec.region ?_
 refine V rfl ?_
 refine Eo.nil ?_
 obtain rfl := Option.some.inj H
 refine Ec.ret ?_
 refine Ret.mk rfl ?_
 exact ⟨rfl, hp471⟩}
 {
 intro x φ476 σ477 hJ
 obtain rfl := Option.some.inj H
 obtain ⟨rfl, hr⟩ := hJ
 exact hr}}}
 {
 intro x φ479 σ480 hJ
 obtain rfl := Option.some.inj H
 obtain ⟨rfl, hr⟩ := hJ
 exact hr}}}}}

def gresolve_defined (_n : Nat) (p0 : TSym) : Option (Bool) := some ((decide (p0.f_Sec ≥ 0)) || (p0.f_Sec == (-2)))

def gresolve_defined_post (R : List Res) (r : Bool) (x : A) (s : St) : Prop := x = (vB r) ∧ Hp s R

theorem gresolve_defined_ok {n : Nat} {p0 : TSym} {R : List Res} {σ : St} (hp : Hp σ R) {r : Bool} (H : gresolve_defined n p0 = some r) : Ca cfg 16 [(.agg [(vS p0.f_Name), (vI p0.f_Bind), (vI p0.f_Type), (vI p0.f_Sec), (vI p0.f_Value), (vI p0.f_Size)])] σ (gresolve_defined_post R r) := by
 unfold gresolve_defined at H
 refine Ca.enterL (G := [(0, (.agg [(vS p0.f_Name), (vI p0.f_Bind), (vI p0.f_Type), (vI p0.f_Sec), (vI p0.f_Value), (vI p0.f_Size)]))]) Try.func16 rfl rfl rfl rfl ?_
 refine Ec.seq ?_
 refine Ec.region ?_
 refine Eo.box hp rfl rfl rfl rfl rfl rfl rfl ?_
 intro b1 σ3 hp2
 refine V rfl ?_
 refine Eo.nil ?_
 refine Ec.seq ?_
 refine Ec.region ?_
 refine V rfl ?_
 refine Eo.val (op_loadB hp2 0 rfl rfl rfl rfl) rfl rfl rfl ?_
 refine V rfl ?_
 refine V rfl ?_
 refine Eo.cutF 4 [(2, (vB false)), (10, (vB ((decide (p0.f_Sec ≥ 0)) || (p0.f_Sec == (-2)))))] ?_ ?_
 {
 cases hc6 : (decide (p0.f_Sec ≥ 0))
 {
 refine V rfl ?_
 refine Eo.val (op_loadB hp2 0 rfl rfl rfl rfl) rfl rfl rfl ?_
 refine V rfl ?_
 refine V rfl ?_
 exact Eo.nil (And.intro rfl (And.intro rfl (.cons rfl (.cons rfl (.nil')))))}
 {
 iterate 3 refine Eo.off rfl rfl rfl ?_
 refine V rfl ?_
 exact Eo.nil (And.intro rfl (And.intro rfl (.cons rfl (.cons rfl (.nil')))))}}
 {
 refine V rfl ?_
 refine Eo.nil ?_
 obtain rfl := Option.some.inj H
 refine Ec.ret ?_
 refine Ret.mk rfl ?_
 exact ⟨rfl, (Hp.pick hp2 1 [] rfl)⟩}

def gresolve_linkable_1 (n : Nat) (p0 : TSym) : Option (Bool) := (((cond (p0.f_Bind == 0) (((gresolve_defined n p0).bind fun r10 => some (!r10))) (some false)) : Option (Bool)).bind fun x8 => some x8)

def gresolve_linkable_1_post (R : List Res) (r : Bool) (x : A) (s : St) : Prop := x = (vB r) ∧ Hp s R

theorem gresolve_linkable_1_ok {n : Nat} {p0 : TSym} {R : List Res} {σ : St} (hp : Hp σ R) {r : Bool} (H : gresolve_linkable_1 n p0 = some r) : Ca cfg 15 [(.agg [(vS p0.f_Name), (vI p0.f_Bind), (vI p0.f_Type), (vI p0.f_Sec), (vI p0.f_Value), (vI p0.f_Size)])] σ (gresolve_linkable_1_post R r) := by
 unfold gresolve_linkable_1 at H
 refine Ca.enterL (G := [(0, (.agg [(vS p0.f_Name), (vI p0.f_Bind), (vI p0.f_Type), (vI p0.f_Sec), (vI p0.f_Value), (vI p0.f_Size)]))]) Try.func15 rfl rfl rfl rfl ?_
 refine Ec.seq ?_
 refine Ec.region ?_
 refine Eo.box hp rfl rfl rfl rfl rfl rfl rfl ?_
 intro b1 σ3 hp2
 refine V rfl ?_
 refine Eo.nil ?_
 refine Ec.seq ?_
 refine Ec.region ?_
 refine V rfl ?_
 refine Eo.val (op_loadB hp2 0 rfl rfl rfl rfl) rfl rfl rfl ?_
 refine V rfl ?_
 refine V rfl ?_
 obtain ⟨x8, hv18, H⟩ := bind_some H
 refine Eo.cutN 4 (J := (fun (x8 : Bool) (x : X) (φ : Fr) (s : St) => x = .normal ∧ (Hp s R ∧ Fl [(2, (vB false)), (10, (vB x8))] φ)) x8) ?_ ?_
 {
 have H := hv18
 cases hc9 : (p0.f_Bind == 0)
 {
 have H := cond_f hc9 H
 iterate 3 refine Eo.off rfl rfl rfl ?_
 refine V rfl ?_
 refine Eo.nil ?_
 obtain rfl := Option.some.inj H
 exact And.intro rfl ⟨(Hp.pick hp2 1 [] rfl), (.cons rfl (.cons rfl (.nil')))⟩}
 {
 have H := cond_t hc9 H
 refine Eo.val (op_loadB hp2 0 rfl rfl rfl rfl) rfl rfl rfl ?_
 obtain ⟨r10, hvr10, H⟩ := bind_some H
 refine Eo.call rfl rfl rfl rfl (gresolve_defined_ok hp2 hvr10) ?_
 rintro _ σ12 ⟨rfl, hp11⟩
 refine V rfl ?_
 refine V rfl ?_
 refine Eo.nil ?_
 obtain rfl := Option.some.inj H
 exact And.intro rfl ⟨(Hp.pick hp11 1 [] rfl), (.cons rfl (.cons rfl (.nil')))⟩}}
 {
 intro x φ15 σ14 hJ
 obtain ⟨rfl, hp13, hf16⟩ := hJ
 refine ⟨rfl, Eo.of (F := [(2, (vB false)), (10, (vB x8))]) hf16 ?_⟩
 refine V rfl ?_
 refine Eo.nil ?_
 obtain rfl := Option.some.inj H
 refine Ec.ret ?_
 refine Ret.mk rfl ?_
 exact ⟨rfl, hp13⟩}

def gslices_IndexFunc_26_15_L1 (N : Nat) (p0 : (List TSym)) : Nat → Int → Option (LR Unit Int)
  | 0, _ => none
  | m + 1, y12 => (cond (decide (y12 < ((p0.length : Nat) : Int))) (((atL p0 y12).bind fun x23 => ((gresolve_linkable_1 N x23).bind fun r27 => (cond r27 (some (.ret y12)) (gslices_IndexFunc_26_15_L1 N p0 m (IntKind.wrap .i64 (y12 + 1))))))) (some (.out ())))

def gslices_IndexFunc_26_15 (n : Nat) (p0 : (List TSym)) : Option (Int) := ((gslices_IndexFunc_26_15_L1 n p0 n 0).bind fun v => match v with | .out _ => some (-1) | .ret r37 => some r37)

def gslices_IndexFunc_26_15_post (R : List Res) (r : Int) (x : A) (s : St) : Prop := x = (vI r) ∧ Hp s R

theorem gslices_IndexFunc_26_15_ok {n : Nat} {p0 : (List TSym)} {a1 : A} {R : List Res} {σ : St} (h2 : Sl rTSym a1 p0) (hp : Hp σ R) {r : Int} (H : gslices_IndexFunc_26_15 n p0 = some r) : Ca cfg 26 [a1, (.fn (.func 15) [] [])] σ (gslices_IndexFunc_26_15_post R r) := by
 unfold gslices_IndexFunc_26_15 at H
 refine Ca.enterL (G := [(0, a1), (1, (.fn (.func 15) [] []))]) Try.func26 rfl rfl rfl rfl ?_
 refine Ec.seq ?_
 refine Ec.region ?_
 refine V rfl ?_
 refine Eo.nil ?_
 refine Ec.seq ?_
 refine Ec.seq ?_
 refine Ec.region ?_
 refine V rfl ?_
 refine Eo.val (op_lenL h2 rfl rfl rfl rfl rfl Try.underlying26) rfl rfl rfl ?_
 refine V rfl ?_
 refine Eo.nil ?_
 refine Ec.block ?_
 obtain ⟨v31, hv32, H⟩ := bind_some H
 refine Ec.cut (J := _) (Ec.weak (.cons rfl (.cons rfl (.cons rfl (.cons rfl (.nil'))))) (Ec.loopF (f := (fun m (i : Int × Unit) => gslices_IndexFunc_26_15_L1 n p0 m i.1)) (G := (fun (i : Int × Unit) => ([(0, a1), (1, (.fn (.func 15) [] [])), (7, (vI ((p0.length : Nat) : Int))), (8, (vI i.1))] : List (Nat × A)))) (I := (fun (i : Int × Unit) (s : St) => Hp s R)) (J := (fun (v : LR Unit Int) (x : X) (φ : Fr) (s : St) => match v with | .out _ => x = (.exit 0) ∧ (Hp s R ∧ Fl [] φ) | .ret r => x = .ret ∧ Ret cfg Try.f26 (gslices_IndexFunc_26_15_post R r) .ret φ s)) (fun _ => rfl) ?_ n (0, ()) _ v31 hp hv32)) ?_
 {
 rintro m ⟨y12, _⟩ σ0 v hp0 H ih
 change gslices_IndexFunc_26_15_L1 n p0 (m + 1) y12 = some v at H
 rw [gslices_IndexFunc_26_15_L1] at H
 change Ec _ _ _ [(0, a1), (1, (.fn (.func 15) [] [])), (7, (vI ((p0.length : Nat) : Int))), (8, (vI y12))] σ0 _
 refine Ec.seq ?_
 refine Ec.region ?_
 refine V rfl ?_
 refine Eo.nil ?_
 refine Ec.seq ?_
 refine Ec.cond (t := (decide (y12 < ((p0.length : Nat) : Int)))) rfl (fun hc22 => ?_) (fun hc22 => ?_)
 {
 have H := cond_t hc22 H
 refine Ec.skip ?_
 refine Ec.seq ?_
 refine Ec.block ?_
 refine Ec.seq ?_
 refine Ec.region ?_
 refine V rfl ?_
 refine V rfl ?_
 refine Eo.nil ?_
 refine Ec.seq ?_
 refine Ec.region ?_
 iterate 3 refine V rfl ?_
 obtain ⟨x23, hvx23, H⟩ := bind_some H
 refine Eo.idx h2 hvx23 rfl rfl rfl Try.underlying26 rfl rfl rfl rfl ?_
 rintro cs24 p25 _ hat26 rfl
 refine Eo.val (op_loadSpAgg hat26 0 rfl rfl rfl rfl rfl rfl) rfl rfl rfl ?_
 obtain ⟨r27, hvr27, H⟩ := bind_some H
 refine Eo.call rfl rfl rfl rfl (gresolve_linkable_1_ok hp0 hvr27) ?_
 rintro _ σ29 ⟨rfl, hp28⟩
 refine Eo.nil ?_
 refine Ec.cond (t := r27) rfl (fun hc30 => ?_) (fun hc30 => ?_)
 {
 have H := cond_t hc30 H
 refine Ec.seq ?_
 refine Ec.region ?_
 refine V rfl ?_
 refine V rfl ?_
 refine Eo.nil ?_
 obtain rfl := Option.some.inj H
 refine Ec.ret ?_
 refine And.intro rfl (Ret.mk rfl ?_)
 exact ⟨rfl, hp28⟩}
 {
 have H := cond_f hc30 H
 refine Ec.skip ?_
 refine Ec.region ?_
 refine V rfl ?_
 refine V rfl ?_
 refine Eo.nil ?_
 exact Ec.of (.cons rfl (.cons rfl (.cons rfl (.cons rfl (.nil'))))) (ih ((IntKind.wrap .i64 (y12 + 1)), ()) _ hp28 H)}}
 {
 have H := cond_f hc22 H
 refine Ec.exit ?_
 obtain rfl := Option.some.inj H
 exact And.intro rfl ⟨hp0, (.nil')⟩}}
 {
 rcases v31 with _ | r37
 {
 intro x φ35 σ34 hJ
 obtain ⟨rfl, hp33, hf36⟩ := hJ
 refine Ec.of (F := []) hf36 ?_
 refine Ec.seq ?_
 refine Ec.region ?_
 refine V rfl ?_
 refine Eo.nil ?_
 obtain rfl := Option.some.inj H
 refine Ec.ret ?_
 refine Ret.mk rfl ?_
 exact ⟨rfl, hp33⟩}
 {
 intro x φ38 σ39 hJ
 obtain rfl := Option.some.inj H
 obtain ⟨rfl, hr⟩ := hJ
 exact hr}}

def gslices_ContainsFunc_18_15 (n : Nat) (p0 : (List TSym)) : Option (Bool) := ((gslices_IndexFunc_26_15 n p0).bind fun r3 => some (decide (r3 ≥ 0)))

def gslices_ContainsFunc_18_15_post (R : List Res) (r : Bool) (x : A) (s : St) : Prop := x = (vB r) ∧ Hp s R

theorem gslices_ContainsFunc_18_15_ok {n : Nat} {p0 : (List TSym)} {a1 : A} {R : List Res} {σ : St} (h2 : Sl rTSym a1 p0) (hp : Hp σ R) {r : Bool} (H : gslices_ContainsFunc_18_15 n p0 = some r) : Ca cfg 18 [a1, (.fn (.func 15) [] [])] σ (gslices_ContainsFunc_18_15_post R r) := by
 unfold gslices_ContainsFunc_18_15 at H
 refine Ca.enterL (G := [(0, a1), (1, (.fn (.func 15) [] []))]) Try.func18 rfl rfl rfl rfl ?_
 refine Ec.seq ?_
 refine Ec.region ?_
 refine V rfl ?_
 refine Eo.nil ?_
 refine Ec.seq ?_
 refine Ec.region ?_
 refine V rfl ?_
 refine V rfl ?_
 obtain ⟨r3, hvr3, H⟩ := bind_some H
 refine Eo.call rfl rfl rfl rfl (gslices_IndexFunc_26_15_ok h2 hp hvr3) ?_
 rintro _ σ5 ⟨rfl, hp4⟩
 refine V rfl ?_
 refine V rfl ?_
 refine Eo.nil ?_
 obtain rfl := Option.some.inj H
 refine Ec.ret ?_
 refine Ret.mk rfl ?_
 exact ⟨rfl, hp4⟩

def gresolve_linkable (n : Nat) (p0 : TObj) : Option (Bool) := ((gelfobj_Sound n p0).bind fun r10 => (((cond r10 (((gslices_ContainsFunc_18_15 n p0.f_Syms).bind fun r19 => some (!r19))) (some false)) : Option (Bool)).bind fun x17 => some x17))

def gresolve_linkable_post (R : List Res) (r : Bool) (x : A) (s : St) : Prop := x = (vB r) ∧ Hp s R

theorem gresolve_linkable_ok {n : Nat} {p0 : TObj} {a1 : A} {a3 : A} {a5 : A} {R : List Res} {σ : St} (h2 : Sl rTSec a1 p0.f_Secs) (h4 : Sl rTSym a3 p0.f_Syms) (h6 : Sl rTReloc a5 p0.f_Rels) (hp : Hp σ R) {r : Bool} (H : gresolve_linkable n p0 = some r) : Ca cfg 9 [(.agg [(vI p0.f_Machine), a1, a3, a5])] σ (gresolve_linkable_post R r) := by
 unfold gresolve_linkable at H
 refine Ca.enterL (G := [(0, (.agg [(vI p0.f_Machine), a1, a3, a5]))]) Try.func9 rfl rfl rfl rfl ?_
 refine Ec.seq ?_
 refine Ec.region ?_
 refine Eo.box hp rfl (by exact on rfl (on h2.isOne (on h4.isOne (on h6.isOne on0)))) rfl rfl rfl rfl rfl ?_
 intro b7 σ9 hp8
 refine V rfl ?_
 refine Eo.nil ?_
 refine Ec.seq ?_
 refine Ec.region ?_
 refine V rfl ?_
 refine Eo.nil ?_
 refine Ec.seq ?_
 refine Ec.region ?_
 refine Eo.val (op_loadB hp8 0 rfl rfl rfl rfl) rfl rfl rfl ?_
 obtain ⟨r10, hvr10, H⟩ := bind_some H
 refine Eo.call rfl rfl rfl rfl (gelfobj_Sound_ok h2 h4 h6 hp8 hvr10) ?_
 rintro _ σ12 ⟨rfl, hp11⟩
 refine V rfl ?_
 obtain ⟨x17, hv27, H⟩ := bind_some H
 refine Eo.cutN 6 (J := (fun (x17 : Bool) (x : X) (φ : Fr) (s : St) => x = .normal ∧ (Hp s R ∧ Fl [(2, (vB false)), (12, (vB x17))] φ)) x17) ?_ ?_
 {
 have H := hv27
 cases hc18 : r10
 {
 have H := cond_f hc18 H
 iterate 5 refine Eo.off rfl rfl rfl ?_
 refine V rfl ?_
 refine Eo.nil ?_
 obtain rfl := Option.some.inj H
 exact And.intro rfl ⟨(Hp.pick hp11 1 [] rfl), (.cons rfl (.cons rfl (.nil')))⟩}
 {
 have H := cond_t hc18 H
 refine V rfl ?_
 refine Eo.val (op_loadB hp11 0 rfl rfl rfl rfl) rfl rfl rfl ?_
 refine V rfl ?_
 obtain ⟨r19, hvr19, H⟩ := bind_some H
 refine Eo.call rfl rfl rfl rfl (gslices_ContainsFunc_18_15_ok h4 hp11 hvr19) ?_
 rintro _ σ21 ⟨rfl, hp20⟩
 refine V rfl ?_
 refine V rfl ?_
 refine Eo.nil ?_
 obtain rfl := Option.some.inj H
 exact And.intro rfl ⟨(Hp.pick hp20 1 [] rfl), (.cons rfl (.cons rfl (.nil')))⟩}}
 {
 intro x φ24 σ23 hJ
 obtain ⟨rfl, hp22, hf25⟩ := hJ
 refine ⟨rfl, Eo.of (F := [(2, (vB false)), (12, (vB x17))]) hf25 ?_⟩
 refine V rfl ?_
 refine Eo.nil ?_
 obtain rfl := Option.some.inj H
 refine Ec.ret ?_
 refine Ret.mk rfl ?_
 exact ⟨rfl, hp22⟩}

def gresolve_def (_n : Nat) (p0 : Int) (p1 : TSym) : Option (TDef) := (((cond (decide (p1.f_Sec < 0)) (some (-1)) (some p0)) : Option (Int)).bind fun x8 => some (TDef.mk p1.f_Name x8 p1.f_Sec p1.f_Value p1.f_Size p1.f_Type))

def gresolve_def_post (R : List Res) (r : TDef) (x : A) (s : St) : Prop := x = (.agg [(vS r.f_Name), (vI r.f_Obj), (vI r.f_Sec), (vI r.f_Value), (vI r.f_Size), (vI r.f_Type)]) ∧ Hp s R

theorem gresolve_def_ok {n : Nat} {p0 : Int} {p1 : TSym} {R : List Res} {σ : St} (hp : Hp σ R) {r : TDef} (H : gresolve_def n p0 p1 = some r) : Ca cfg 10 [(vI p0), (.agg [(vS p1.f_Name), (vI p1.f_Bind), (vI p1.f_Type), (vI p1.f_Sec), (vI p1.f_Value), (vI p1.f_Size)])] σ (gresolve_def_post R r) := by
 unfold gresolve_def at H
 refine Ca.enterL (G := [(0, (vI p0)), (1, (.agg [(vS p1.f_Name), (vI p1.f_Bind), (vI p1.f_Type), (vI p1.f_Sec), (vI p1.f_Value), (vI p1.f_Size)]))]) Try.func10 rfl rfl rfl rfl ?_
 refine Ec.seq ?_
 refine Ec.region ?_
 refine Eo.box hp rfl rfl rfl rfl rfl rfl rfl ?_
 intro b1 σ3 hp2
 refine Eo.alloc (z := [(vS (ByteArray.mk #[])), (vI 0), (vI 0), (vI 0), (vI 0), (vI 0)]) hp2 rfl rfl rfl rfl rfl ?_
 intro b4 σ6 hp5
 refine Eo.nil ?_
 refine Ec.seq ?_
 refine Ec.seq ?_
 refine Ec.region ?_
 refine V rfl ?_
 refine Eo.val (op_loadB hp5 1 rfl rfl rfl rfl) rfl rfl rfl ?_
 refine V rfl ?_
 refine Eo.nil ?_
 obtain ⟨x8, hv17, H⟩ := bind_some H
 refine Ec.cut (J := (fun (x8 : Int) (x : X) (φ : Fr) (s : St) => x = .normal ∧ (Hp s (.blk b1 (.cells [(vS p1.f_Name), (vI p1.f_Bind), (vI p1.f_Type), (vI p1.f_Sec), (vI p1.f_Value), (vI p1.f_Size)] 31) :: .blk b4 (.cells [(vS (ByteArray.mk #[])), (vI 0), (vI 0), (vI 0), (vI 0), (vI 0)] 42) :: R) ∧ Fl [(0, (vI x8)), (3, (.ptr b1 0)), (4, (.ptr b4 0))] φ)) x8) ?_ ?_
 {
 have H := hv17
 refine Ec.cond (t := (decide (p1.f_Sec < 0))) rfl (fun hc9 => ?_) (fun hc9 => ?_)
 {
 have H := cond_t hc9 H
 refine Ec.region ?_
 refine V rfl ?_
 refine Eo.nil ?_
 obtain rfl := Option.some.inj H
 exact And.intro rfl ⟨(Hp.pick hp5 2 [1, 0] rfl), (.cons rfl (.cons rfl (.cons rfl (.nil'))))⟩}
 {
 have H := cond_f hc9 H
 refine Ec.skip ?_
 obtain rfl := Option.some.inj H
 exact And.intro rfl ⟨(Hp.pick hp5 2 [1, 0] rfl), (.cons rfl (.cons rfl (.cons rfl (.nil'))))⟩}}
 {
 intro x φ12 σ11 hJ
 obtain ⟨rfl, hp10, hf13⟩ := hJ
 refine Ec.of (F := [(0, (vI x8)), (3, (.ptr b1 0)), (4, (.ptr b4 0))]) hf13 ?_
 refine Ec.seq ?_
 refine Ec.region ?_
 refine V rfl ?_
 refine Eo.val (op_loadB hp10 0 rfl rfl rfl rfl) rfl rfl rfl ?_
 refine V rfl ?_
 refine V rfl ?_
 refine Eo.val (op_loadB hp10 0 rfl rfl rfl rfl) rfl rfl rfl ?_
 refine V rfl ?_
 refine Eo.val (op_loadB hp10 0 rfl rfl rfl rfl) rfl rfl rfl ?_
 refine V rfl ?_
 refine Eo.val (op_loadB hp10 0 rfl rfl rfl rfl) rfl rfl rfl ?_
 refine V rfl ?_
 refine Eo.val (op_loadB hp10 0 rfl rfl rfl rfl) rfl rfl rfl ?_
 refine Eo.val (op_build (lay_cons rfl rfl rfl rfl rfl (lay_cons rfl rfl rfl rfl rfl (lay_cons rfl rfl rfl rfl rfl (lay_cons rfl rfl rfl rfl rfl (lay_cons rfl rfl rfl rfl rfl (lay_cons rfl rfl rfl rfl rfl lay_nil)))))) rfl (parts_cons rfl rfl (parts_cons rfl rfl (parts_cons rfl rfl (parts_cons rfl rfl (parts_cons rfl rfl (parts_cons rfl rfl rfl)))))) Try.underlying42 rfl rfl) rfl rfl rfl ?_
 refine Eo.store hp10 1 rfl (storeCells_mk rfl rfl rfl rfl rfl rfl) rfl rfl rfl rfl rfl ?_
 intro σ15 hp14
 refine Eo.nil ?_
 obtain rfl := Option.some.inj H
 refine Ec.ret ?_
 refine Ret.mk' (resA_cell hp14 1 rfl rfl rfl rfl) ?_
 exact ⟨rfl, (Hp.pick hp14 2 [] rfl)⟩}
end Go.DM
