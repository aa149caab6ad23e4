/- Typed functions of the program's functions, and the walks that show that the calls come to them. No condition. -/
import Derived.Test.YtbnffodjkbjlbaaDoorRuleT
import Derived.Test.YtbnffodjkbjlbaaDoorProg
namespace Go.DM.TK
open Go Go.Proofs Go.DM
set_option maxRecDepth 100000
set_option maxHeartbeats 1000000
noncomputable def cfg : Cfg := { P := Tryd.prog, glob := fun _ => none, prim := fun f => if f = 20 then some indexByteG else if f = 25 then some containsRuneG else if f = 26 then some (atoiG 68) else if f = 27 then some itoaG else none }
instance : NoMut cfg := ⟨fun _ => rfl⟩
theorem prim20_ok {p0 : ByteArray} {p1 : Int} {R : List Res} {σ : St} (hp : Hp σ R) {r : Int} (H : indexByteT p0 p1 = some r) : Ca cfg 20 [(.v (.string p0)), (.v (.int .u8 p1))] σ (fun x σ' => x = (.v (.int .i64 r)) ∧ Hp σ' (R)) := indexByteT_ok (C := cfg) (f := 20) rfl hp H
theorem prim25_ok {p0 : ByteArray} {p1 : Int} {R : List Res} {σ : St} (hp : Hp σ R) {r : Bool} (H : containsRuneT p0 p1 = some r) : Ca cfg 25 [(.v (.string p0)), (.v (.int .i32 p1))] σ (fun x σ' => x = (.v (.bool r)) ∧ Hp σ' (R)) := containsRuneT_ok (C := cfg) (f := 25) rfl hp H
theorem prim26_ok {p0 : ByteArray} {R : List Res} {σ : St} (hp : Hp σ R) {r : (Int × Bool)} (H : atoiT p0 = some r) : Ca cfg 26 [(.v (.string p0))] σ (fun x σ' => x = (.tup [(.v (.int .i64 r.1)), (errA 68 r.2)]) ∧ Hp σ' (R)) := atoiT_ok (C := cfg) (f := 26) rfl hp H
theorem prim27_ok {p0 : Int} {R : List Res} {σ : St} (hp : Hp σ R) {r : ByteArray} (H : itoaT p0 = some r) : Ca cfg 27 [(.v (.int .i64 p0))] σ (fun x σ' => x = (.v (.string r)) ∧ Hp σ' (R)) := itoaT_ok (C := cfg) (f := 27) rfl hp H
structure Tdovetailref03_Token where
  f_At : Int
  f_Kind : Int
  f_Num : Int
  f_Wrong : Int
  f_Word : ByteArray
  deriving DecidableEq

def rTdovetailref03_Token : RepT Tdovetailref03_Token := ⟨5, fun x c => c = [.v (.int .i64 x.f_At), .v (.int .i64 x.f_Kind), .v (.int .i64 x.f_Num), .v (.int .i64 x.f_Wrong), .v (.string x.f_Word)], by rintro x c rfl; rfl, by decide, by rintro x c rfl; simp [allOne]⟩


def gdovetailref03_text_L1 (N : Nat) (p0 : ByteArray) (p1 : Int) : Nat → Int → Option (LR Unit (Tdovetailref03_Token × Int))
  | 0, _ => none
  | m + 1, y36 => (((cond (decide (y36 < ((p0.size : Nat) : Int))) (((atS p0 y36).bind fun b73 => some (b73 != 10))) (some false)) : Option (Bool)).bind fun x71 => (cond x71 (((atS p0 y36).bind fun b79 => (cond (b79 == 34) (((subS p0 (IntKind.wrap .i64 (p1 + 1)) y36).bind fun s81 => some (.ret ((Tdovetailref03_Token.mk p1 3 0 0 s81), (IntKind.wrap .i64 (y36 + 1)))))) (((atS p0 y36).bind fun b84 => (((cond (decide (b84 < 32)) (some true) (((atS p0 y36).bind fun b89 => some (decide (b89 > 126))))) : Option (Bool)).bind fun x87 => (cond x87 (some (.ret ((Tdovetailref03_Token.mk p1 6 0 y36 (ByteArray.mk #[])), 0))) (gdovetailref03_text_L1 N p0 p1 m (IntKind.wrap .i64 (y36 + 1)))))))))) (some (.out ()))))

def gdovetailref03_text (n : Nat) (p0 : ByteArray) (p1 : Int) : Option ((Tdovetailref03_Token × Int)) := ((gdovetailref03_text_L1 n p0 p1 n (IntKind.wrap .i64 (p1 + 1))).bind fun v => match v with | .out _ => some ((Tdovetailref03_Token.mk p1 6 0 p1 (ByteArray.mk #[])), 0) | .ret r109 => some r109)

def gdovetailref03_text_post (R : List Res) (r : (Tdovetailref03_Token × Int)) (x : A) (s : St) : Prop := x = (.tup [(.agg [(.v (.int .i64 r.1.f_At)), (.v (.int .i64 r.1.f_Kind)), (.v (.int .i64 r.1.f_Num)), (.v (.int .i64 r.1.f_Wrong)), (.v (.string r.1.f_Word))]), (.v (.int .i64 r.2))]) ∧ Hp s (R)

theorem gdovetailref03_text_ok {n : Nat} {p0 : ByteArray} {p1 : Int} {R : List Res} {σ : St} (hp : Hp σ R) {r : (Tdovetailref03_Token × Int)} (H : gdovetailref03_text n p0 p1 = some r) : Ca cfg 11 [(.v (.string p0)), (.v (.int .i64 p1))] σ (gdovetailref03_text_post R r) := by
  unfold gdovetailref03_text at H
  refine Ca.enterL (G := [(0, (.v (.string p0))), (1, (.v (.int .i64 p1)))]) Tryd.func11 rfl rfl rfl rfl ?_
  refine Ec.seq ?_
  refine Ec.region ?_
  refine Eo.alloc (z := [(.v (.int .i64 0)), (.v (.int .i64 0)), (.v (.int .i64 0)), (.v (.int .i64 0)), (.v (.string (ByteArray.mk #[])))]) hp rfl rfl rfl rfl rfl ?_
  intro b1 σ3 hp2
  refine Eo.val (x := (.v (.int .i64 0))) rfl rfl rfl rfl ?_
  refine Eo.nil ?_
  refine Ec.seq ?_
  refine Ec.seq ?_
  refine Ec.region ?_
  refine Eo.val (x := (.v (.int .i64 p1))) rfl rfl rfl rfl ?_
  refine Eo.val (x := (.v (.int .i64 (IntKind.wrap .i64 (p1 + 1))))) rfl rfl rfl rfl ?_
  refine Eo.val (x := (.v (.int .i64 (IntKind.wrap .i64 (p1 + 1))))) rfl rfl rfl rfl ?_
  refine Eo.nil ?_
  refine Ec.block ?_
  obtain ⟨v101, hv102, H⟩ := bind_some H
  refine Ec.cut (J := (fun (v : LR Unit (Tdovetailref03_Token × Int)) (x : X) (φ : Fr) (s : St) => match v with | .out _ => x = (.exit 0) ∧ (Hp s (.blk b1 (.cells [(.v (.int .i64 0)), (.v (.int .i64 0)), (.v (.int .i64 0)), (.v (.int .i64 0)), (.v (.string (ByteArray.mk #[])))] 37) :: R) ∧ Fl [(1, (.v (.int .i64 p1))), (4, (.ptr b1 0))] φ) | .ret r => x = .ret ∧ Ret cfg Tryd.f11 (gdovetailref03_text_post R r) .ret φ s) v101) (Ec.weak (.cons rfl (.cons rfl (.cons rfl (.cons rfl (.nil'))))) (Ec.loopF (f := (fun m (i : Int × Unit) => gdovetailref03_text_L1 n p0 p1 m i.1)) (G := (fun (i : Int × Unit) => ([(0, (.v (.string p0))), (1, (.v (.int .i64 p1))), (4, (.ptr b1 0)), (6, (.v (.int .i64 i.1)))] : List (Nat × A)))) (I := (fun (i : Int × Unit) (s : St) => Hp s (.blk b1 (.cells [(.v (.int .i64 0)), (.v (.int .i64 0)), (.v (.int .i64 0)), (.v (.int .i64 0)), (.v (.string (ByteArray.mk #[])))] 37) :: R))) (J := (fun (v : LR Unit (Tdovetailref03_Token × Int)) (x : X) (φ : Fr) (s : St) => match v with | .out _ => x = (.exit 0) ∧ (Hp s (.blk b1 (.cells [(.v (.int .i64 0)), (.v (.int .i64 0)), (.v (.int .i64 0)), (.v (.int .i64 0)), (.v (.string (ByteArray.mk #[])))] 37) :: R) ∧ Fl [(1, (.v (.int .i64 p1))), (4, (.ptr b1 0))] φ) | .ret r => x = .ret ∧ Ret cfg Tryd.f11 (gdovetailref03_text_post R r) .ret φ s)) (fun _ => rfl) ?_ n ((IntKind.wrap .i64 (p1 + 1)), ()) _ v101 hp2 hv102)) ?_
  · rintro m ⟨y36, _⟩ σ0 v hp0 H ih
    change gdovetailref03_text_L1 n p0 p1 (m + 1) y36 = some v at H
    rw [gdovetailref03_text_L1] at H
    change Ec _ _ _ [(0, (.v (.string p0))), (1, (.v (.int .i64 p1))), (4, (.ptr b1 0)), (6, (.v (.int .i64 y36)))] σ0 _
    refine Ec.seq ?_
    refine Ec.seq ?_
    refine Ec.region ?_
    refine Eo.val (x := (.v (.int .i64 y36))) rfl rfl rfl rfl ?_
    refine Eo.val (x := (.v (.string p0))) rfl rfl rfl rfl ?_
    refine Eo.val (x := (.v (.int .i64 ((p0.size : Nat) : Int)))) (op_len rfl rfl rfl rfl rfl Tryd.underlying9) rfl rfl rfl ?_
    refine Eo.val (x := (.v (.bool (decide (y36 < ((p0.size : Nat) : Int)))))) rfl rfl rfl rfl ?_
    refine Eo.val (x := (.v (.bool (decide (y36 < ((p0.size : Nat) : Int)))))) rfl rfl rfl rfl ?_
    obtain ⟨x71, hv100, H⟩ := bind_some H
    refine Eo.cutN 5 (J := (fun (x71 : Bool) (x : X) (φ : Fr) (s : St) => x = .normal ∧ (Hp s (.blk b1 (.cells [(.v (.int .i64 0)), (.v (.int .i64 0)), (.v (.int .i64 0)), (.v (.int .i64 0)), (.v (.string (ByteArray.mk #[])))] 37) :: R) ∧ Fl [(0, (.v (.string p0))), (1, (.v (.int .i64 p1))), (4, (.ptr b1 0)), (6, (.v (.int .i64 y36))), (18, (.v (.bool x71)))] φ)) x71) ?_ ?_
    · have H := hv100
      cases hc72 : (decide (y36 < ((p0.size : Nat) : Int)))
      · have H := cond_f hc72 H
        refine Eo.off rfl rfl rfl ?_
        refine Eo.off rfl rfl rfl ?_
        refine Eo.off rfl rfl rfl ?_
        refine Eo.off rfl rfl rfl ?_
        refine Eo.val (x := (.v (.bool false))) rfl rfl rfl rfl ?_
        refine Eo.nil ?_
        obtain rfl := Option.some.inj H
        exact And.intro rfl ⟨hp0, (.cons rfl (.cons rfl (.cons rfl (.cons rfl (.cons rfl (.nil'))))))⟩
      · have H := cond_t hc72 H
        refine Eo.val (x := (.v (.string p0))) rfl rfl rfl rfl ?_
        refine Eo.val (x := (.v (.int .i64 y36))) rfl rfl rfl rfl ?_
        obtain ⟨b73, hvb73, H⟩ := bind_some H
        refine Eo.val (op_byteS hvb73 rfl rfl rfl Tryd.underlying9) rfl rfl rfl ?_
        refine Eo.val (x := (.v (.bool (b73 != 10)))) rfl rfl rfl rfl ?_
        refine Eo.val (x := (.v (.bool (b73 != 10)))) rfl rfl rfl rfl ?_
        refine Eo.nil ?_
        obtain rfl := Option.some.inj H
        exact And.intro rfl ⟨hp0, (.cons rfl (.cons rfl (.cons rfl (.cons rfl (.cons rfl (.nil'))))))⟩
    · skip
      intro x φ76 σ75 hJ
      obtain ⟨rfl, hp74, hf77⟩ := hJ
      refine ⟨rfl, Eo.of (F := [(0, (.v (.string p0))), (1, (.v (.int .i64 p1))), (4, (.ptr b1 0)), (6, (.v (.int .i64 y36))), (18, (.v (.bool x71)))]) hf77 ?_⟩
      refine Eo.nil ?_
      refine Ec.cond (t := x71) rfl (fun hc78 => ?_) (fun hc78 => ?_)
      · have H := cond_t hc78 H
        refine Ec.skip ?_
        refine Ec.seq ?_
        refine Ec.block ?_
        refine Ec.seq ?_
        refine Ec.seq ?_
        refine Ec.region ?_
        refine Eo.val (x := (.v (.string p0))) rfl rfl rfl rfl ?_
        refine Eo.val (x := (.v (.int .i64 y36))) rfl rfl rfl rfl ?_
        obtain ⟨b79, hvb79, H⟩ := bind_some H
        refine Eo.val (op_byteS hvb79 rfl rfl rfl Tryd.underlying9) rfl rfl rfl ?_
        refine Eo.val (x := (.v (.bool (b79 == 34)))) rfl rfl rfl rfl ?_
        refine Eo.nil ?_
        refine Ec.cond (t := (b79 == 34)) rfl (fun hc80 => ?_) (fun hc80 => ?_)
        · have H := cond_t hc80 H
          refine Ec.seq ?_
          refine Ec.region ?_
          refine Eo.val (x := (.v (.int .i64 p1))) rfl rfl rfl rfl ?_
          refine Eo.val (x := (.v (.string p0))) rfl rfl rfl rfl ?_
          refine Eo.val (x := (.v (.int .i64 p1))) rfl rfl rfl rfl ?_
          refine Eo.val (x := (.v (.int .i64 (IntKind.wrap .i64 (p1 + 1))))) rfl rfl rfl rfl ?_
          refine Eo.val (x := (.v (.int .i64 y36))) rfl rfl rfl rfl ?_
          obtain ⟨s81, hvs81, H⟩ := bind_some H
          refine Eo.val (op_partS hvs81 rfl rfl Tryd.underlying9 (.inr ⟨_, _, rfl, rfl⟩) (.inr ⟨_, _, rfl, rfl⟩)) rfl rfl rfl ?_
          refine Eo.val (x := (.agg [(.v (.int .i64 p1)), (.v (.int .i64 3)), (.v (.int .i64 0)), (.v (.int .i64 0)), (.v (.string s81))])) (op_build (lay_cons rfl rfl rfl rfl rfl (lay_cons rfl rfl rfl rfl rfl (lay_cons rfl rfl rfl rfl rfl lay_nil))) rfl (parts_cons rfl rfl (parts_cons rfl rfl (parts_cons rfl rfl rfl))) Tryd.underlying37 rfl rfl) rfl rfl rfl ?_
          refine Eo.val (x := (.v (.int .i64 y36))) rfl rfl rfl rfl ?_
          refine Eo.val (x := (.v (.int .i64 (IntKind.wrap .i64 (y36 + 1))))) rfl rfl rfl rfl ?_
          refine Eo.store hp74 0 rfl (storeCells_mk rfl rfl rfl rfl rfl rfl) rfl rfl rfl rfl rfl ?_
          intro σ83 hp82
          change Hp σ83 (.blk b1 (.cells [(.v (.int .i64 p1)), (.v (.int .i64 3)), (.v (.int .i64 0)), (.v (.int .i64 0)), (.v (.string s81))] 37) :: R) at hp82
          refine Eo.val (x := (.v (.int .i64 (IntKind.wrap .i64 (y36 + 1))))) rfl rfl rfl rfl ?_
          refine Eo.nil ?_
          obtain rfl := Option.some.inj H
          refine Ec.ret ?_
          refine And.intro rfl (Ret.mk' (resA_cell hp82 0 rfl rfl rfl (resA_tmp rfl rfl)) ?_)
          exact ⟨rfl, (Hp.drop hp82 0)⟩
        · have H := cond_f hc80 H
          refine Ec.skip ?_
          refine Ec.seq ?_
          refine Ec.region ?_
          refine Eo.val (x := (.v (.string p0))) rfl rfl rfl rfl ?_
          refine Eo.val (x := (.v (.int .i64 y36))) rfl rfl rfl rfl ?_
          obtain ⟨b84, hvb84, H⟩ := bind_some H
          refine Eo.val (op_byteS hvb84 rfl rfl rfl Tryd.underlying9) rfl rfl rfl ?_
          refine Eo.val (x := (.v (.bool (decide (b84 < 32))))) rfl rfl rfl rfl ?_
          refine Eo.val (x := (.v (.bool (decide (b84 < 32))))) rfl rfl rfl rfl ?_
          obtain ⟨x87, hv98, H⟩ := bind_some H
          refine Eo.cutN 5 (J := (fun (x87 : Bool) (x : X) (φ : Fr) (s : St) => x = .normal ∧ (Hp s (.blk b1 (.cells [(.v (.int .i64 0)), (.v (.int .i64 0)), (.v (.int .i64 0)), (.v (.int .i64 0)), (.v (.string (ByteArray.mk #[])))] 37) :: R) ∧ Fl [(0, (.v (.string p0))), (1, (.v (.int .i64 p1))), (4, (.ptr b1 0)), (6, (.v (.int .i64 y36))), (43, (.v (.bool x87)))] φ)) x87) ?_ ?_
          · have H := hv98
            cases hc88 : (decide (b84 < 32))
            · have H := cond_f hc88 H
              refine Eo.val (x := (.v (.string p0))) rfl rfl rfl rfl ?_
              refine Eo.val (x := (.v (.int .i64 y36))) rfl rfl rfl rfl ?_
              obtain ⟨b89, hvb89, H⟩ := bind_some H
              refine Eo.val (op_byteS hvb89 rfl rfl rfl Tryd.underlying9) rfl rfl rfl ?_
              refine Eo.val (x := (.v (.bool (decide (b89 > 126))))) rfl rfl rfl rfl ?_
              refine Eo.val (x := (.v (.bool (decide (b89 > 126))))) rfl rfl rfl rfl ?_
              refine Eo.nil ?_
              obtain rfl := Option.some.inj H
              exact And.intro rfl ⟨hp74, (.cons rfl (.cons rfl (.cons rfl (.cons rfl (.cons rfl (.nil'))))))⟩
            · have H := cond_t hc88 H
              refine Eo.off rfl rfl rfl ?_
              refine Eo.off rfl rfl rfl ?_
              refine Eo.off rfl rfl rfl ?_
              refine Eo.off rfl rfl rfl ?_
              refine Eo.val (x := (.v (.bool true))) rfl rfl rfl rfl ?_
              refine Eo.nil ?_
              obtain rfl := Option.some.inj H
              exact And.intro rfl ⟨hp74, (.cons rfl (.cons rfl (.cons rfl (.cons rfl (.cons rfl (.nil'))))))⟩
          · skip
            intro x φ92 σ91 hJ
            obtain ⟨rfl, hp90, hf93⟩ := hJ
            refine ⟨rfl, Eo.of (F := [(0, (.v (.string p0))), (1, (.v (.int .i64 p1))), (4, (.ptr b1 0)), (6, (.v (.int .i64 y36))), (43, (.v (.bool x87)))]) hf93 ?_⟩
            refine Eo.nil ?_
            refine Ec.cond (t := x87) rfl (fun hc94 => ?_) (fun hc94 => ?_)
            · have H := cond_t hc94 H
              refine Ec.seq ?_
              refine Ec.region ?_
              refine Eo.val (x := (.v (.int .i64 p1))) rfl rfl rfl rfl ?_
              refine Eo.val (x := (.v (.int .i64 y36))) rfl rfl rfl rfl ?_
              refine Eo.val (x := (.agg [(.v (.int .i64 p1)), (.v (.int .i64 6)), (.v (.int .i64 0)), (.v (.int .i64 y36)), (.v (.string (ByteArray.mk #[])))])) (op_build (lay_cons rfl rfl rfl rfl rfl (lay_cons rfl rfl rfl rfl rfl (lay_cons rfl rfl rfl rfl rfl lay_nil))) rfl (parts_cons rfl rfl (parts_cons rfl rfl (parts_cons rfl rfl rfl))) Tryd.underlying37 rfl rfl) rfl rfl rfl ?_
              refine Eo.store hp90 0 rfl (storeCells_mk rfl rfl rfl rfl rfl rfl) rfl rfl rfl rfl rfl ?_
              intro σ96 hp95
              change Hp σ96 (.blk b1 (.cells [(.v (.int .i64 p1)), (.v (.int .i64 6)), (.v (.int .i64 0)), (.v (.int .i64 y36)), (.v (.string (ByteArray.mk #[])))] 37) :: R) at hp95
              refine Eo.val (x := (.v (.int .i64 0))) rfl rfl rfl rfl ?_
              refine Eo.nil ?_
              obtain rfl := Option.some.inj H
              refine Ec.ret ?_
              refine And.intro rfl (Ret.mk' (resA_cell hp95 0 rfl rfl rfl (resA_tmp rfl rfl)) ?_)
              exact ⟨rfl, (Hp.drop hp95 0)⟩
            · have H := cond_f hc94 H
              refine Ec.skip ?_
              refine Ec.region ?_
              refine Eo.val (x := (.v (.int .i64 y36))) rfl rfl rfl rfl ?_
              refine Eo.val (x := (.v (.int .i64 (IntKind.wrap .i64 (y36 + 1))))) rfl rfl rfl rfl ?_
              refine Eo.val (x := (.v (.int .i64 (IntKind.wrap .i64 (y36 + 1))))) rfl rfl rfl rfl ?_
              refine Eo.nil ?_
              exact Ec.of (.cons rfl (.cons rfl (.cons rfl (.cons rfl (.nil'))))) (ih ((IntKind.wrap .i64 (y36 + 1)), ()) _ hp90 H)
      · have H := cond_f hc78 H
        refine Ec.exit ?_
        obtain rfl := Option.some.inj H
        exact And.intro rfl ⟨hp74, (.cons rfl (.cons rfl (.nil')))⟩
  · rcases v101 with _ | r109
    · intro x φ105 σ104 hJ
      obtain ⟨rfl, hp103, hf106⟩ := hJ
      refine Ec.of (F := [(1, (.v (.int .i64 p1))), (4, (.ptr b1 0))]) hf106 ?_
      refine Ec.seq ?_
      refine Ec.region ?_
      refine Eo.val (x := (.v (.int .i64 p1))) rfl rfl rfl rfl ?_
      refine Eo.val (x := (.v (.int .i64 p1))) rfl rfl rfl rfl ?_
      refine Eo.val (x := (.agg [(.v (.int .i64 p1)), (.v (.int .i64 6)), (.v (.int .i64 0)), (.v (.int .i64 p1)), (.v (.string (ByteArray.mk #[])))])) (op_build (lay_cons rfl rfl rfl rfl rfl (lay_cons rfl rfl rfl rfl rfl (lay_cons rfl rfl rfl rfl rfl lay_nil))) rfl (parts_cons rfl rfl (parts_cons rfl rfl (parts_cons rfl rfl rfl))) Tryd.underlying37 rfl rfl) rfl rfl rfl ?_
      refine Eo.store hp103 0 rfl (storeCells_mk rfl rfl rfl rfl rfl rfl) rfl rfl rfl rfl rfl ?_
      intro σ108 hp107
      change Hp σ108 (.blk b1 (.cells [(.v (.int .i64 p1)), (.v (.int .i64 6)), (.v (.int .i64 0)), (.v (.int .i64 p1)), (.v (.string (ByteArray.mk #[])))] 37) :: R) at hp107
      refine Eo.val (x := (.v (.int .i64 0))) rfl rfl rfl rfl ?_
      refine Eo.nil ?_
      obtain rfl := Option.some.inj H
      refine Ec.ret ?_
      refine Ret.mk' (resA_cell hp107 0 rfl rfl rfl (resA_tmp rfl rfl)) ?_
      exact ⟨rfl, (Hp.drop hp107 0)⟩
    · intro x φ110 σ111 hJ
      obtain rfl := Option.some.inj H
      obtain ⟨rfl, hr⟩ := hJ
      exact hr

def gdovetailref03_In (_n : Nat) (p0 : Int) : Option (Bool) := some ((((((decide (p0 > 32)) && (decide (p0 < 127))) && (p0 != 40)) && (p0 != 41)) && (p0 != 34)) && (p0 != 59))

def gdovetailref03_In_post (R : List Res) (r : Bool) (x : A) (s : St) : Prop := x = (.v (.bool r)) ∧ Hp s (R)

theorem gdovetailref03_In_ok {n : Nat} {p0 : Int} {R : List Res} {σ : St} (hp : Hp σ R) {r : Bool} (H : gdovetailref03_In n p0 = some r) : Ca cfg 12 [(.v (.int .u8 p0))] σ (gdovetailref03_In_post R r) := by
  unfold gdovetailref03_In at H
  refine Ca.enterL (G := [(0, (.v (.int .u8 p0)))]) Tryd.func12 rfl rfl rfl rfl ?_
  refine Ec.seq ?_
  refine Ec.region ?_
  refine Eo.val (x := (.v (.bool false))) rfl rfl rfl rfl ?_
  refine Eo.nil ?_
  refine Ec.seq ?_
  refine Ec.region ?_
  refine Eo.val (x := (.v (.int .u8 p0))) rfl rfl rfl rfl ?_
  refine Eo.val (x := (.v (.bool (decide (p0 > 32))))) rfl rfl rfl rfl ?_
  refine Eo.val (x := (.v (.bool (decide (p0 > 32))))) rfl rfl rfl rfl ?_
  refine Eo.cutF 3 [(0, (.v (.int .u8 p0))), (2, (.v (.bool false))), (8, (.v (.bool ((decide (p0 > 32)) && (decide (p0 < 127))))))] ?_ ?_
  · skip
    cases hc3 : (decide (p0 > 32))
    · skip
      refine Eo.off rfl rfl rfl ?_
      refine Eo.off rfl rfl rfl ?_
      refine Eo.val (x := (.v (.bool false))) rfl rfl rfl rfl ?_
      exact Eo.nil (And.intro rfl (And.intro rfl (.cons rfl (.cons rfl (.cons rfl (.nil'))))))
    · skip
      refine Eo.val (x := (.v (.int .u8 p0))) rfl rfl rfl rfl ?_
      refine Eo.val (x := (.v (.bool (decide (p0 < 127))))) rfl rfl rfl rfl ?_
      refine Eo.val (x := (.v (.bool (decide (p0 < 127))))) rfl rfl rfl rfl ?_
      exact Eo.nil (And.intro rfl (And.intro rfl (.cons rfl (.cons rfl (.cons rfl (.nil'))))))
  · skip
    refine Eo.val (x := (.v (.bool ((decide (p0 > 32)) && (decide (p0 < 127)))))) rfl rfl rfl rfl ?_
    refine Eo.cutF 3 [(0, (.v (.int .u8 p0))), (2, (.v (.bool false))), (12, (.v (.bool (((decide (p0 > 32)) && (decide (p0 < 127))) && (p0 != 40)))))] ?_ ?_
    · skip
      cases hc8 : ((decide (p0 > 32)) && (decide (p0 < 127)))
      · skip
        refine Eo.off rfl rfl rfl ?_
        refine Eo.off rfl rfl rfl ?_
        refine Eo.val (x := (.v (.bool false))) rfl rfl rfl rfl ?_
        exact Eo.nil (And.intro rfl (And.intro rfl (.cons rfl (.cons rfl (.cons rfl (.nil'))))))
      · skip
        refine Eo.val (x := (.v (.int .u8 p0))) rfl rfl rfl rfl ?_
        refine Eo.val (x := (.v (.bool (p0 != 40)))) rfl rfl rfl rfl ?_
        refine Eo.val (x := (.v (.bool (p0 != 40)))) rfl rfl rfl rfl ?_
        exact Eo.nil (And.intro rfl (And.intro rfl (.cons rfl (.cons rfl (.cons rfl (.nil'))))))
    · skip
      refine Eo.val (x := (.v (.bool (((decide (p0 > 32)) && (decide (p0 < 127))) && (p0 != 40))))) rfl rfl rfl rfl ?_
      refine Eo.cutF 3 [(0, (.v (.int .u8 p0))), (2, (.v (.bool false))), (16, (.v (.bool ((((decide (p0 > 32)) && (decide (p0 < 127))) && (p0 != 40)) && (p0 != 41)))))] ?_ ?_
      · skip
        cases hc13 : (((decide (p0 > 32)) && (decide (p0 < 127))) && (p0 != 40))
        · skip
          refine Eo.off rfl rfl rfl ?_
          refine Eo.off rfl rfl rfl ?_
          refine Eo.val (x := (.v (.bool false))) rfl rfl rfl rfl ?_
          exact Eo.nil (And.intro rfl (And.intro rfl (.cons rfl (.cons rfl (.cons rfl (.nil'))))))
        · skip
          refine Eo.val (x := (.v (.int .u8 p0))) rfl rfl rfl rfl ?_
          refine Eo.val (x := (.v (.bool (p0 != 41)))) rfl rfl rfl rfl ?_
          refine Eo.val (x := (.v (.bool (p0 != 41)))) rfl rfl rfl rfl ?_
          exact Eo.nil (And.intro rfl (And.intro rfl (.cons rfl (.cons rfl (.cons rfl (.nil'))))))
      · skip
        refine Eo.val (x := (.v (.bool ((((decide (p0 > 32)) && (decide (p0 < 127))) && (p0 != 40)) && (p0 != 41))))) rfl rfl rfl rfl ?_
        refine Eo.cutF 3 [(0, (.v (.int .u8 p0))), (2, (.v (.bool false))), (20, (.v (.bool (((((decide (p0 > 32)) && (decide (p0 < 127))) && (p0 != 40)) && (p0 != 41)) && (p0 != 34)))))] ?_ ?_
        · skip
          cases hc18 : ((((decide (p0 > 32)) && (decide (p0 < 127))) && (p0 != 40)) && (p0 != 41))
          · skip
            refine Eo.off rfl rfl rfl ?_
            refine Eo.off rfl rfl rfl ?_
            refine Eo.val (x := (.v (.bool false))) rfl rfl rfl rfl ?_
            exact Eo.nil (And.intro rfl (And.intro rfl (.cons rfl (.cons rfl (.cons rfl (.nil'))))))
          · skip
            refine Eo.val (x := (.v (.int .u8 p0))) rfl rfl rfl rfl ?_
            refine Eo.val (x := (.v (.bool (p0 != 34)))) rfl rfl rfl rfl ?_
            refine Eo.val (x := (.v (.bool (p0 != 34)))) rfl rfl rfl rfl ?_
            exact Eo.nil (And.intro rfl (And.intro rfl (.cons rfl (.cons rfl (.cons rfl (.nil'))))))
        · skip
          refine Eo.val (x := (.v (.bool (((((decide (p0 > 32)) && (decide (p0 < 127))) && (p0 != 40)) && (p0 != 41)) && (p0 != 34))))) rfl rfl rfl rfl ?_
          refine Eo.cutF 3 [(2, (.v (.bool false))), (24, (.v (.bool ((((((decide (p0 > 32)) && (decide (p0 < 127))) && (p0 != 40)) && (p0 != 41)) && (p0 != 34)) && (p0 != 59)))))] ?_ ?_
          · skip
            cases hc23 : (((((decide (p0 > 32)) && (decide (p0 < 127))) && (p0 != 40)) && (p0 != 41)) && (p0 != 34))
            · skip
              refine Eo.off rfl rfl rfl ?_
              refine Eo.off rfl rfl rfl ?_
              refine Eo.val (x := (.v (.bool false))) rfl rfl rfl rfl ?_
              exact Eo.nil (And.intro rfl (And.intro rfl (.cons rfl (.cons rfl (.nil')))))
            · skip
              refine Eo.val (x := (.v (.int .u8 p0))) rfl rfl rfl rfl ?_
              refine Eo.val (x := (.v (.bool (p0 != 59)))) rfl rfl rfl rfl ?_
              refine Eo.val (x := (.v (.bool (p0 != 59)))) rfl rfl rfl rfl ?_
              exact Eo.nil (And.intro rfl (And.intro rfl (.cons rfl (.cons rfl (.nil')))))
          · skip
            refine Eo.val (x := (.v (.bool ((((((decide (p0 > 32)) && (decide (p0 < 127))) && (p0 != 40)) && (p0 != 41)) && (p0 != 34)) && (p0 != 59))))) rfl rfl rfl rfl ?_
            refine Eo.nil ?_
            obtain rfl := Option.some.inj H
            refine Ec.ret ?_
            refine Ret.mk rfl ?_
            exact ⟨rfl, hp⟩

def gdovetailref03_Number_L1 (N : Nat) (x12 : ByteArray) : Nat → Int → Int → Option (LR Int (Int × Bool))
  | 0, _, _ => none
  | m + 1, y51, y52 => (cond (decide (y52 < ((x12.size : Nat) : Int))) (((atS x12 y52).bind fun b70 => (((cond (decide (b70 < 48)) (some true) (((atS x12 y52).bind fun b75 => some (decide (b75 > 57))))) : Option (Bool)).bind fun x73 => (cond x73 (some (.ret (0, false))) (((atS x12 y52).bind fun b81 => gdovetailref03_Number_L1 N x12 m (IntKind.wrap .i64 ((IntKind.wrap .i64 (y51 * 10)) + (IntKind.wrap .i64 (IntKind.wrap .u8 (b81 - 48))))) (IntKind.wrap .i64 (y52 + 1)))))))) (some (.out y51)))

def gdovetailref03_Number (n : Nat) (p0 : ByteArray) : Option ((Int × Bool)) := (((cond (decide (((p0.size : Nat) : Int) > 0)) (((atS p0 0).bind fun b5 => some (b5 == 45))) (some false)) : Option (Bool)).bind fun x3 => (((cond x3 (((subS p0 1 ((p0.size : Nat) : Int)).bind fun s14 => some s14)) (some p0)) : Option (ByteArray)).bind fun x12 => (((cond ((decide (((x12.size : Nat) : Int) < 1)) || (decide (((x12.size : Nat) : Int) > 18))) (some true) (((atS x12 0).bind fun b29 => (cond (b29 == 48) (some (decide (((p0.size : Nat) : Int) > 1))) (some false))))) : Option (Bool)).bind fun x27 => (cond x27 (some (0, false)) (((gdovetailref03_Number_L1 n x12 n 0 0).bind fun v => match v with | .out x68 => (((cond (decide (((x12.size : Nat) : Int) < ((p0.size : Nat) : Int))) (some (IntKind.wrap .i64 (0 - x68))) (some x68)) : Option (Int)).bind fun x91 => some (x91, true)) | .ret r99 => some r99))))))

def gdovetailref03_Number_post (R : List Res) (r : (Int × Bool)) (x : A) (s : St) : Prop := x = (.tup [(.v (.int .i64 r.1)), (.v (.bool r.2))]) ∧ Hp s (R)

theorem gdovetailref03_Number_ok {n : Nat} {p0 : ByteArray} {R : List Res} {σ : St} (hp : Hp σ R) {r : (Int × Bool)} (H : gdovetailref03_Number n p0 = some r) : Ca cfg 13 [(.v (.string p0))] σ (gdovetailref03_Number_post R r) := by
  unfold gdovetailref03_Number at H
  refine Ca.enterL (G := [(0, (.v (.string p0)))]) Tryd.func13 rfl rfl rfl rfl ?_
  refine Ec.seq ?_
  refine Ec.region ?_
  refine Eo.val (x := (.v (.int .i64 0))) rfl rfl rfl rfl ?_
  refine Eo.val (x := (.v (.bool false))) rfl rfl rfl rfl ?_
  refine Eo.nil ?_
  refine Ec.seq ?_
  refine Ec.region ?_
  refine Eo.val (x := (.v (.string p0))) rfl rfl rfl rfl ?_
  refine Eo.val (x := (.v (.string p0))) rfl rfl rfl rfl ?_
  refine Eo.nil ?_
  refine Ec.seq ?_
  refine Ec.seq ?_
  refine Ec.region ?_
  refine Eo.val (x := (.v (.string p0))) rfl rfl rfl rfl ?_
  refine Eo.val (x := (.v (.int .i64 ((p0.size : Nat) : Int)))) (op_len rfl rfl rfl rfl rfl Tryd.underlying9) rfl rfl rfl ?_
  refine Eo.val (x := (.v (.bool (decide (((p0.size : Nat) : Int) > 0))))) rfl rfl rfl rfl ?_
  refine Eo.val (x := (.v (.bool (decide (((p0.size : Nat) : Int) > 0))))) rfl rfl rfl rfl ?_
  obtain ⟨x3, hv107, H⟩ := bind_some H
  refine Eo.cutN 4 (J := (fun (x3 : Bool) (x : X) (φ : Fr) (s : St) => x = .normal ∧ (Hp s (R) ∧ Fl [(0, (.v (.string p0))), (4, (.v (.string p0))), (15, (.v (.bool x3)))] φ)) x3) ?_ ?_
  · have H := hv107
    cases hc4 : (decide (((p0.size : Nat) : Int) > 0))
    · have H := cond_f hc4 H
      refine Eo.off rfl rfl rfl ?_
      refine Eo.off rfl rfl rfl ?_
      refine Eo.off rfl rfl rfl ?_
      refine Eo.val (x := (.v (.bool false))) rfl rfl rfl rfl ?_
      refine Eo.nil ?_
      obtain rfl := Option.some.inj H
      exact And.intro rfl ⟨hp, (.cons rfl (.cons rfl (.cons rfl (.nil'))))⟩
    · have H := cond_t hc4 H
      refine Eo.val (x := (.v (.string p0))) rfl rfl rfl rfl ?_
      obtain ⟨b5, hvb5, H⟩ := bind_some H
      refine Eo.val (op_byteS hvb5 rfl rfl rfl Tryd.underlying9) rfl rfl rfl ?_
      refine Eo.val (x := (.v (.bool (b5 == 45)))) rfl rfl rfl rfl ?_
      refine Eo.val (x := (.v (.bool (b5 == 45)))) rfl rfl rfl rfl ?_
      refine Eo.nil ?_
      obtain rfl := Option.some.inj H
      exact And.intro rfl ⟨hp, (.cons rfl (.cons rfl (.cons rfl (.nil'))))⟩
  · skip
    intro x φ8 σ7 hJ
    obtain ⟨rfl, hp6, hf9⟩ := hJ
    refine ⟨rfl, Eo.of (F := [(0, (.v (.string p0))), (4, (.v (.string p0))), (15, (.v (.bool x3)))]) hf9 ?_⟩
    refine Eo.nil ?_
    obtain ⟨x12, hv105, H⟩ := bind_some H
    refine Ec.cut (J := (fun (x12 : ByteArray) (x : X) (φ : Fr) (s : St) => x = .normal ∧ (Hp s (R) ∧ Fl [(0, (.v (.string p0))), (4, (.v (.string x12)))] φ)) x12) ?_ ?_
    · have H := hv105
      refine Ec.cond (t := x3) rfl (fun hc13 => ?_) (fun hc13 => ?_)
      · have H := cond_t hc13 H
        refine Ec.region ?_
        refine Eo.val (x := (.v (.string p0))) rfl rfl rfl rfl ?_
        obtain ⟨s14, hvs14, H⟩ := bind_some H
        refine Eo.val (op_partS hvs14 rfl rfl Tryd.underlying9 (.inr ⟨_, _, rfl, rfl⟩) (.inl ⟨rfl, rfl⟩)) rfl rfl rfl ?_
        refine Eo.val (x := (.v (.string s14))) rfl rfl rfl rfl ?_
        refine Eo.nil ?_
        obtain rfl := Option.some.inj H
        exact And.intro rfl ⟨hp6, (.cons rfl (.cons rfl (.nil')))⟩
      · have H := cond_f hc13 H
        refine Ec.skip ?_
        obtain rfl := Option.some.inj H
        exact And.intro rfl ⟨hp6, (.cons rfl (.cons rfl (.nil')))⟩
    · skip
      intro x φ17 σ16 hJ
      obtain ⟨rfl, hp15, hf18⟩ := hJ
      refine Ec.of (F := [(0, (.v (.string p0))), (4, (.v (.string x12)))]) hf18 ?_
      refine Ec.seq ?_
      refine Ec.seq ?_
      refine Ec.region ?_
      refine Eo.val (x := (.v (.string x12))) rfl rfl rfl rfl ?_
      refine Eo.val (x := (.v (.int .i64 ((x12.size : Nat) : Int)))) (op_len rfl rfl rfl rfl rfl Tryd.underlying9) rfl rfl rfl ?_
      refine Eo.val (x := (.v (.bool (decide (((x12.size : Nat) : Int) < 1))))) rfl rfl rfl rfl ?_
      refine Eo.val (x := (.v (.bool (decide (((x12.size : Nat) : Int) < 1))))) rfl rfl rfl rfl ?_
      refine Eo.cutF 4 [(0, (.v (.string p0))), (4, (.v (.string x12))), (25, (.v (.bool ((decide (((x12.size : Nat) : Int) < 1)) || (decide (((x12.size : Nat) : Int) > 18))))))] ?_ ?_
      · skip
        cases hc21 : (decide (((x12.size : Nat) : Int) < 1))
        · skip
          refine Eo.val (x := (.v (.string x12))) rfl rfl rfl rfl ?_
          refine Eo.val (x := (.v (.int .i64 ((x12.size : Nat) : Int)))) (op_len rfl rfl rfl rfl rfl Tryd.underlying9) rfl rfl rfl ?_
          refine Eo.val (x := (.v (.bool (decide (((x12.size : Nat) : Int) > 18))))) rfl rfl rfl rfl ?_
          refine Eo.val (x := (.v (.bool (decide (((x12.size : Nat) : Int) > 18))))) rfl rfl rfl rfl ?_
          exact Eo.nil (And.intro rfl (And.intro rfl (.cons rfl (.cons rfl (.cons rfl (.nil'))))))
        · skip
          refine Eo.off rfl rfl rfl ?_
          refine Eo.off rfl rfl rfl ?_
          refine Eo.off rfl rfl rfl ?_
          refine Eo.val (x := (.v (.bool true))) rfl rfl rfl rfl ?_
          exact Eo.nil (And.intro rfl (And.intro rfl (.cons rfl (.cons rfl (.cons rfl (.nil'))))))
      · skip
        refine Eo.val (x := (.v (.bool ((decide (((x12.size : Nat) : Int) < 1)) || (decide (((x12.size : Nat) : Int) > 18)))))) rfl rfl rfl rfl ?_
        obtain ⟨x27, hv103, H⟩ := bind_some H
        refine Eo.cutN 9 (J := (fun (x27 : Bool) (x : X) (φ : Fr) (s : St) => x = .normal ∧ (Hp s (R) ∧ Fl [(0, (.v (.string p0))), (4, (.v (.string x12))), (35, (.v (.bool x27)))] φ)) x27) ?_ ?_
        · have H := hv103
          cases hc28 : ((decide (((x12.size : Nat) : Int) < 1)) || (decide (((x12.size : Nat) : Int) > 18)))
          · have H := cond_f hc28 H
            refine Eo.val (x := (.v (.string x12))) rfl rfl rfl rfl ?_
            obtain ⟨b29, hvb29, H⟩ := bind_some H
            refine Eo.val (op_byteS hvb29 rfl rfl rfl Tryd.underlying9) rfl rfl rfl ?_
            refine Eo.val (x := (.v (.bool (b29 == 48)))) rfl rfl rfl rfl ?_
            refine Eo.val (x := (.v (.bool (b29 == 48)))) rfl rfl rfl rfl ?_
            cases hc30 : (b29 == 48)
            · have H := cond_f hc30 H
              refine Eo.off rfl rfl rfl ?_
              refine Eo.off rfl rfl rfl ?_
              refine Eo.off rfl rfl rfl ?_
              refine Eo.val (x := (.v (.bool false))) rfl rfl rfl rfl ?_
              refine Eo.val (x := (.v (.bool false))) rfl rfl rfl rfl ?_
              refine Eo.nil ?_
              obtain rfl := Option.some.inj H
              exact And.intro rfl ⟨hp15, (.cons rfl (.cons rfl (.cons rfl (.nil'))))⟩
            · have H := cond_t hc30 H
              refine Eo.val (x := (.v (.string p0))) rfl rfl rfl rfl ?_
              refine Eo.val (x := (.v (.int .i64 ((p0.size : Nat) : Int)))) (op_len rfl rfl rfl rfl rfl Tryd.underlying9) rfl rfl rfl ?_
              refine Eo.val (x := (.v (.bool (decide (((p0.size : Nat) : Int) > 1))))) rfl rfl rfl rfl ?_
              refine Eo.val (x := (.v (.bool (decide (((p0.size : Nat) : Int) > 1))))) rfl rfl rfl rfl ?_
              refine Eo.val (x := (.v (.bool (decide (((p0.size : Nat) : Int) > 1))))) rfl rfl rfl rfl ?_
              refine Eo.nil ?_
              obtain rfl := Option.some.inj H
              exact And.intro rfl ⟨hp15, (.cons rfl (.cons rfl (.cons rfl (.nil'))))⟩
          · have H := cond_t hc28 H
            refine Eo.off rfl rfl rfl ?_
            refine Eo.off rfl rfl rfl ?_
            refine Eo.off rfl rfl rfl ?_
            refine Eo.off rfl rfl rfl ?_
            refine Eo.off rfl rfl rfl ?_
            refine Eo.off rfl rfl rfl ?_
            refine Eo.off rfl rfl rfl ?_
            refine Eo.off rfl rfl rfl ?_
            refine Eo.val (x := (.v (.bool true))) rfl rfl rfl rfl ?_
            refine Eo.nil ?_
            obtain rfl := Option.some.inj H
            exact And.intro rfl ⟨hp15, (.cons rfl (.cons rfl (.cons rfl (.nil'))))⟩
        · skip
          intro x φ33 σ32 hJ
          obtain ⟨rfl, hp31, hf34⟩ := hJ
          refine ⟨rfl, Eo.of (F := [(0, (.v (.string p0))), (4, (.v (.string x12))), (35, (.v (.bool x27)))]) hf34 ?_⟩
          refine Eo.nil ?_
          refine Ec.cond (t := x27) rfl (fun hc35 => ?_) (fun hc35 => ?_)
          · have H := cond_t hc35 H
            refine Ec.seq ?_
            refine Ec.region ?_
            refine Eo.val (x := (.v (.int .i64 0))) rfl rfl rfl rfl ?_
            refine Eo.val (x := (.v (.bool false))) rfl rfl rfl rfl ?_
            refine Eo.nil ?_
            obtain rfl := Option.some.inj H
            refine Ec.ret ?_
            refine Ret.mk rfl ?_
            exact ⟨rfl, hp31⟩
          · have H := cond_f hc35 H
            refine Ec.skip ?_
            refine Ec.seq ?_
            refine Ec.region ?_
            refine Eo.val (x := (.v (.int .i64 0))) rfl rfl rfl rfl ?_
            refine Eo.nil ?_
            refine Ec.seq ?_
            refine Ec.seq ?_
            refine Ec.region ?_
            refine Eo.val (x := (.v (.int .i64 0))) rfl rfl rfl rfl ?_
            refine Eo.nil ?_
            refine Ec.block ?_
            obtain ⟨v84, hv85, H⟩ := bind_some H
            refine Ec.cut (J := (fun (v : LR Int (Int × Bool)) (x : X) (φ : Fr) (s : St) => match v with | .out x68 => x = (.exit 0) ∧ (Hp s (R) ∧ Fl [(0, (.v (.string p0))), (4, (.v (.string x12))), (5, (.v (.int .i64 x68)))] φ) | .ret r => x = .ret ∧ Ret cfg Tryd.f13 (gdovetailref03_Number_post R r) .ret φ s) v84) (Ec.weak (.cons rfl (.cons rfl (.cons rfl (.cons rfl (.nil'))))) (Ec.loopF (f := (fun m (i : (Int × Int) × Unit) => gdovetailref03_Number_L1 n x12 m i.1.1 i.1.2)) (G := (fun (i : (Int × Int) × Unit) => ([(0, (.v (.string p0))), (4, (.v (.string x12))), (5, (.v (.int .i64 i.1.1))), (6, (.v (.int .i64 i.1.2)))] : List (Nat × A)))) (I := (fun (i : (Int × Int) × Unit) (s : St) => Hp s (R))) (J := (fun (v : LR Int (Int × Bool)) (x : X) (φ : Fr) (s : St) => match v with | .out x68 => x = (.exit 0) ∧ (Hp s (R) ∧ Fl [(0, (.v (.string p0))), (4, (.v (.string x12))), (5, (.v (.int .i64 x68)))] φ) | .ret r => x = .ret ∧ Ret cfg Tryd.f13 (gdovetailref03_Number_post R r) .ret φ s)) (fun _ => rfl) ?_ n ((0, 0), ()) _ v84 hp31 hv85)) ?_
            · rintro m ⟨⟨y51, y52⟩, _⟩ σ0 v hp0 H ih
              change gdovetailref03_Number_L1 n x12 (m + 1) y51 y52 = some v at H
              rw [gdovetailref03_Number_L1] at H
              change Ec _ _ _ [(0, (.v (.string p0))), (4, (.v (.string x12))), (5, (.v (.int .i64 y51))), (6, (.v (.int .i64 y52)))] σ0 _
              refine Ec.seq ?_
              refine Ec.seq ?_
              refine Ec.region ?_
              refine Eo.val (x := (.v (.int .i64 y52))) rfl rfl rfl rfl ?_
              refine Eo.val (x := (.v (.string x12))) rfl rfl rfl rfl ?_
              refine Eo.val (x := (.v (.int .i64 ((x12.size : Nat) : Int)))) (op_len rfl rfl rfl rfl rfl Tryd.underlying9) rfl rfl rfl ?_
              refine Eo.val (x := (.v (.bool (decide (y52 < ((x12.size : Nat) : Int)))))) rfl rfl rfl rfl ?_
              refine Eo.nil ?_
              refine Ec.cond (t := (decide (y52 < ((x12.size : Nat) : Int)))) rfl (fun hc69 => ?_) (fun hc69 => ?_)
              · have H := cond_t hc69 H
                refine Ec.skip ?_
                refine Ec.seq ?_
                refine Ec.block ?_
                refine Ec.seq ?_
                refine Ec.seq ?_
                refine Ec.region ?_
                refine Eo.val (x := (.v (.string x12))) rfl rfl rfl rfl ?_
                refine Eo.val (x := (.v (.int .i64 y52))) rfl rfl rfl rfl ?_
                obtain ⟨b70, hvb70, H⟩ := bind_some H
                refine Eo.val (op_byteS hvb70 rfl rfl rfl Tryd.underlying9) rfl rfl rfl ?_
                refine Eo.val (x := (.v (.bool (decide (b70 < 48))))) rfl rfl rfl rfl ?_
                refine Eo.val (x := (.v (.bool (decide (b70 < 48))))) rfl rfl rfl rfl ?_
                obtain ⟨x73, hv83, H⟩ := bind_some H
                refine Eo.cutN 5 (J := (fun (x73 : Bool) (x : X) (φ : Fr) (s : St) => x = .normal ∧ (Hp s (R) ∧ Fl [(0, (.v (.string p0))), (4, (.v (.string x12))), (5, (.v (.int .i64 y51))), (6, (.v (.int .i64 y52))), (51, (.v (.bool x73)))] φ)) x73) ?_ ?_
                · have H := hv83
                  cases hc74 : (decide (b70 < 48))
                  · have H := cond_f hc74 H
                    refine Eo.val (x := (.v (.string x12))) rfl rfl rfl rfl ?_
                    refine Eo.val (x := (.v (.int .i64 y52))) rfl rfl rfl rfl ?_
                    obtain ⟨b75, hvb75, H⟩ := bind_some H
                    refine Eo.val (op_byteS hvb75 rfl rfl rfl Tryd.underlying9) rfl rfl rfl ?_
                    refine Eo.val (x := (.v (.bool (decide (b75 > 57))))) rfl rfl rfl rfl ?_
                    refine Eo.val (x := (.v (.bool (decide (b75 > 57))))) rfl rfl rfl rfl ?_
                    refine Eo.nil ?_
                    obtain rfl := Option.some.inj H
                    exact And.intro rfl ⟨hp0, (.cons rfl (.cons rfl (.cons rfl (.cons rfl (.cons rfl (.nil'))))))⟩
                  · have H := cond_t hc74 H
                    refine Eo.off rfl rfl rfl ?_
                    refine Eo.off rfl rfl rfl ?_
                    refine Eo.off rfl rfl rfl ?_
                    refine Eo.off rfl rfl rfl ?_
                    refine Eo.val (x := (.v (.bool true))) rfl rfl rfl rfl ?_
                    refine Eo.nil ?_
                    obtain rfl := Option.some.inj H
                    exact And.intro rfl ⟨hp0, (.cons rfl (.cons rfl (.cons rfl (.cons rfl (.cons rfl (.nil'))))))⟩
                · skip
                  intro x φ78 σ77 hJ
                  obtain ⟨rfl, hp76, hf79⟩ := hJ
                  refine ⟨rfl, Eo.of (F := [(0, (.v (.string p0))), (4, (.v (.string x12))), (5, (.v (.int .i64 y51))), (6, (.v (.int .i64 y52))), (51, (.v (.bool x73)))]) hf79 ?_⟩
                  refine Eo.nil ?_
                  refine Ec.cond (t := x73) rfl (fun hc80 => ?_) (fun hc80 => ?_)
                  · have H := cond_t hc80 H
                    refine Ec.seq ?_
                    refine Ec.region ?_
                    refine Eo.val (x := (.v (.int .i64 0))) rfl rfl rfl rfl ?_
                    refine Eo.val (x := (.v (.bool false))) rfl rfl rfl rfl ?_
                    refine Eo.nil ?_
                    obtain rfl := Option.some.inj H
                    refine Ec.ret ?_
                    refine And.intro rfl (Ret.mk rfl ?_)
                    exact ⟨rfl, hp76⟩
                  · have H := cond_f hc80 H
                    refine Ec.skip ?_
                    refine Ec.region ?_
                    refine Eo.val (x := (.v (.int .i64 y51))) rfl rfl rfl rfl ?_
                    refine Eo.val (x := (.v (.int .i64 (IntKind.wrap .i64 (y51 * 10))))) rfl rfl rfl rfl ?_
                    refine Eo.val (x := (.v (.string x12))) rfl rfl rfl rfl ?_
                    refine Eo.val (x := (.v (.int .i64 y52))) rfl rfl rfl rfl ?_
                    obtain ⟨b81, hvb81, H⟩ := bind_some H
                    refine Eo.val (op_byteS hvb81 rfl rfl rfl Tryd.underlying9) rfl rfl rfl ?_
                    refine Eo.val (x := (.v (.int .u8 (IntKind.wrap .u8 (b81 - 48))))) rfl rfl rfl rfl ?_
                    refine Eo.val (x := (.v (.int .i64 (IntKind.wrap .i64 (IntKind.wrap .u8 (b81 - 48)))))) rfl rfl rfl rfl ?_
                    refine Eo.val (x := (.v (.int .i64 (IntKind.wrap .i64 ((IntKind.wrap .i64 (y51 * 10)) + (IntKind.wrap .i64 (IntKind.wrap .u8 (b81 - 48)))))))) rfl rfl rfl rfl ?_
                    refine Eo.val (x := (.v (.int .i64 (IntKind.wrap .i64 ((IntKind.wrap .i64 (y51 * 10)) + (IntKind.wrap .i64 (IntKind.wrap .u8 (b81 - 48)))))))) rfl rfl rfl rfl ?_
                    refine Eo.nil ?_
                    refine Ec.region ?_
                    refine Eo.val (x := (.v (.int .i64 y52))) rfl rfl rfl rfl ?_
                    refine Eo.val (x := (.v (.int .i64 (IntKind.wrap .i64 (y52 + 1))))) rfl rfl rfl rfl ?_
                    refine Eo.val (x := (.v (.int .i64 (IntKind.wrap .i64 (y52 + 1))))) rfl rfl rfl rfl ?_
                    refine Eo.nil ?_
                    exact Ec.of (.cons rfl (.cons rfl (.cons rfl (.cons rfl (.nil'))))) (ih (((IntKind.wrap .i64 ((IntKind.wrap .i64 (y51 * 10)) + (IntKind.wrap .i64 (IntKind.wrap .u8 (b81 - 48))))), (IntKind.wrap .i64 (y52 + 1))), ()) _ hp76 H)
              · have H := cond_f hc69 H
                refine Ec.exit ?_
                obtain rfl := Option.some.inj H
                exact And.intro rfl ⟨hp0, (.cons rfl (.cons rfl (.cons rfl (.nil'))))⟩
            · rcases v84 with x68 | r99
              · intro x φ88 σ87 hJ
                obtain ⟨rfl, hp86, hf89⟩ := hJ
                refine Ec.of (F := [(0, (.v (.string p0))), (4, (.v (.string x12))), (5, (.v (.int .i64 x68)))]) hf89 ?_
                refine Ec.seq ?_
                refine Ec.seq ?_
                refine Ec.region ?_
                refine Eo.val (x := (.v (.string x12))) rfl rfl rfl rfl ?_
                refine Eo.val (x := (.v (.int .i64 ((x12.size : Nat) : Int)))) (op_len rfl rfl rfl rfl rfl Tryd.underlying9) rfl rfl rfl ?_
                refine Eo.val (x := (.v (.string p0))) rfl rfl rfl rfl ?_
                refine Eo.val (x := (.v (.int .i64 ((p0.size : Nat) : Int)))) (op_len rfl rfl rfl rfl rfl Tryd.underlying9) rfl rfl rfl ?_
                refine Eo.val (x := (.v (.bool (decide (((x12.size : Nat) : Int) < ((p0.size : Nat) : Int)))))) rfl rfl rfl rfl ?_
                refine Eo.nil ?_
                obtain ⟨x91, hv98, H⟩ := bind_some H
                refine Ec.cut (J := (fun (x91 : Int) (x : X) (φ : Fr) (s : St) => x = .normal ∧ (Hp s (R) ∧ Fl [(5, (.v (.int .i64 x91)))] φ)) x91) ?_ ?_
                · have H := hv98
                  refine Ec.cond (t := (decide (((x12.size : Nat) : Int) < ((p0.size : Nat) : Int)))) rfl (fun hc92 => ?_) (fun hc92 => ?_)
                  · have H := cond_t hc92 H
                    refine Ec.region ?_
                    refine Eo.val (x := (.v (.int .i64 x68))) rfl rfl rfl rfl ?_
                    refine Eo.val (x := (.v (.int .i64 (IntKind.wrap .i64 (0 - x68))))) rfl rfl rfl rfl ?_
                    refine Eo.val (x := (.v (.int .i64 (IntKind.wrap .i64 (0 - x68))))) rfl rfl rfl rfl ?_
                    refine Eo.nil ?_
                    obtain rfl := Option.some.inj H
                    exact And.intro rfl ⟨hp86, (.cons rfl (.nil'))⟩
                  · have H := cond_f hc92 H
                    refine Ec.skip ?_
                    obtain rfl := Option.some.inj H
                    exact And.intro rfl ⟨hp86, (.cons rfl (.nil'))⟩
                · skip
                  intro x φ95 σ94 hJ
                  obtain ⟨rfl, hp93, hf96⟩ := hJ
                  refine Ec.of (F := [(5, (.v (.int .i64 x91)))]) hf96 ?_
                  refine Ec.seq ?_
                  refine Ec.region ?_
                  refine Eo.val (x := (.v (.int .i64 x91))) rfl rfl rfl rfl ?_
                  refine Eo.val (x := (.v (.int .i64 x91))) rfl rfl rfl rfl ?_
                  refine Eo.val (x := (.v (.bool true))) rfl rfl rfl rfl ?_
                  refine Eo.nil ?_
                  obtain rfl := Option.some.inj H
                  refine Ec.ret ?_
                  refine Ret.mk rfl ?_
                  exact ⟨rfl, hp93⟩
              · intro x φ100 σ101 hJ
                obtain rfl := Option.some.inj H
                obtain ⟨rfl, hr⟩ := hJ
                exact hr

def gdovetailref03_Tokens_L2 (N : Nat) (p0 : ByteArray) : Nat → Int → Option (Int)
  | 0, _ => none
  | m + 1, y873 => (((cond (decide (y873 < ((p0.size : Nat) : Int))) (((atS p0 y873).bind fun b891 => some (b891 != 10))) (some false)) : Option (Bool)).bind fun x889 => (cond x889 (gdovetailref03_Tokens_L2 N p0 m (IntKind.wrap .i64 (y873 + 1))) (some y873)))

def gdovetailref03_Tokens_L3 (N : Nat) (p0 : ByteArray) : Nat → Int → Option (Int)
  | 0, _ => none
  | m + 1, y941 => (((cond (decide (y941 < ((p0.size : Nat) : Int))) (((atS p0 y941).bind fun b968 => ((gdovetailref03_In N b968).bind fun r969 => some r969))) (some false)) : Option (Bool)).bind fun x966 => (cond x966 (gdovetailref03_Tokens_L3 N p0 m (IntKind.wrap .i64 (y941 + 1))) (some y941)))

def gdovetailref03_Tokens_L1 (N : Nat) (p0 : ByteArray) : Nat → (List Tdovetailref03_Token) → Int → Option (LR (List Tdovetailref03_Token) (List Tdovetailref03_Token))
  | 0, _, _ => none
  | m + 1, y344, y347 => (cond (decide (y347 < ((p0.size : Nat) : Int))) (((atS p0 y347).bind fun b690 => (((cond ((b690 == 32) || (b690 == 10)) (some (.ex (IntKind.wrap .i64 (y347 + 1)))) ((cond (b690 == 59) (((gdovetailref03_Tokens_L2 N p0 N y347).bind fun x886 => some (.ex x886))) ((cond (b690 == 40) (some (.out ((IntKind.wrap .i64 (y347 + 1)), y347, 4, 0, 0, (ByteArray.mk #[])))) ((cond (b690 == 41) (some (.out ((IntKind.wrap .i64 (y347 + 1)), y347, 5, 0, 0, (ByteArray.mk #[])))) ((cond (b690 == 34) (((gdovetailref03_text N p0 y347).bind fun v => match v with | (r913, r914) => some (.out (r914, r913.f_At, r913.f_Kind, r913.f_Num, r913.f_Wrong, r913.f_Word)))) (((gdovetailref03_In N b690).bind fun r919 => (cond r919 (((gdovetailref03_Tokens_L3 N p0 N (IntKind.wrap .i64 (y347 + 1))).bind fun x960 => ((subS p0 y347 x960).bind fun s985 => (cond ((b690 == 45) || ((decide (b690 ≥ 48)) && (decide (b690 ≤ 57)))) (((gdovetailref03_Number N s985).bind fun v => match v with | (r996, r997) => (cond r997 (some (.out (x960, y347, 2, r996, 0, (ByteArray.mk #[])))) (some (.out (x960, y347, 6, 0, y347, (ByteArray.mk #[]))))))) (some (.out (x960, y347, 1, 0, 0, s985))))))) (some (.out ((IntKind.wrap .i64 (y347 + 1)), y347, 6, 0, y347, (ByteArray.mk #[])))))))))))))))) : Option (LX (Int × Int × Int × Int × Int × ByteArray) Int Unit)).bind fun v => match v with | .out (x847, x848, x849, x850, x851, x852) => ((appL 48 y344 ([(Tdovetailref03_Token.mk x848 x849 x850 x851 x852)] : List Tdovetailref03_Token)).bind fun l1013 => (cond (x849 == 6) (some (.ret l1013)) (gdovetailref03_Tokens_L1 N p0 m l1013 x847))) | .ex x853 => gdovetailref03_Tokens_L1 N p0 m y344 x853 | .ret _ => none))) (some (.out y344)))

def gdovetailref03_Tokens (n : Nat) (p0 : ByteArray) : Option ((List Tdovetailref03_Token)) := ((gdovetailref03_Tokens_L1 n p0 n ([] : List Tdovetailref03_Token) 0).bind fun v => match v with | .out x686 => some x686 | .ret r1033 => some r1033)

def gdovetailref03_Tokens_post (R : List Res) (r : (List Tdovetailref03_Token)) (x : A) (s : St) : Prop := ∃ (a1 : A), x = a1 ∧ Sl rTdovetailref03_Token a1 r ∧ Hp s (.app a1 37 :: R)

theorem gdovetailref03_Tokens_ok {n : Nat} {p0 : ByteArray} {R : List Res} {σ : St} (hp : Hp σ R) {r : (List Tdovetailref03_Token)} (H : gdovetailref03_Tokens n p0 = some r) : Ca cfg 8 [(.v (.string p0))] σ (gdovetailref03_Tokens_post R r) := by
  unfold gdovetailref03_Tokens at H
  refine Ca.enterL (G := [(0, (.v (.string p0)))]) Tryd.func8 rfl rfl rfl rfl ?_
  refine Ec.seq ?_
  refine Ec.region ?_
  refine Eo.val (x := nilS) rfl rfl rfl rfl ?_
  refine Eo.nil ?_
  refine Ec.seq ?_
  refine Ec.region ?_
  refine Eo.val (x := (.sl 5 [] .ex)) rfl rfl rfl rfl ?_
  have hp5 := Hp.appEx hp 37 5 []
  refine Eo.val (x := (.sl 5 [] .ex)) rfl rfl rfl rfl ?_
  refine Eo.nil ?_
  refine Ec.seq ?_
  refine Ec.region ?_
  refine Eo.val (x := (.v (.int .i64 0))) rfl rfl rfl rfl ?_
  refine Eo.nil ?_
  refine Ec.seq ?_
  refine Ec.block ?_
  obtain ⟨v1027, hv1028, H⟩ := bind_some H
  refine Ec.cut (J := (fun (v : LR (List Tdovetailref03_Token) (List Tdovetailref03_Token)) (x : X) (φ : Fr) (s : St) => match v with | .out x686 => x = (.exit 0) ∧ (∃ (a687 : A), Sl rTdovetailref03_Token a687 x686 ∧ Hp s (.app a687 37 :: R) ∧ Fl [(3, a687)] φ) | .ret r => x = .ret ∧ Ret cfg Tryd.f8 (gdovetailref03_Tokens_post R r) .ret φ s) v1027) (Ec.weak (.cons rfl (.cons rfl (.cons rfl (.nil')))) (Ec.loopF (f := (fun m (i : ((List Tdovetailref03_Token) × Int) × A) => gdovetailref03_Tokens_L1 n p0 m i.1.1 i.1.2)) (G := (fun (i : ((List Tdovetailref03_Token) × Int) × A) => ([(0, (.v (.string p0))), (3, i.2), (4, (.v (.int .i64 i.1.2)))] : List (Nat × A)))) (I := (fun (i : ((List Tdovetailref03_Token) × Int) × A) (s : St) => Sl rTdovetailref03_Token i.2 i.1.1 ∧ Hp s (.app i.2 37 :: R))) (J := (fun (v : LR (List Tdovetailref03_Token) (List Tdovetailref03_Token)) (x : X) (φ : Fr) (s : St) => match v with | .out x686 => x = (.exit 0) ∧ (∃ (a687 : A), Sl rTdovetailref03_Token a687 x686 ∧ Hp s (.app a687 37 :: R) ∧ Fl [(3, a687)] φ) | .ret r => x = .ret ∧ Ret cfg Tryd.f8 (gdovetailref03_Tokens_post R r) .ret φ s)) (fun _ => rfl) ?_ n ((([] : List Tdovetailref03_Token), 0), (.sl 5 [] .ex)) _ v1027 ⟨(.inr ⟨_, _, rfl, .nil⟩ : Sl rTdovetailref03_Token (.sl 5 [] .ex) ([] : List Tdovetailref03_Token)), hp5⟩ hv1028)) ?_
  · rintro m ⟨⟨y344, y347⟩, a345⟩ σ0 v ⟨h346, hp0⟩ H ih
    change gdovetailref03_Tokens_L1 n p0 (m + 1) y344 y347 = some v at H
    rw [gdovetailref03_Tokens_L1] at H
    change Ec _ _ _ [(0, (.v (.string p0))), (3, a345), (4, (.v (.int .i64 y347)))] σ0 _
    refine Ec.seq ?_
    refine Ec.seq ?_
    refine Ec.region ?_
    refine Eo.val (x := (.v (.int .i64 y347))) rfl rfl rfl rfl ?_
    refine Eo.val (x := (.v (.string p0))) rfl rfl rfl rfl ?_
    refine Eo.val (x := (.v (.int .i64 ((p0.size : Nat) : Int)))) (op_len rfl rfl rfl rfl rfl Tryd.underlying9) rfl rfl rfl ?_
    refine Eo.val (x := (.v (.bool (decide (y347 < ((p0.size : Nat) : Int)))))) rfl rfl rfl rfl ?_
    refine Eo.nil ?_
    refine Ec.cond (t := (decide (y347 < ((p0.size : Nat) : Int)))) rfl (fun hc689 => ?_) (fun hc689 => ?_)
    · have H := cond_t hc689 H
      refine Ec.skip ?_
      refine Ec.block ?_
      refine Ec.seq ?_
      refine Ec.region ?_
      refine Eo.val (x := (.v (.string p0))) rfl rfl rfl rfl ?_
      refine Eo.val (x := (.v (.int .i64 y347))) rfl rfl rfl rfl ?_
      obtain ⟨b690, hvb690, H⟩ := bind_some H
      refine Eo.val (op_byteS hvb690 rfl rfl rfl Tryd.underlying9) rfl rfl rfl ?_
      refine Eo.val (x := (.v (.int .u8 b690))) rfl rfl rfl rfl ?_
      refine Eo.nil ?_
      refine Ec.seq ?_
      refine Ec.region ?_
      refine Eo.val (x := (.v (.int .i64 y347))) rfl rfl rfl rfl ?_
      refine Eo.val (x := (.v (.int .i64 y347))) rfl rfl rfl rfl ?_
      refine Eo.val (x := (.agg [(.v (.int .i64 y347)), (.v (.int .i64 6)), (.v (.int .i64 0)), (.v (.int .i64 y347)), (.v (.string (ByteArray.mk #[])))])) (op_build (lay_cons rfl rfl rfl rfl rfl (lay_cons rfl rfl rfl rfl rfl (lay_cons rfl rfl rfl rfl rfl lay_nil))) rfl (parts_cons rfl rfl (parts_cons rfl rfl (parts_cons rfl rfl rfl))) Tryd.underlying37 rfl rfl) rfl rfl rfl ?_
      refine Eo.alloc (z := [(.v (.int .i64 0)), (.v (.int .i64 0)), (.v (.int .i64 0)), (.v (.int .i64 0)), (.v (.string (ByteArray.mk #[])))]) hp0 rfl rfl rfl rfl rfl ?_
      intro b691 σ693 hp692
      refine Eo.store hp692 0 rfl (storeCells_mk rfl rfl rfl rfl rfl rfl) rfl rfl rfl rfl rfl ?_
      intro σ695 hp694
      change Hp σ695 (.blk b691 (.cells [(.v (.int .i64 y347)), (.v (.int .i64 6)), (.v (.int .i64 0)), (.v (.int .i64 y347)), (.v (.string (ByteArray.mk #[])))] 37) :: .app a345 37 :: R) at hp694
      refine Eo.nil ?_
      refine Ec.seq ?_
      refine Ec.region ?_
      refine Eo.val (x := (.v (.int .i64 y347))) rfl rfl rfl rfl ?_
      refine Eo.val (x := (.v (.int .i64 (IntKind.wrap .i64 (y347 + 1))))) rfl rfl rfl rfl ?_
      refine Eo.val (x := (.v (.int .i64 (IntKind.wrap .i64 (y347 + 1))))) rfl rfl rfl rfl ?_
      refine Eo.nil ?_
      refine Ec.seq ?_
      obtain ⟨v1025, hv1026, H⟩ := bind_some H
      refine Ec.cut (J := (fun (v : LX (Int × Int × Int × Int × Int × ByteArray) Int Unit) (x : X) (φ : Fr) (s : St) => match v with | .out (x847, x848, x849, x850, x851, x852) => x = .normal ∧ (Hp s (.blk b691 (.cells [(.v (.int .i64 x848)), (.v (.int .i64 x849)), (.v (.int .i64 x850)), (.v (.int .i64 x851)), (.v (.string x852))] 37) :: .app a345 37 :: R) ∧ Fl [(0, (.v (.string p0))), (3, a345), (6, (.ptr b691 0)), (7, (.v (.int .i64 x847)))] φ) | .ex x853 => x = (.exit 1) ∧ (Hp s (.app a345 37 :: R) ∧ Fl [(0, (.v (.string p0))), (3, a345), (4, (.v (.int .i64 x853)))] φ) | .ret _ => False) v1025) ?_ ?_
      · have H := hv1026
        refine Ec.block ?_
        refine Ec.seq ?_
        refine Ec.region ?_
        refine Eo.val (x := (.v (.int .u8 b690))) rfl rfl rfl rfl ?_
        refine Eo.val (x := (.v (.bool (b690 == 32)))) rfl rfl rfl rfl ?_
        refine Eo.val (x := (.v (.bool (b690 == 32)))) rfl rfl rfl rfl ?_
        refine Eo.cutF 3 [(0, (.v (.string p0))), (3, a345), (4, (.v (.int .i64 y347))), (5, (.v (.int .u8 b690))), (6, (.ptr b691 0)), (7, (.v (.int .i64 (IntKind.wrap .i64 (y347 + 1))))), (30, (.v (.bool ((b690 == 32) || (b690 == 10)))))] ?_ ?_
        · skip
          cases hc856 : (b690 == 32)
          · skip
            refine Eo.val (x := (.v (.int .u8 b690))) rfl rfl rfl rfl ?_
            refine Eo.val (x := (.v (.bool (b690 == 10)))) rfl rfl rfl rfl ?_
            refine Eo.val (x := (.v (.bool (b690 == 10)))) rfl rfl rfl rfl ?_
            exact Eo.nil (And.intro rfl (And.intro rfl (.cons rfl (.cons rfl (.cons rfl (.cons rfl (.cons rfl (.cons rfl (.cons rfl (.nil'))))))))))
          · skip
            refine Eo.off rfl rfl rfl ?_
            refine Eo.off rfl rfl rfl ?_
            refine Eo.val (x := (.v (.bool true))) rfl rfl rfl rfl ?_
            exact Eo.nil (And.intro rfl (And.intro rfl (.cons rfl (.cons rfl (.cons rfl (.cons rfl (.cons rfl (.cons rfl (.cons rfl (.nil'))))))))))
        · skip
          refine Eo.val (x := (.v (.bool ((b690 == 32) || (b690 == 10))))) rfl rfl rfl rfl ?_
          refine Eo.nil ?_
          refine Ec.cond (t := ((b690 == 32) || (b690 == 10))) rfl (fun hc859 => ?_) (fun hc859 => ?_)
          · have H := cond_t hc859 H
            refine Ec.seq ?_
            refine Ec.region ?_
            refine Eo.val (x := (.v (.int .i64 y347))) rfl rfl rfl rfl ?_
            refine Eo.val (x := (.v (.int .i64 (IntKind.wrap .i64 (y347 + 1))))) rfl rfl rfl rfl ?_
            refine Eo.val (x := (.v (.int .i64 (IntKind.wrap .i64 (y347 + 1))))) rfl rfl rfl rfl ?_
            refine Eo.nil ?_
            refine Ec.exit ?_
            obtain rfl := Option.some.inj H
            exact And.intro rfl ⟨(Hp.drop hp694 0), (.cons rfl (.cons rfl (.cons rfl (.nil'))))⟩
          · have H := cond_f hc859 H
            refine Ec.seq ?_
            refine Ec.region ?_
            refine Eo.val (x := (.v (.int .u8 b690))) rfl rfl rfl rfl ?_
            refine Eo.val (x := (.v (.bool (b690 == 59)))) rfl rfl rfl rfl ?_
            refine Eo.val (x := (.v (.bool (b690 == 59)))) rfl rfl rfl rfl ?_
            refine Eo.nil ?_
            refine Ec.cond (t := (b690 == 59)) rfl (fun hc860 => ?_) (fun hc860 => ?_)
            · have H := cond_t hc860 H
              refine Ec.seq ?_
              refine Ec.block ?_
              obtain ⟨x886, hv900, H⟩ := bind_some H
              refine Ec.cut (J := (fun (x886 : Int) (x : X) (φ : Fr) (s : St) => x = (.exit 3) ∧ (Hp s (.app a345 37 :: R) ∧ Fl [(0, (.v (.string p0))), (3, a345), (4, (.v (.int .i64 x886)))] φ)) x886) (Ec.weak (.cons rfl (.cons rfl (.cons rfl (.nil')))) (Ec.loopF (f := (fun m (i : Int × Unit) => gdovetailref03_Tokens_L2 n p0 m i.1)) (G := (fun (i : Int × Unit) => ([(0, (.v (.string p0))), (3, a345), (4, (.v (.int .i64 i.1)))] : List (Nat × A)))) (I := (fun (i : Int × Unit) (s : St) => Hp s (.app a345 37 :: R))) (J := (fun (x886 : Int) (x : X) (φ : Fr) (s : St) => x = (.exit 3) ∧ (Hp s (.app a345 37 :: R) ∧ Fl [(0, (.v (.string p0))), (3, a345), (4, (.v (.int .i64 x886)))] φ))) (fun _ => rfl) ?_ n (y347, ()) _ x886 (Hp.drop hp694 0) hv900)) ?_
              · rintro m ⟨y873, _⟩ σ0 v hp0 H ih
                change gdovetailref03_Tokens_L2 n p0 (m + 1) y873 = some v at H
                rw [gdovetailref03_Tokens_L2] at H
                change Ec _ _ _ [(0, (.v (.string p0))), (3, a345), (4, (.v (.int .i64 y873)))] σ0 _
                refine Ec.seq ?_
                refine Ec.seq ?_
                refine Ec.region ?_
                refine Eo.val (x := (.v (.int .i64 y873))) rfl rfl rfl rfl ?_
                refine Eo.val (x := (.v (.string p0))) rfl rfl rfl rfl ?_
                refine Eo.val (x := (.v (.int .i64 ((p0.size : Nat) : Int)))) (op_len rfl rfl rfl rfl rfl Tryd.underlying9) rfl rfl rfl ?_
                refine Eo.val (x := (.v (.bool (decide (y873 < ((p0.size : Nat) : Int)))))) rfl rfl rfl rfl ?_
                refine Eo.val (x := (.v (.bool (decide (y873 < ((p0.size : Nat) : Int)))))) rfl rfl rfl rfl ?_
                obtain ⟨x889, hv898, H⟩ := bind_some H
                refine Eo.cutN 5 (J := (fun (x889 : Bool) (x : X) (φ : Fr) (s : St) => x = .normal ∧ (Hp s (.app a345 37 :: R) ∧ Fl [(0, (.v (.string p0))), (3, a345), (4, (.v (.int .i64 y873))), (45, (.v (.bool x889)))] φ)) x889) ?_ ?_
                · have H := hv898
                  cases hc890 : (decide (y873 < ((p0.size : Nat) : Int)))
                  · have H := cond_f hc890 H
                    refine Eo.off rfl rfl rfl ?_
                    refine Eo.off rfl rfl rfl ?_
                    refine Eo.off rfl rfl rfl ?_
                    refine Eo.off rfl rfl rfl ?_
                    refine Eo.val (x := (.v (.bool false))) rfl rfl rfl rfl ?_
                    refine Eo.nil ?_
                    obtain rfl := Option.some.inj H
                    exact And.intro rfl ⟨hp0, (.cons rfl (.cons rfl (.cons rfl (.cons rfl (.nil')))))⟩
                  · have H := cond_t hc890 H
                    refine Eo.val (x := (.v (.string p0))) rfl rfl rfl rfl ?_
                    refine Eo.val (x := (.v (.int .i64 y873))) rfl rfl rfl rfl ?_
                    obtain ⟨b891, hvb891, H⟩ := bind_some H
                    refine Eo.val (op_byteS hvb891 rfl rfl rfl Tryd.underlying9) rfl rfl rfl ?_
                    refine Eo.val (x := (.v (.bool (b891 != 10)))) rfl rfl rfl rfl ?_
                    refine Eo.val (x := (.v (.bool (b891 != 10)))) rfl rfl rfl rfl ?_
                    refine Eo.nil ?_
                    obtain rfl := Option.some.inj H
                    exact And.intro rfl ⟨hp0, (.cons rfl (.cons rfl (.cons rfl (.cons rfl (.nil')))))⟩
                · skip
                  intro x φ894 σ893 hJ
                  obtain ⟨rfl, hp892, hf895⟩ := hJ
                  refine ⟨rfl, Eo.of (F := [(0, (.v (.string p0))), (3, a345), (4, (.v (.int .i64 y873))), (45, (.v (.bool x889)))]) hf895 ?_⟩
                  refine Eo.nil ?_
                  refine Ec.cond (t := x889) rfl (fun hc896 => ?_) (fun hc896 => ?_)
                  · have H := cond_t hc896 H
                    refine Ec.skip ?_
                    refine Ec.block ?_
                    refine Ec.region ?_
                    refine Eo.val (x := (.v (.int .i64 y873))) rfl rfl rfl rfl ?_
                    refine Eo.val (x := (.v (.int .i64 (IntKind.wrap .i64 (y873 + 1))))) rfl rfl rfl rfl ?_
                    refine Eo.val (x := (.v (.int .i64 (IntKind.wrap .i64 (y873 + 1))))) rfl rfl rfl rfl ?_
                    refine Eo.nil ?_
                    exact Ec.of (.cons rfl (.cons rfl (.cons rfl (.nil')))) (ih ((IntKind.wrap .i64 (y873 + 1)), ()) _ hp892 H)
                  · have H := cond_f hc896 H
                    refine Ec.exit ?_
                    obtain rfl := Option.some.inj H
                    exact And.intro rfl ⟨hp892, (.cons rfl (.cons rfl (.cons rfl (.nil'))))⟩
              · skip
                intro x φ903 σ902 hJ
                obtain ⟨rfl, hp901, hf904⟩ := hJ
                refine Ec.of (F := [(0, (.v (.string p0))), (3, a345), (4, (.v (.int .i64 x886)))]) hf904 ?_
                refine Ec.exit ?_
                obtain rfl := Option.some.inj H
                exact And.intro rfl ⟨hp901, (.cons rfl (.cons rfl (.cons rfl (.nil'))))⟩
            · have H := cond_f hc860 H
              refine Ec.seq ?_
              refine Ec.region ?_
              refine Eo.val (x := (.v (.int .u8 b690))) rfl rfl rfl rfl ?_
              refine Eo.val (x := (.v (.bool (b690 == 40)))) rfl rfl rfl rfl ?_
              refine Eo.val (x := (.v (.bool (b690 == 40)))) rfl rfl rfl rfl ?_
              refine Eo.nil ?_
              refine Ec.cond (t := (b690 == 40)) rfl (fun hc905 => ?_) (fun hc905 => ?_)
              · have H := cond_t hc905 H
                refine Ec.region ?_
                refine Eo.val (x := (.v (.int .i64 y347))) rfl rfl rfl rfl ?_
                refine Eo.val (x := (.agg [(.v (.int .i64 y347)), (.v (.int .i64 4)), (.v (.int .i64 0)), (.v (.int .i64 0)), (.v (.string (ByteArray.mk #[])))])) (op_build (lay_cons rfl rfl rfl rfl rfl (lay_cons rfl rfl rfl rfl rfl lay_nil)) rfl (parts_cons rfl rfl (parts_cons rfl rfl rfl)) Tryd.underlying37 rfl rfl) rfl rfl rfl ?_
                refine Eo.store hp694 0 rfl (storeCells_mk rfl rfl rfl rfl rfl rfl) rfl rfl rfl rfl rfl ?_
                intro σ907 hp906
                change Hp σ907 (.blk b691 (.cells [(.v (.int .i64 y347)), (.v (.int .i64 4)), (.v (.int .i64 0)), (.v (.int .i64 0)), (.v (.string (ByteArray.mk #[])))] 37) :: .app a345 37 :: R) at hp906
                refine Eo.nil ?_
                obtain rfl := Option.some.inj H
                exact And.intro rfl ⟨(Hp.front (Hp.front hp906 1) 1), (.cons rfl (.cons rfl (.cons rfl (.cons rfl (.nil')))))⟩
              · have H := cond_f hc905 H
                refine Ec.seq ?_
                refine Ec.region ?_
                refine Eo.val (x := (.v (.int .u8 b690))) rfl rfl rfl rfl ?_
                refine Eo.val (x := (.v (.bool (b690 == 41)))) rfl rfl rfl rfl ?_
                refine Eo.val (x := (.v (.bool (b690 == 41)))) rfl rfl rfl rfl ?_
                refine Eo.nil ?_
                refine Ec.cond (t := (b690 == 41)) rfl (fun hc908 => ?_) (fun hc908 => ?_)
                · have H := cond_t hc908 H
                  refine Ec.region ?_
                  refine Eo.val (x := (.v (.int .i64 y347))) rfl rfl rfl rfl ?_
                  refine Eo.val (x := (.agg [(.v (.int .i64 y347)), (.v (.int .i64 5)), (.v (.int .i64 0)), (.v (.int .i64 0)), (.v (.string (ByteArray.mk #[])))])) (op_build (lay_cons rfl rfl rfl rfl rfl (lay_cons rfl rfl rfl rfl rfl lay_nil)) rfl (parts_cons rfl rfl (parts_cons rfl rfl rfl)) Tryd.underlying37 rfl rfl) rfl rfl rfl ?_
                  refine Eo.store hp694 0 rfl (storeCells_mk rfl rfl rfl rfl rfl rfl) rfl rfl rfl rfl rfl ?_
                  intro σ910 hp909
                  change Hp σ910 (.blk b691 (.cells [(.v (.int .i64 y347)), (.v (.int .i64 5)), (.v (.int .i64 0)), (.v (.int .i64 0)), (.v (.string (ByteArray.mk #[])))] 37) :: .app a345 37 :: R) at hp909
                  refine Eo.nil ?_
                  obtain rfl := Option.some.inj H
                  exact And.intro rfl ⟨(Hp.front (Hp.front hp909 1) 1), (.cons rfl (.cons rfl (.cons rfl (.cons rfl (.nil')))))⟩
                · have H := cond_f hc908 H
                  refine Ec.seq ?_
                  refine Ec.region ?_
                  refine Eo.val (x := (.v (.int .u8 b690))) rfl rfl rfl rfl ?_
                  refine Eo.val (x := (.v (.bool (b690 == 34)))) rfl rfl rfl rfl ?_
                  refine Eo.val (x := (.v (.bool (b690 == 34)))) rfl rfl rfl rfl ?_
                  refine Eo.nil ?_
                  refine Ec.cond (t := (b690 == 34)) rfl (fun hc911 => ?_) (fun hc911 => ?_)
                  · have H := cond_t hc911 H
                    refine Ec.region ?_
                    refine Eo.val (x := (.v (.string p0))) rfl rfl rfl rfl ?_
                    refine Eo.val (x := (.v (.int .i64 y347))) rfl rfl rfl rfl ?_
                    obtain ⟨r912, hvr912, H⟩ := bind_some H
                    refine Eo.call rfl rfl rfl rfl (gdovetailref03_text_ok hp694 hvr912) ?_
                    obtain ⟨r913, r914⟩ := r912
                    rintro _ σ916 ⟨rfl, hp915⟩
                    refine Eo.val (x := (.tup [(.agg [(.v (.int .i64 r913.f_At)), (.v (.int .i64 r913.f_Kind)), (.v (.int .i64 r913.f_Num)), (.v (.int .i64 r913.f_Wrong)), (.v (.string r913.f_Word))]), (.v (.int .i64 r914))])) rfl rfl rfl rfl ?_
                    refine Eo.val (x := (.agg [(.v (.int .i64 r913.f_At)), (.v (.int .i64 r913.f_Kind)), (.v (.int .i64 r913.f_Num)), (.v (.int .i64 r913.f_Wrong)), (.v (.string r913.f_Word))])) rfl rfl rfl rfl ?_
                    refine Eo.val (x := (.v (.int .i64 r914))) rfl rfl rfl rfl ?_
                    refine Eo.store hp915 0 rfl (storeCells_mk rfl rfl rfl rfl rfl rfl) rfl rfl rfl rfl rfl ?_
                    intro σ918 hp917
                    change Hp σ918 (.blk b691 (.cells [(.v (.int .i64 r913.f_At)), (.v (.int .i64 r913.f_Kind)), (.v (.int .i64 r913.f_Num)), (.v (.int .i64 r913.f_Wrong)), (.v (.string r913.f_Word))] 37) :: .app a345 37 :: R) at hp917
                    refine Eo.val (x := (.v (.int .i64 r914))) rfl rfl rfl rfl ?_
                    refine Eo.nil ?_
                    obtain rfl := Option.some.inj H
                    exact And.intro rfl ⟨(Hp.front (Hp.front hp917 1) 1), (.cons rfl (.cons rfl (.cons rfl (.cons rfl (.nil')))))⟩
                  · have H := cond_f hc911 H
                    refine Ec.seq ?_
                    refine Ec.region ?_
                    refine Eo.val (x := (.v (.int .u8 b690))) rfl rfl rfl rfl ?_
                    obtain ⟨r919, hvr919, H⟩ := bind_some H
                    refine Eo.call rfl rfl rfl rfl (gdovetailref03_In_ok hp694 hvr919) ?_
                    rintro _ σ921 ⟨rfl, hp920⟩
                    refine Eo.val (x := (.v (.bool r919))) rfl rfl rfl rfl ?_
                    refine Eo.nil ?_
                    refine Ec.cond (t := r919) rfl (fun hc922 => ?_) (fun hc922 => ?_)
                    · have H := cond_t hc922 H
                      refine Ec.seq ?_
                      refine Ec.block ?_
                      obtain ⟨x960, hv980, H⟩ := bind_some H
                      refine Ec.cut (J := (fun (x960 : Int) (x : X) (φ : Fr) (s : St) => x = (.exit 5) ∧ (Hp s (.blk b691 (.cells [(.v (.int .i64 y347)), (.v (.int .i64 6)), (.v (.int .i64 0)), (.v (.int .i64 y347)), (.v (.string (ByteArray.mk #[])))] 37) :: .app a345 37 :: R) ∧ Fl [(0, (.v (.string p0))), (3, a345), (4, (.v (.int .i64 y347))), (5, (.v (.int .u8 b690))), (6, (.ptr b691 0)), (7, (.v (.int .i64 x960)))] φ)) x960) (Ec.weak (.cons rfl (.cons rfl (.cons rfl (.cons rfl (.cons rfl (.cons rfl (.nil'))))))) (Ec.loopF (f := (fun m (i : Int × Unit) => gdovetailref03_Tokens_L3 n p0 m i.1)) (G := (fun (i : Int × Unit) => ([(0, (.v (.string p0))), (3, a345), (4, (.v (.int .i64 y347))), (5, (.v (.int .u8 b690))), (6, (.ptr b691 0)), (7, (.v (.int .i64 i.1)))] : List (Nat × A)))) (I := (fun (i : Int × Unit) (s : St) => Hp s (.blk b691 (.cells [(.v (.int .i64 y347)), (.v (.int .i64 6)), (.v (.int .i64 0)), (.v (.int .i64 y347)), (.v (.string (ByteArray.mk #[])))] 37) :: .app a345 37 :: R))) (J := (fun (x960 : Int) (x : X) (φ : Fr) (s : St) => x = (.exit 5) ∧ (Hp s (.blk b691 (.cells [(.v (.int .i64 y347)), (.v (.int .i64 6)), (.v (.int .i64 0)), (.v (.int .i64 y347)), (.v (.string (ByteArray.mk #[])))] 37) :: .app a345 37 :: R) ∧ Fl [(0, (.v (.string p0))), (3, a345), (4, (.v (.int .i64 y347))), (5, (.v (.int .u8 b690))), (6, (.ptr b691 0)), (7, (.v (.int .i64 x960)))] φ))) (fun _ => rfl) ?_ n ((IntKind.wrap .i64 (y347 + 1)), ()) _ x960 (Hp.front (Hp.front hp920 1) 1) hv980)) ?_
                      · rintro m ⟨y941, _⟩ σ0 v hp0 H ih
                        change gdovetailref03_Tokens_L3 n p0 (m + 1) y941 = some v at H
                        rw [gdovetailref03_Tokens_L3] at H
                        change Ec _ _ _ [(0, (.v (.string p0))), (3, a345), (4, (.v (.int .i64 y347))), (5, (.v (.int .u8 b690))), (6, (.ptr b691 0)), (7, (.v (.int .i64 y941)))] σ0 _
                        refine Ec.seq ?_
                        refine Ec.seq ?_
                        refine Ec.region ?_
                        refine Eo.val (x := (.v (.int .i64 y941))) rfl rfl rfl rfl ?_
                        refine Eo.val (x := (.v (.string p0))) rfl rfl rfl rfl ?_
                        refine Eo.val (x := (.v (.int .i64 ((p0.size : Nat) : Int)))) (op_len rfl rfl rfl rfl rfl Tryd.underlying9) rfl rfl rfl ?_
                        refine Eo.val (x := (.v (.bool (decide (y941 < ((p0.size : Nat) : Int)))))) rfl rfl rfl rfl ?_
                        refine Eo.val (x := (.v (.bool (decide (y941 < ((p0.size : Nat) : Int)))))) rfl rfl rfl rfl ?_
                        obtain ⟨x966, hv978, H⟩ := bind_some H
                        refine Eo.cutN 5 (J := (fun (x966 : Bool) (x : X) (φ : Fr) (s : St) => x = .normal ∧ (Hp s (.blk b691 (.cells [(.v (.int .i64 y347)), (.v (.int .i64 6)), (.v (.int .i64 0)), (.v (.int .i64 y347)), (.v (.string (ByteArray.mk #[])))] 37) :: .app a345 37 :: R) ∧ Fl [(0, (.v (.string p0))), (3, a345), (4, (.v (.int .i64 y347))), (5, (.v (.int .u8 b690))), (6, (.ptr b691 0)), (7, (.v (.int .i64 y941))), (79, (.v (.bool x966)))] φ)) x966) ?_ ?_
                        · have H := hv978
                          cases hc967 : (decide (y941 < ((p0.size : Nat) : Int)))
                          · have H := cond_f hc967 H
                            refine Eo.off rfl rfl rfl ?_
                            refine Eo.off rfl rfl rfl ?_
                            refine Eo.off rfl rfl rfl ?_
                            refine Eo.off rfl rfl rfl ?_
                            refine Eo.val (x := (.v (.bool false))) rfl rfl rfl rfl ?_
                            refine Eo.nil ?_
                            obtain rfl := Option.some.inj H
                            exact And.intro rfl ⟨(Hp.front (Hp.front hp0 1) 1), (.cons rfl (.cons rfl (.cons rfl (.cons rfl (.cons rfl (.cons rfl (.cons rfl (.nil'))))))))⟩
                          · have H := cond_t hc967 H
                            refine Eo.val (x := (.v (.string p0))) rfl rfl rfl rfl ?_
                            refine Eo.val (x := (.v (.int .i64 y941))) rfl rfl rfl rfl ?_
                            obtain ⟨b968, hvb968, H⟩ := bind_some H
                            refine Eo.val (op_byteS hvb968 rfl rfl rfl Tryd.underlying9) rfl rfl rfl ?_
                            obtain ⟨r969, hvr969, H⟩ := bind_some H
                            refine Eo.call rfl rfl rfl rfl (gdovetailref03_In_ok hp0 hvr969) ?_
                            rintro _ σ971 ⟨rfl, hp970⟩
                            refine Eo.val (x := (.v (.bool r969))) rfl rfl rfl rfl ?_
                            refine Eo.nil ?_
                            obtain rfl := Option.some.inj H
                            exact And.intro rfl ⟨(Hp.front (Hp.front hp970 1) 1), (.cons rfl (.cons rfl (.cons rfl (.cons rfl (.cons rfl (.cons rfl (.cons rfl (.nil'))))))))⟩
                        · skip
                          intro x φ974 σ973 hJ
                          obtain ⟨rfl, hp972, hf975⟩ := hJ
                          refine ⟨rfl, Eo.of (F := [(0, (.v (.string p0))), (3, a345), (4, (.v (.int .i64 y347))), (5, (.v (.int .u8 b690))), (6, (.ptr b691 0)), (7, (.v (.int .i64 y941))), (79, (.v (.bool x966)))]) hf975 ?_⟩
                          refine Eo.nil ?_
                          refine Ec.cond (t := x966) rfl (fun hc976 => ?_) (fun hc976 => ?_)
                          · have H := cond_t hc976 H
                            refine Ec.skip ?_
                            refine Ec.block ?_
                            refine Ec.region ?_
                            refine Eo.val (x := (.v (.int .i64 y941))) rfl rfl rfl rfl ?_
                            refine Eo.val (x := (.v (.int .i64 (IntKind.wrap .i64 (y941 + 1))))) rfl rfl rfl rfl ?_
                            refine Eo.val (x := (.v (.int .i64 (IntKind.wrap .i64 (y941 + 1))))) rfl rfl rfl rfl ?_
                            refine Eo.nil ?_
                            exact Ec.of (.cons rfl (.cons rfl (.cons rfl (.cons rfl (.cons rfl (.cons rfl (.nil'))))))) (ih ((IntKind.wrap .i64 (y941 + 1)), ()) _ (Hp.front (Hp.front hp972 1) 1) H)
                          · have H := cond_f hc976 H
                            refine Ec.exit ?_
                            obtain rfl := Option.some.inj H
                            exact And.intro rfl ⟨(Hp.front (Hp.front hp972 1) 1), (.cons rfl (.cons rfl (.cons rfl (.cons rfl (.cons rfl (.cons rfl (.nil')))))))⟩
                      · skip
                        intro x φ983 σ982 hJ
                        obtain ⟨rfl, hp981, hf984⟩ := hJ
                        refine Ec.of (F := [(0, (.v (.string p0))), (3, a345), (4, (.v (.int .i64 y347))), (5, (.v (.int .u8 b690))), (6, (.ptr b691 0)), (7, (.v (.int .i64 x960)))]) hf984 ?_
                        refine Ec.seq ?_
                        refine Ec.region ?_
                        refine Eo.val (x := (.v (.string p0))) rfl rfl rfl rfl ?_
                        refine Eo.val (x := (.v (.int .i64 y347))) rfl rfl rfl rfl ?_
                        refine Eo.val (x := (.v (.int .i64 x960))) rfl rfl rfl rfl ?_
                        obtain ⟨s985, hvs985, H⟩ := bind_some H
                        refine Eo.val (op_partS hvs985 rfl rfl Tryd.underlying9 (.inr ⟨_, _, rfl, rfl⟩) (.inr ⟨_, _, rfl, rfl⟩)) rfl rfl rfl ?_
                        refine Eo.val (x := (.v (.string s985))) rfl rfl rfl rfl ?_
                        refine Eo.nil ?_
                        refine Ec.seq ?_
                        refine Ec.region ?_
                        refine Eo.val (x := (.v (.int .u8 b690))) rfl rfl rfl rfl ?_
                        refine Eo.val (x := (.v (.bool (b690 == 45)))) rfl rfl rfl rfl ?_
                        refine Eo.val (x := (.v (.bool (b690 == 45)))) rfl rfl rfl rfl ?_
                        refine Eo.cutF 7 [(0, (.v (.string p0))), (3, a345), (4, (.v (.int .i64 y347))), (6, (.ptr b691 0)), (7, (.v (.int .i64 x960))), (8, (.v (.string s985))), (95, (.v (.bool ((b690 == 45) || ((decide (b690 ≥ 48)) && (decide (b690 ≤ 57)))))))] ?_ ?_
                        · skip
                          cases hc990 : (b690 == 45)
                          · skip
                            refine Eo.val (x := (.v (.int .u8 b690))) rfl rfl rfl rfl ?_
                            refine Eo.val (x := (.v (.bool (decide (b690 ≥ 48))))) rfl rfl rfl rfl ?_
                            refine Eo.val (x := (.v (.bool (decide (b690 ≥ 48))))) rfl rfl rfl rfl ?_
                            cases hc991 : (decide (b690 ≥ 48))
                            · skip
                              refine Eo.off rfl rfl rfl ?_
                              refine Eo.off rfl rfl rfl ?_
                              refine Eo.val (x := (.v (.bool false))) rfl rfl rfl rfl ?_
                              refine Eo.val (x := (.v (.bool false))) rfl rfl rfl rfl ?_
                              exact Eo.nil (And.intro rfl (And.intro rfl (.cons rfl (.cons rfl (.cons rfl (.cons rfl (.cons rfl (.cons rfl (.cons rfl (.nil'))))))))))
                            · skip
                              refine Eo.val (x := (.v (.int .u8 b690))) rfl rfl rfl rfl ?_
                              refine Eo.val (x := (.v (.bool (decide (b690 ≤ 57))))) rfl rfl rfl rfl ?_
                              refine Eo.val (x := (.v (.bool (decide (b690 ≤ 57))))) rfl rfl rfl rfl ?_
                              refine Eo.val (x := (.v (.bool (decide (b690 ≤ 57))))) rfl rfl rfl rfl ?_
                              exact Eo.nil (And.intro rfl (And.intro rfl (.cons rfl (.cons rfl (.cons rfl (.cons rfl (.cons rfl (.cons rfl (.cons rfl (.nil'))))))))))
                          · skip
                            refine Eo.off rfl rfl rfl ?_
                            refine Eo.off rfl rfl rfl ?_
                            refine Eo.off rfl rfl rfl ?_
                            refine Eo.off rfl rfl rfl ?_
                            refine Eo.off rfl rfl rfl ?_
                            refine Eo.off rfl rfl rfl ?_
                            refine Eo.val (x := (.v (.bool true))) rfl rfl rfl rfl ?_
                            exact Eo.nil (And.intro rfl (And.intro rfl (.cons rfl (.cons rfl (.cons rfl (.cons rfl (.cons rfl (.cons rfl (.cons rfl (.nil'))))))))))
                        · skip
                          refine Eo.nil ?_
                          refine Ec.cond (t := ((b690 == 45) || ((decide (b690 ≥ 48)) && (decide (b690 ≤ 57))))) rfl (fun hc994 => ?_) (fun hc994 => ?_)
                          · have H := cond_t hc994 H
                            refine Ec.seq ?_
                            refine Ec.region ?_
                            refine Eo.val (x := (.v (.string s985))) rfl rfl rfl rfl ?_
                            obtain ⟨r995, hvr995, H⟩ := bind_some H
                            refine Eo.call rfl rfl rfl rfl (gdovetailref03_Number_ok hp981 hvr995) ?_
                            obtain ⟨r996, r997⟩ := r995
                            rintro _ σ999 ⟨rfl, hp998⟩
                            refine Eo.val (x := (.tup [(.v (.int .i64 r996)), (.v (.bool r997))])) rfl rfl rfl rfl ?_
                            refine Eo.val (x := (.v (.int .i64 r996))) rfl rfl rfl rfl ?_
                            refine Eo.val (x := (.v (.bool r997))) rfl rfl rfl rfl ?_
                            refine Eo.val (x := (.v (.int .i64 r996))) rfl rfl rfl rfl ?_
                            refine Eo.val (x := (.v (.bool r997))) rfl rfl rfl rfl ?_
                            refine Eo.nil ?_
                            refine Ec.seq ?_
                            refine Ec.region ?_
                            refine Eo.val (x := (.v (.bool r997))) rfl rfl rfl rfl ?_
                            refine Eo.nil ?_
                            refine Ec.cond (t := r997) rfl (fun hc1000 => ?_) (fun hc1000 => ?_)
                            · have H := cond_t hc1000 H
                              refine Ec.region ?_
                              refine Eo.val (x := (.v (.int .i64 y347))) rfl rfl rfl rfl ?_
                              refine Eo.val (x := (.v (.int .i64 r996))) rfl rfl rfl rfl ?_
                              refine Eo.val (x := (.agg [(.v (.int .i64 y347)), (.v (.int .i64 2)), (.v (.int .i64 r996)), (.v (.int .i64 0)), (.v (.string (ByteArray.mk #[])))])) (op_build (lay_cons rfl rfl rfl rfl rfl (lay_cons rfl rfl rfl rfl rfl (lay_cons rfl rfl rfl rfl rfl lay_nil))) rfl (parts_cons rfl rfl (parts_cons rfl rfl (parts_cons rfl rfl rfl))) Tryd.underlying37 rfl rfl) rfl rfl rfl ?_
                              refine Eo.store hp998 0 rfl (storeCells_mk rfl rfl rfl rfl rfl rfl) rfl rfl rfl rfl rfl ?_
                              intro σ1002 hp1001
                              change Hp σ1002 (.blk b691 (.cells [(.v (.int .i64 y347)), (.v (.int .i64 2)), (.v (.int .i64 r996)), (.v (.int .i64 0)), (.v (.string (ByteArray.mk #[])))] 37) :: .app a345 37 :: R) at hp1001
                              refine Eo.nil ?_
                              obtain rfl := Option.some.inj H
                              exact And.intro rfl ⟨(Hp.front (Hp.front hp1001 1) 1), (.cons rfl (.cons rfl (.cons rfl (.cons rfl (.nil')))))⟩
                            · have H := cond_f hc1000 H
                              refine Ec.skip ?_
                              obtain rfl := Option.some.inj H
                              exact And.intro rfl ⟨(Hp.front (Hp.front hp998 1) 1), (.cons rfl (.cons rfl (.cons rfl (.cons rfl (.nil')))))⟩
                          · have H := cond_f hc994 H
                            refine Ec.region ?_
                            refine Eo.val (x := (.v (.int .i64 y347))) rfl rfl rfl rfl ?_
                            refine Eo.val (x := (.v (.string s985))) rfl rfl rfl rfl ?_
                            refine Eo.val (x := (.agg [(.v (.int .i64 y347)), (.v (.int .i64 1)), (.v (.int .i64 0)), (.v (.int .i64 0)), (.v (.string s985))])) (op_build (lay_cons rfl rfl rfl rfl rfl (lay_cons rfl rfl rfl rfl rfl (lay_cons rfl rfl rfl rfl rfl lay_nil))) rfl (parts_cons rfl rfl (parts_cons rfl rfl (parts_cons rfl rfl rfl))) Tryd.underlying37 rfl rfl) rfl rfl rfl ?_
                            refine Eo.store hp981 0 rfl (storeCells_mk rfl rfl rfl rfl rfl rfl) rfl rfl rfl rfl rfl ?_
                            intro σ1004 hp1003
                            change Hp σ1004 (.blk b691 (.cells [(.v (.int .i64 y347)), (.v (.int .i64 1)), (.v (.int .i64 0)), (.v (.int .i64 0)), (.v (.string s985))] 37) :: .app a345 37 :: R) at hp1003
                            refine Eo.nil ?_
                            obtain rfl := Option.some.inj H
                            exact And.intro rfl ⟨(Hp.front (Hp.front hp1003 1) 1), (.cons rfl (.cons rfl (.cons rfl (.cons rfl (.nil')))))⟩
                    · have H := cond_f hc922 H
                      refine Ec.skip ?_
                      obtain rfl := Option.some.inj H
                      exact And.intro rfl ⟨(Hp.front (Hp.front hp920 1) 1), (.cons rfl (.cons rfl (.cons rfl (.cons rfl (.nil')))))⟩
      · rcases v1025 with ⟨x847, x848, x849, x850, x851, x852⟩ | x853 | _
        · intro x φ1007 σ1006 hJ
          obtain ⟨rfl, hp1005, hf1008⟩ := hJ
          refine Ec.of (F := [(0, (.v (.string p0))), (3, a345), (6, (.ptr b691 0)), (7, (.v (.int .i64 x847)))]) hf1008 ?_
          refine Ec.seq ?_
          refine Ec.region ?_
          refine Eo.val (x := a345) rfl rfl rfl rfl ?_
          refine Eo.val (x := (.agg [(.v (.int .i64 x848)), (.v (.int .i64 x849)), (.v (.int .i64 x850)), (.v (.int .i64 x851)), (.v (.string x852))])) (op_loadB hp1005 0 rfl rfl rfl rfl) rfl rfl rfl ?_
          refine Eo.val (x := (.sl 5 [(.v (.int .i64 x848)), (.v (.int .i64 x849)), (.v (.int .i64 x850)), (.v (.int .i64 x851)), (.v (.string x852))] .ex)) (op_buildS (lay_cons rfl rfl rfl rfl rfl lay_nil) rfl (parts_cons rfl rfl rfl) Tryd.underlying34 rfl rfl rfl rfl (by decide) rfl) rfl rfl rfl ?_
          have h1012 : Sl rTdovetailref03_Token (.sl 5 [(.v (.int .i64 x848)), (.v (.int .i64 x849)), (.v (.int .i64 x850)), (.v (.int .i64 x851)), (.v (.string x852))] .ex) ([(Tdovetailref03_Token.mk x848 x849 x850 x851 x852)] : List Tdovetailref03_Token) := .inr ⟨_, _, rfl, (.cons (c := [(.v (.int .i64 x848)), (.v (.int .i64 x849)), (.v (.int .i64 x850)), (.v (.int .i64 x851)), (.v (.string x852))]) rfl .nil)⟩
          have hp1011 := Hp.appEx hp1005 37 5 [(.v (.int .i64 x848)), (.v (.int .i64 x849)), (.v (.int .i64 x850)), (.v (.int .i64 x851)), (.v (.string x852))]
          obtain ⟨l1013, hvl1013, H⟩ := bind_some H
          refine Eo.append hp1011 2 rfl h346 (New.of h1012) hvl1013 rfl rfl rfl rfl rfl rfl rfl Tryd.underlying34 rfl Tryd.underlying34 rfl rfl rfl rfl rfl rfl rfl rfl ?_
          intro a1014 σ1017 h1015 hp1016
          change Hp σ1017 (.app (.sl 5 [(.v (.int .i64 x848)), (.v (.int .i64 x849)), (.v (.int .i64 x850)), (.v (.int .i64 x851)), (.v (.string x852))] .ex) 37 :: .blk b691 (.cells [(.v (.int .i64 x848)), (.v (.int .i64 x849)), (.v (.int .i64 x850)), (.v (.int .i64 x851)), (.v (.string x852))] 37) :: .app a1014 37 :: R) at hp1016
          refine Eo.val (x := a1014) rfl rfl rfl rfl ?_
          refine Eo.nil ?_
          refine Ec.seq ?_
          refine Ec.seq ?_
          refine Ec.region ?_
          refine Eo.val (x := (.ptr b691 1)) rfl rfl rfl rfl ?_
          refine Eo.val (x := (.v (.int .i64 x849))) (op_loadB hp1016 1 rfl rfl rfl rfl) rfl rfl rfl ?_
          refine Eo.val (x := (.v (.bool (x849 == 6)))) rfl rfl rfl rfl ?_
          refine Eo.nil ?_
          refine Ec.cond (t := (x849 == 6)) rfl (fun hc1018 => ?_) (fun hc1018 => ?_)
          · have H := cond_t hc1018 H
            refine Ec.seq ?_
            refine Ec.region ?_
            refine Eo.val (x := a1014) rfl rfl rfl rfl ?_
            refine Eo.val (x := a1014) rfl rfl rfl rfl ?_
            refine Eo.nil ?_
            obtain rfl := Option.some.inj H
            refine Ec.ret ?_
            refine And.intro rfl (Ret.mk rfl ?_)
            exact ⟨a1014, rfl, h1015, (Hp.drop (Hp.drop hp1016 0) 0)⟩
          · have H := cond_f hc1018 H
            refine Ec.skip ?_
            refine Ec.region ?_
            refine Eo.val (x := (.v (.int .i64 x847))) rfl rfl rfl rfl ?_
            refine Eo.val (x := (.v (.int .i64 x847))) rfl rfl rfl rfl ?_
            refine Eo.nil ?_
            exact Ec.of (.cons rfl (.cons rfl (.cons rfl (.nil')))) (ih ((l1013, x847), a1014) _ ⟨h1015, (Hp.drop (Hp.drop hp1016 0) 0)⟩ H)
        · intro x φ1021 σ1020 hJ
          obtain ⟨rfl, hp1019, hf1022⟩ := hJ
          exact Ec.of (Fl.trans (G := [(0, (.v (.string p0))), (3, a345), (4, (.v (.int .i64 x853)))]) (.cons rfl (.cons rfl (.cons rfl (.nil')))) hf1022) (ih ((y344, x853), a345) _ ⟨h346, hp1019⟩ H)
        · intro x φ1023 σ1024 hJ
          cases H
    · have H := cond_f hc689 H
      refine Ec.exit ?_
      obtain rfl := Option.some.inj H
      exact And.intro rfl ⟨a345, h346, hp0, (.cons rfl (.nil'))⟩
  · rcases v1027 with x686 | r1033
    · intro x φ1031 σ1030 hJ
      obtain ⟨rfl, a687, h688, hp1029, hf1032⟩ := hJ
      refine Ec.of (F := [(3, a687)]) hf1032 ?_
      refine Ec.seq ?_
      refine Ec.region ?_
      refine Eo.val (x := a687) rfl rfl rfl rfl ?_
      refine Eo.val (x := a687) rfl rfl rfl rfl ?_
      refine Eo.nil ?_
      obtain rfl := Option.some.inj H
      refine Ec.ret ?_
      refine Ret.mk rfl ?_
      exact ⟨a687, rfl, h688, hp1029⟩
    · intro x φ1034 σ1035 hJ
      obtain rfl := Option.some.inj H
      obtain ⟨rfl, hr⟩ := hJ
      exact hr

end Go.DM.TK
