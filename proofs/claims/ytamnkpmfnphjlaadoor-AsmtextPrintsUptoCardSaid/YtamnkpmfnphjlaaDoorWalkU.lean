/- Typed functions of the program's functions, and the walks that show that the calls come to them. No condition. -/
import Derived.Test.YtamnkpmfnphjlaaDoorRuleT
import Derived.Test.YtamnkpmfnphjlaaDoorWalkT2
namespace Go.DM
open Go Go.Proofs
set_option maxRecDepth 100000
set_option maxHeartbeats 1000000

def gasmtext_sound_1 (n : Nat) (p0 : Int) : Option (Bool) := (((cond (decide (p0 > 126)) (some true) (((gasmtext_word n (IntKind.wrap .u8 p0)).bind fun r7 => some (!r7)))) : Option (Bool)).bind fun x5 => some x5)

def gasmtext_sound_1_post (R : List Res) (r : Bool) (x : A) (s : St) : Prop := x = (.v (.bool r)) ∧ Hp s (R)

theorem gasmtext_sound_1_ok {n : Nat} {p0 : Int} {R : List Res} {σ : St} (hp : Hp σ R) {r : Bool} (H : gasmtext_sound_1 n p0 = some r) : Ca cfg 62 [(.v (.int .i32 p0))] σ (gasmtext_sound_1_post R r) := by
  unfold gasmtext_sound_1 at H
  refine Ca.enterL (G := [(0, (.v (.int .i32 p0)))]) Tryd.func62 rfl rfl rfl rfl ?_
  refine Ec.seq ?_
  refine Ec.region ?_
  refine Eo.val (x := (.v (.bool false))) rfl rfl rfl rfl ?_
  refine Eo.nil ?_
  refine Ec.seq ?_
  refine Ec.region ?_
  refine Eo.val (x := (.v (.int .i32 p0))) rfl rfl rfl rfl ?_
  refine Eo.val (x := (.v (.bool (decide (p0 > 126))))) rfl rfl rfl rfl ?_
  refine Eo.val (x := (.v (.bool (decide (p0 > 126))))) rfl rfl rfl rfl ?_
  obtain ⟨x5, hv15, H⟩ := bind_some H
  refine Eo.cutN 5 (J := (fun (x5 : Bool) (x : X) (φ : Fr) (s : St) => x = .normal ∧ (Hp s (R) ∧ Fl [(2, (.v (.bool false))), (10, (.v (.bool x5)))] φ)) x5) ?_ ?_
  · have H := hv15
    cases hc6 : (decide (p0 > 126))
    · have H := cond_f hc6 H
      refine Eo.val (x := (.v (.int .i32 p0))) rfl rfl rfl rfl ?_
      refine Eo.val (x := (.v (.int .u8 (IntKind.wrap .u8 p0)))) rfl rfl rfl rfl ?_
      obtain ⟨r7, hvr7, H⟩ := bind_some H
      refine Eo.call rfl rfl rfl rfl (gasmtext_word_ok hp hvr7) ?_
      rintro _ σ9 ⟨rfl, hp8⟩
      refine Eo.val (x := (.v (.bool (!r7)))) rfl rfl rfl rfl ?_
      refine Eo.val (x := (.v (.bool (!r7)))) rfl rfl rfl rfl ?_
      refine Eo.nil ?_
      obtain rfl := Option.some.inj H
      exact And.intro rfl ⟨hp8, (.cons rfl (.cons rfl (.nil')))⟩
    · have H := cond_t hc6 H
      refine Eo.off rfl rfl rfl ?_
      refine Eo.off rfl rfl rfl ?_
      refine Eo.off rfl rfl rfl ?_
      refine Eo.off rfl rfl rfl ?_
      refine Eo.val (x := (.v (.bool true))) rfl rfl rfl rfl ?_
      refine Eo.nil ?_
      obtain rfl := Option.some.inj H
      exact And.intro rfl ⟨hp, (.cons rfl (.cons rfl (.nil')))⟩
  · skip
    intro x φ12 σ11 hJ
    obtain ⟨rfl, hp10, hf13⟩ := hJ
    refine ⟨rfl, Eo.of (F := [(2, (.v (.bool false))), (10, (.v (.bool x5)))]) hf13 ?_⟩
    refine Eo.val (x := (.v (.bool x5))) rfl rfl rfl rfl ?_
    refine Eo.nil ?_
    obtain rfl := Option.some.inj H
    refine Ec.ret ?_
    refine Ret.mk rfl ?_
    exact ⟨rfl, hp10⟩

def gstrings_indexFunc_62_L1 (N : Nat) (p0 : ByteArray) (p2 : Bool) : Nat → Nat → Option (LR Unit Int)
  | 0, _ => none
  | m + 1, y11 => (cond (decide (y11 < p0.size)) (((gasmtext_sound_1 N (((Utf8.decode p0 y11).1 : Nat) : Int)).bind fun r21 => (cond (r21 == p2) (some (.ret ((y11 : Nat) : Int))) (gstrings_indexFunc_62_L1 N p0 p2 m (y11 + (Utf8.decode p0 y11).2))))) (some (.out ())))

def gstrings_indexFunc_62 (n : Nat) (p0 : ByteArray) (p2 : Bool) : Option (Int) := ((gstrings_indexFunc_62_L1 n p0 p2 n 0).bind fun v => match v with | .out _ => some (-1) | .ret r32 => some r32)

def gstrings_indexFunc_62_post (R : List Res) (r : Int) (x : A) (s : St) : Prop := x = (.v (.int .i64 r)) ∧ Hp s (R)

theorem gstrings_indexFunc_62_ok {n : Nat} {p0 : ByteArray} {p2 : Bool} {R : List Res} {σ : St} (hp : Hp σ R) {r : Int} (H : gstrings_indexFunc_62 n p0 p2 = some r) : Ca cfg 76 [(.v (.string p0)), (.fn (.func 62) [] []), (.v (.bool p2))] σ (gstrings_indexFunc_62_post R r) := by
  unfold gstrings_indexFunc_62 at H
  refine Ca.enterL (G := [(0, (.v (.string p0))), (1, (.fn (.func 62) [] [])), (2, (.v (.bool p2)))]) Tryd.func76 rfl rfl rfl rfl ?_
  refine Ec.seq ?_
  refine Ec.region ?_
  refine Eo.val (x := (.v (.int .i64 0))) rfl rfl rfl rfl ?_
  refine Eo.nil ?_
  refine Ec.seq ?_
  refine Ec.seq ?_
  refine Ec.region ?_
  refine Eo.val (x := (.v (.string p0))) rfl rfl rfl rfl ?_
  refine Eo.range hp rfl Tryd.underlying9 rfl rfl rfl rfl ?_
  intro b1 σ3 hp2
  refine Eo.nil ?_
  refine Ec.block ?_
  obtain ⟨v26, hv27, H⟩ := bind_some H
  refine Ec.cut (J := (fun (v : LR Unit Int) (x : X) (φ : Fr) (s : St) => match v with | .out _ => x = (.exit 0) ∧ (Hp s (R) ∧ Fl [] φ) | .ret r => x = .ret ∧ Ret cfg Tryd.f76 (gstrings_indexFunc_62_post R r) .ret φ s) v26) (Ec.weak (.cons rfl (.cons rfl (.cons rfl (.nil')))) (Ec.loopF (f := (fun m (i : Nat × Unit) => gstrings_indexFunc_62_L1 n p0 p2 m i.1)) (G := (fun (i : Nat × Unit) => ([(1, (.fn (.func 62) [] [])), (2, (.v (.bool p2))), (10, (.ptr b1 0))] : List (Nat × A)))) (I := (fun (i : Nat × Unit) (s : St) => Hp s (.blk b1 (.siter p0 i.1) :: R))) (J := (fun (v : LR Unit Int) (x : X) (φ : Fr) (s : St) => match v with | .out _ => x = (.exit 0) ∧ (Hp s (R) ∧ Fl [] φ) | .ret r => x = .ret ∧ Ret cfg Tryd.f76 (gstrings_indexFunc_62_post R r) .ret φ s)) (fun _ => rfl) ?_ n (0, ()) _ v26 hp2 hv27)) ?_
  · rintro m ⟨y11, _⟩ σ0 v hp0 H ih
    change gstrings_indexFunc_62_L1 n p0 p2 (m + 1) y11 = some v at H
    rw [gstrings_indexFunc_62_L1] at H
    change Ec _ _ _ [(1, (.fn (.func 62) [] [])), (2, (.v (.bool p2))), (10, (.ptr b1 0))] σ0 _
    refine Ec.seq ?_
    refine Ec.region ?_
    refine Eo.next hp0 0 rfl rfl rfl rfl rfl rfl (fun hc25 σ20 hp19 => ?_) (fun hc25 => ?_)
    · have H := cond_t hc25 H
      change Hp σ20 (.blk b1 (.siter p0 (y11 + (Utf8.decode p0 y11).2)) :: R) at hp19
      refine Eo.val (x := (.v (.bool true))) rfl rfl rfl rfl ?_
      refine Eo.nil ?_
      refine Ec.seq ?_
      refine Ec.cond (t := true) rfl (fun h => ?_) (fun h => nomatch h)
      refine Ec.skip ?_
      refine Ec.block ?_
      refine Ec.seq ?_
      refine Ec.region ?_
      refine Eo.val (x := (.v (.int .i64 ((y11 : Nat) : Int)))) rfl rfl rfl rfl ?_
      refine Eo.val (x := (.v (.int .i32 (((Utf8.decode p0 y11).1 : Nat) : Int)))) rfl rfl rfl rfl ?_
      refine Eo.val (x := (.v (.int .i64 ((y11 : Nat) : Int)))) rfl rfl rfl rfl ?_
      refine Eo.val (x := (.v (.int .i32 (((Utf8.decode p0 y11).1 : Nat) : Int)))) rfl rfl rfl rfl ?_
      refine Eo.nil ?_
      refine Ec.seq ?_
      refine Ec.region ?_
      refine Eo.val (x := (.fn (.func 62) [] [])) rfl rfl rfl rfl ?_
      refine Eo.val (x := (.v (.int .i32 (((Utf8.decode p0 y11).1 : Nat) : Int)))) rfl rfl rfl rfl ?_
      obtain ⟨r21, hvr21, H⟩ := bind_some H
      refine Eo.call rfl rfl rfl rfl (gasmtext_sound_1_ok hp19 hvr21) ?_
      rintro _ σ23 ⟨rfl, hp22⟩
      refine Eo.val (x := (.v (.bool p2))) rfl rfl rfl rfl ?_
      refine Eo.val (x := (.v (.bool (r21 == p2)))) rfl rfl rfl rfl ?_
      refine Eo.nil ?_
      refine Ec.cond (t := (r21 == p2)) rfl (fun hc24 => ?_) (fun hc24 => ?_)
      · have H := cond_t hc24 H
        refine Ec.seq ?_
        refine Ec.region ?_
        refine Eo.val (x := (.v (.int .i64 ((y11 : Nat) : Int)))) rfl rfl rfl rfl ?_
        refine Eo.val (x := (.v (.int .i64 ((y11 : Nat) : Int)))) rfl rfl rfl rfl ?_
        refine Eo.nil ?_
        obtain rfl := Option.some.inj H
        refine Ec.ret ?_
        refine And.intro rfl (Ret.mk rfl ?_)
        exact ⟨rfl, (Hp.drop hp22 0)⟩
      · have H := cond_f hc24 H
        refine Ec.skip ?_
        exact Ec.of (.cons rfl (.cons rfl (.cons rfl (.nil')))) (ih ((y11 + (Utf8.decode p0 y11).2), ()) _ hp22 H)
    · have H := cond_f hc25 H
      refine Eo.val (x := (.v (.bool false))) rfl rfl rfl rfl ?_
      refine Eo.nil ?_
      refine Ec.seq ?_
      refine Ec.cond (t := false) rfl (fun h => nomatch h) (fun h => ?_)
      refine Ec.exit ?_
      obtain rfl := Option.some.inj H
      exact And.intro rfl ⟨(Hp.drop hp0 0), (.nil')⟩
  · rcases v26 with _ | r32
    · intro x φ30 σ29 hJ
      obtain ⟨rfl, hp28, hf31⟩ := hJ
      refine Ec.of (F := []) hf31 ?_
      refine Ec.seq ?_
      refine Ec.region ?_
      refine Eo.val (x := (.v (.int .i64 (-1)))) rfl rfl rfl rfl ?_
      refine Eo.nil ?_
      obtain rfl := Option.some.inj H
      refine Ec.ret ?_
      refine Ret.mk rfl ?_
      exact ⟨rfl, hp28⟩
    · intro x φ33 σ34 hJ
      obtain rfl := Option.some.inj H
      obtain ⟨rfl, hr⟩ := hJ
      exact hr

def gstrings_IndexFunc_62 (n : Nat) (p0 : ByteArray) : Option (Int) := ((gstrings_indexFunc_62 n p0 true).bind fun r1 => some r1)

def gstrings_IndexFunc_62_post (R : List Res) (r : Int) (x : A) (s : St) : Prop := x = (.v (.int .i64 r)) ∧ Hp s (R)

theorem gstrings_IndexFunc_62_ok {n : Nat} {p0 : ByteArray} {R : List Res} {σ : St} (hp : Hp σ R) {r : Int} (H : gstrings_IndexFunc_62 n p0 = some r) : Ca cfg 61 [(.v (.string p0)), (.fn (.func 62) [] [])] σ (gstrings_IndexFunc_62_post R r) := by
  unfold gstrings_IndexFunc_62 at H
  refine Ca.enterL (G := [(0, (.v (.string p0))), (1, (.fn (.func 62) [] []))]) Tryd.func61 rfl rfl rfl rfl ?_
  refine Ec.seq ?_
  refine Ec.region ?_
  refine Eo.val (x := (.v (.int .i64 0))) rfl rfl rfl rfl ?_
  refine Eo.nil ?_
  refine Ec.seq ?_
  refine Ec.region ?_
  refine Eo.val (x := (.v (.string p0))) rfl rfl rfl rfl ?_
  refine Eo.val (x := (.fn (.func 62) [] [])) rfl rfl rfl rfl ?_
  obtain ⟨r1, hvr1, H⟩ := bind_some H
  refine Eo.call rfl rfl rfl rfl (gstrings_indexFunc_62_ok hp hvr1) ?_
  rintro _ σ3 ⟨rfl, hp2⟩
  change Hp σ3 (R) at hp2
  refine Eo.val (x := (.v (.int .i64 r1))) rfl rfl rfl rfl ?_
  refine Eo.nil ?_
  obtain rfl := Option.some.inj H
  refine Ec.ret ?_
  refine Ret.mk rfl ?_
  exact ⟨rfl, hp2⟩

def gasmtext_sound (n : Nat) (p0 : TTok) : Option (Bool) := (cond (p0.f_Kind == 1) ((((cond (!decide (p0.f_Text = (ByteArray.mk #[]))) (((gstrings_IndexFunc_62 n p0.f_Text).bind fun r11 => some (decide (r11 < 0)))) (some false)) : Option (Bool)).bind fun x9 => some x9)) ((cond (p0.f_Kind == 2) ((((cond (((p0.f_Text.size : Nat) : Int) == 1) (((containsT (ByteArray.mk #[40, 41, 91, 93, 43, 45, 42, 44, 58, 37]) p0.f_Text).bind fun r27 => some r27)) (some false)) : Option (Bool)).bind fun x25 => some x25)) (some (p0.f_Kind == 3)))))

def gasmtext_sound_post (R : List Res) (r : Bool) (x : A) (s : St) : Prop := x = (.v (.bool r)) ∧ Hp s (R)

theorem gasmtext_sound_ok {n : Nat} {p0 : TTok} {R : List Res} {σ : St} (hp : Hp σ R) {r : Bool} (H : gasmtext_sound n p0 = some r) : Ca cfg 35 [(.agg [(.v (.int .i64 p0.f_Kind)), (.v (.string p0.f_Text))])] σ (gasmtext_sound_post R r) := by
  unfold gasmtext_sound at H
  refine Ca.enterL (G := [(0, (.agg [(.v (.int .i64 p0.f_Kind)), (.v (.string p0.f_Text))]))]) Tryd.func35 rfl rfl rfl rfl ?_
  refine Ec.seq ?_
  refine Ec.region ?_
  refine Eo.box hp rfl rfl rfl rfl rfl rfl rfl ?_
  intro b1 σ3 hp2
  refine Eo.val (x := (.v (.bool false))) rfl rfl rfl rfl ?_
  refine Eo.nil ?_
  refine Ec.seq ?_
  refine Ec.seq ?_
  refine Ec.region ?_
  refine Eo.val (x := (.ptr b1 0)) rfl rfl rfl rfl ?_
  refine Eo.val (x := (.v (.int .i64 p0.f_Kind))) (op_loadB hp2 0 rfl rfl rfl rfl) rfl rfl rfl ?_
  refine Eo.nil ?_
  refine Ec.block ?_
  refine Ec.seq ?_
  refine Ec.region ?_
  refine Eo.val (x := (.v (.bool (p0.f_Kind == 1)))) rfl rfl rfl rfl ?_
  refine Eo.val (x := (.v (.bool (p0.f_Kind == 1)))) rfl rfl rfl rfl ?_
  refine Eo.nil ?_
  refine Ec.cond (t := (p0.f_Kind == 1)) rfl (fun hc4 => ?_) (fun hc4 => ?_)
  · have H := cond_t hc4 H
    refine Ec.seq ?_
    refine Ec.region ?_
    refine Eo.val (x := (.ptr b1 1)) rfl rfl rfl rfl ?_
    refine Eo.val (x := (.v (.string p0.f_Text))) (op_loadB hp2 0 rfl rfl rfl rfl) rfl rfl rfl ?_
    refine Eo.val (x := (.v (.bool (!decide (p0.f_Text = (ByteArray.mk #[])))))) (val_b rfl (sne_eq _ _)) rfl rfl rfl ?_
    refine Eo.val (x := (.v (.bool (!decide (p0.f_Text = (ByteArray.mk #[])))))) rfl rfl rfl rfl ?_
    obtain ⟨x9, hv19, H⟩ := bind_some H
    refine Eo.cutN 5 (J := (fun (x9 : Bool) (x : X) (φ : Fr) (s : St) => x = .normal ∧ (Hp s (R) ∧ Fl [(2, (.v (.bool false))), (15, (.v (.bool x9)))] φ)) x9) ?_ ?_
    · have H := hv19
      cases hc10 : (!decide (p0.f_Text = (ByteArray.mk #[])))
      · have H := cond_f hc10 H
        refine Eo.off rfl rfl rfl ?_
        refine Eo.off rfl rfl rfl ?_
        refine Eo.off rfl rfl rfl ?_
        refine Eo.off rfl rfl rfl ?_
        refine Eo.val (x := (.v (.bool false))) rfl rfl rfl rfl ?_
        refine Eo.nil ?_
        obtain rfl := Option.some.inj H
        exact And.intro rfl ⟨(Hp.drop hp2 0), (.cons rfl (.cons rfl (.nil')))⟩
      · have H := cond_t hc10 H
        refine Eo.val (x := (.ptr b1 1)) rfl rfl rfl rfl ?_
        refine Eo.val (x := (.v (.string p0.f_Text))) (op_loadB hp2 0 rfl rfl rfl rfl) rfl rfl rfl ?_
        obtain ⟨r11, hvr11, H⟩ := bind_some H
        refine Eo.call rfl rfl rfl rfl (gstrings_IndexFunc_62_ok hp2 hvr11) ?_
        rintro _ σ13 ⟨rfl, hp12⟩
        change Hp σ13 (.blk b1 (.cells [(.v (.int .i64 p0.f_Kind)), (.v (.string p0.f_Text))] 48) :: R) at hp12
        refine Eo.val (x := (.v (.bool (decide (r11 < 0))))) rfl rfl rfl rfl ?_
        refine Eo.val (x := (.v (.bool (decide (r11 < 0))))) rfl rfl rfl rfl ?_
        refine Eo.nil ?_
        obtain rfl := Option.some.inj H
        exact And.intro rfl ⟨(Hp.drop hp12 0), (.cons rfl (.cons rfl (.nil')))⟩
    · skip
      intro x φ16 σ15 hJ
      obtain ⟨rfl, hp14, hf17⟩ := hJ
      refine ⟨rfl, Eo.of (F := [(2, (.v (.bool false))), (15, (.v (.bool x9)))]) hf17 ?_⟩
      refine Eo.val (x := (.v (.bool x9))) rfl rfl rfl rfl ?_
      refine Eo.nil ?_
      obtain rfl := Option.some.inj H
      refine Ec.ret ?_
      refine Ret.mk rfl ?_
      exact ⟨rfl, hp14⟩
  · have H := cond_f hc4 H
    refine Ec.seq ?_
    refine Ec.region ?_
    refine Eo.val (x := (.v (.bool (p0.f_Kind == 2)))) rfl rfl rfl rfl ?_
    refine Eo.val (x := (.v (.bool (p0.f_Kind == 2)))) rfl rfl rfl rfl ?_
    refine Eo.nil ?_
    refine Ec.cond (t := (p0.f_Kind == 2)) rfl (fun hc20 => ?_) (fun hc20 => ?_)
    · have H := cond_t hc20 H
      refine Ec.seq ?_
      refine Ec.region ?_
      refine Eo.val (x := (.ptr b1 1)) rfl rfl rfl rfl ?_
      refine Eo.val (x := (.v (.string p0.f_Text))) (op_loadB hp2 0 rfl rfl rfl rfl) rfl rfl rfl ?_
      refine Eo.val (x := (.v (.int .i64 ((p0.f_Text.size : Nat) : Int)))) (op_len rfl rfl rfl rfl rfl Tryd.underlying9) rfl rfl rfl ?_
      refine Eo.val (x := (.v (.bool (((p0.f_Text.size : Nat) : Int) == 1)))) rfl rfl rfl rfl ?_
      refine Eo.val (x := (.v (.bool (((p0.f_Text.size : Nat) : Int) == 1)))) rfl rfl rfl rfl ?_
      obtain ⟨x25, hv35, H⟩ := bind_some H
      refine Eo.cutN 4 (J := (fun (x25 : Bool) (x : X) (φ : Fr) (s : St) => x = .normal ∧ (Hp s (R) ∧ Fl [(2, (.v (.bool false))), (26, (.v (.bool x25)))] φ)) x25) ?_ ?_
      · have H := hv35
        cases hc26 : (((p0.f_Text.size : Nat) : Int) == 1)
        · have H := cond_f hc26 H
          refine Eo.off rfl rfl rfl ?_
          refine Eo.off rfl rfl rfl ?_
          refine Eo.off rfl rfl rfl ?_
          refine Eo.val (x := (.v (.bool false))) rfl rfl rfl rfl ?_
          refine Eo.nil ?_
          obtain rfl := Option.some.inj H
          exact And.intro rfl ⟨(Hp.drop hp2 0), (.cons rfl (.cons rfl (.nil')))⟩
        · have H := cond_t hc26 H
          refine Eo.val (x := (.ptr b1 1)) rfl rfl rfl rfl ?_
          refine Eo.val (x := (.v (.string p0.f_Text))) (op_loadB hp2 0 rfl rfl rfl rfl) rfl rfl rfl ?_
          obtain ⟨r27, hvr27, H⟩ := bind_some H
          refine Eo.call rfl rfl rfl rfl (prim28_ok hp2 hvr27) ?_
          rintro _ σ29 ⟨rfl, hp28⟩
          refine Eo.val (x := (.v (.bool r27))) rfl rfl rfl rfl ?_
          refine Eo.nil ?_
          obtain rfl := Option.some.inj H
          exact And.intro rfl ⟨(Hp.drop hp28 0), (.cons rfl (.cons rfl (.nil')))⟩
      · skip
        intro x φ32 σ31 hJ
        obtain ⟨rfl, hp30, hf33⟩ := hJ
        refine ⟨rfl, Eo.of (F := [(2, (.v (.bool false))), (26, (.v (.bool x25)))]) hf33 ?_⟩
        refine Eo.val (x := (.v (.bool x25))) rfl rfl rfl rfl ?_
        refine Eo.nil ?_
        obtain rfl := Option.some.inj H
        refine Ec.ret ?_
        refine Ret.mk rfl ?_
        exact ⟨rfl, hp30⟩
    · have H := cond_f hc20 H
      refine Ec.skip ?_
      refine Ec.seq ?_
      refine Ec.region ?_
      refine Eo.val (x := (.ptr b1 0)) rfl rfl rfl rfl ?_
      refine Eo.val (x := (.v (.int .i64 p0.f_Kind))) (op_loadB hp2 0 rfl rfl rfl rfl) rfl rfl rfl ?_
      refine Eo.val (x := (.v (.bool (p0.f_Kind == 3)))) rfl rfl rfl rfl ?_
      refine Eo.val (x := (.v (.bool (p0.f_Kind == 3)))) rfl rfl rfl rfl ?_
      refine Eo.nil ?_
      obtain rfl := Option.some.inj H
      refine Ec.ret ?_
      refine Ret.mk rfl ?_
      exact ⟨rfl, (Hp.drop hp2 0)⟩

def gasmtext_Print_1 (n : Nat) (p0 : ByteArray) : Option (Bool) := (((cond (!decide (p0 = (ByteArray.mk #[]))) (((gasmtext_sound n (TTok.mk 1 p0)).bind fun r7 => some r7)) (some false)) : Option (Bool)).bind fun x5 => (((cond x5 (((gasmtext_isName n (TTok.mk 1 p0)).bind fun r20 => some r20)) (some false)) : Option (Bool)).bind fun x18 => some x18))

def gasmtext_Print_1_post (R : List Res) (r : Bool) (x : A) (s : St) : Prop := x = (.v (.bool r)) ∧ Hp s (R)

theorem gasmtext_Print_1_ok {n : Nat} {p0 : ByteArray} {R : List Res} {σ : St} (hp : Hp σ R) {r : Bool} (H : gasmtext_Print_1 n p0 = some r) : Ca cfg 34 [(.v (.string p0))] σ (gasmtext_Print_1_post R r) := by
  unfold gasmtext_Print_1 at H
  refine Ca.enterL (G := [(0, (.v (.string p0)))]) Tryd.func34 rfl rfl rfl rfl ?_
  refine Ec.seq ?_
  refine Ec.region ?_
  refine Eo.val (x := (.v (.bool false))) rfl rfl rfl rfl ?_
  refine Eo.nil ?_
  refine Ec.seq ?_
  refine Ec.region ?_
  refine Eo.val (x := (.v (.string p0))) rfl rfl rfl rfl ?_
  refine Eo.val (x := (.v (.bool (!decide (p0 = (ByteArray.mk #[])))))) (val_b rfl (sne_eq _ _)) rfl rfl rfl ?_
  refine Eo.val (x := (.v (.bool (!decide (p0 = (ByteArray.mk #[])))))) rfl rfl rfl rfl ?_
  obtain ⟨x5, hv30, H⟩ := bind_some H
  refine Eo.cutN 4 (J := (fun (x5 : Bool) (x : X) (φ : Fr) (s : St) => x = .normal ∧ (Hp s (R) ∧ Fl [(0, (.v (.string p0))), (2, (.v (.bool false))), (9, (.v (.bool x5)))] φ)) x5) ?_ ?_
  · have H := hv30
    cases hc6 : (!decide (p0 = (ByteArray.mk #[])))
    · have H := cond_f hc6 H
      refine Eo.off rfl rfl rfl ?_
      refine Eo.off rfl rfl rfl ?_
      refine Eo.off rfl rfl rfl ?_
      refine Eo.val (x := (.v (.bool false))) rfl rfl rfl rfl ?_
      refine Eo.nil ?_
      obtain rfl := Option.some.inj H
      exact And.intro rfl ⟨hp, (.cons rfl (.cons rfl (.cons rfl (.nil'))))⟩
    · have H := cond_t hc6 H
      refine Eo.val (x := (.v (.string p0))) rfl rfl rfl rfl ?_
      refine Eo.val (x := (.agg [(.v (.int .i64 1)), (.v (.string p0))])) (op_build (lay_cons rfl rfl rfl rfl rfl (lay_cons rfl rfl rfl rfl rfl lay_nil)) rfl (parts_cons rfl rfl (parts_cons rfl rfl rfl)) Tryd.underlying48 rfl rfl) rfl rfl rfl ?_
      obtain ⟨r7, hvr7, H⟩ := bind_some H
      refine Eo.call rfl rfl rfl rfl (gasmtext_sound_ok hp hvr7) ?_
      rintro _ σ9 ⟨rfl, hp8⟩
      refine Eo.val (x := (.v (.bool r7))) rfl rfl rfl rfl ?_
      refine Eo.nil ?_
      obtain rfl := Option.some.inj H
      exact And.intro rfl ⟨hp8, (.cons rfl (.cons rfl (.cons rfl (.nil'))))⟩
  · skip
    intro x φ12 σ11 hJ
    obtain ⟨rfl, hp10, hf13⟩ := hJ
    refine ⟨rfl, Eo.of (F := [(0, (.v (.string p0))), (2, (.v (.bool false))), (9, (.v (.bool x5)))]) hf13 ?_⟩
    refine Eo.val (x := (.v (.bool x5))) rfl rfl rfl rfl ?_
    obtain ⟨x18, hv28, H⟩ := bind_some H
    refine Eo.cutN 4 (J := (fun (x18 : Bool) (x : X) (φ : Fr) (s : St) => x = .normal ∧ (Hp s (R) ∧ Fl [(2, (.v (.bool false))), (14, (.v (.bool x18)))] φ)) x18) ?_ ?_
    · have H := hv28
      cases hc19 : x5
      · have H := cond_f hc19 H
        refine Eo.off rfl rfl rfl ?_
        refine Eo.off rfl rfl rfl ?_
        refine Eo.off rfl rfl rfl ?_
        refine Eo.val (x := (.v (.bool false))) rfl rfl rfl rfl ?_
        refine Eo.nil ?_
        obtain rfl := Option.some.inj H
        exact And.intro rfl ⟨hp10, (.cons rfl (.cons rfl (.nil')))⟩
      · have H := cond_t hc19 H
        refine Eo.val (x := (.v (.string p0))) rfl rfl rfl rfl ?_
        refine Eo.val (x := (.agg [(.v (.int .i64 1)), (.v (.string p0))])) (op_build (lay_cons rfl rfl rfl rfl rfl (lay_cons rfl rfl rfl rfl rfl lay_nil)) rfl (parts_cons rfl rfl (parts_cons rfl rfl rfl)) Tryd.underlying48 rfl rfl) rfl rfl rfl ?_
        obtain ⟨r20, hvr20, H⟩ := bind_some H
        refine Eo.call rfl rfl rfl rfl (gasmtext_isName_ok hp10 hvr20) ?_
        rintro _ σ22 ⟨rfl, hp21⟩
        refine Eo.val (x := (.v (.bool r20))) rfl rfl rfl rfl ?_
        refine Eo.nil ?_
        obtain rfl := Option.some.inj H
        exact And.intro rfl ⟨hp21, (.cons rfl (.cons rfl (.nil')))⟩
    · skip
      intro x φ25 σ24 hJ
      obtain ⟨rfl, hp23, hf26⟩ := hJ
      refine ⟨rfl, Eo.of (F := [(2, (.v (.bool false))), (14, (.v (.bool x18)))]) hf26 ?_⟩
      refine Eo.val (x := (.v (.bool x18))) rfl rfl rfl rfl ?_
      refine Eo.nil ?_
      obtain rfl := Option.some.inj H
      refine Ec.ret ?_
      refine Ret.mk rfl ?_
      exact ⟨rfl, hp23⟩

def gasmtext_Print_2_34 (n : Nat) (p0 : ByteArray) : Option (Bool) := ((gasmtext_Print_1 n p0).bind fun r1 => some (!r1))

def gasmtext_Print_2_34_post (b1 : Nat) (R : List Res) (r : Bool) (x : A) (s : St) : Prop := x = (.v (.bool r)) ∧ Hp s (.blk b1 (.cells [(.fn (.func 34) [] [])] 30) :: R)

theorem gasmtext_Print_2_34_ok {n : Nat} {b1 : Nat} {p0 : ByteArray} {R : List Res} {σ : St} (hp : Hp σ (.blk b1 (.cells [(.fn (.func 34) [] [])] 30) :: R)) {r : Bool} (H : gasmtext_Print_2_34 n p0 = some r) : Ca cfg 38 [(.v (.string p0)), (.ptr b1 0)] σ (gasmtext_Print_2_34_post b1 R r) := by
  unfold gasmtext_Print_2_34 at H
  refine Ca.enterL (G := [(0, (.v (.string p0))), (1, (.ptr b1 0))]) Tryd.func38 rfl rfl rfl rfl ?_
  refine Ec.seq ?_
  refine Ec.region ?_
  refine Eo.val (x := (.v (.bool false))) rfl rfl rfl rfl ?_
  refine Eo.nil ?_
  refine Ec.seq ?_
  refine Ec.region ?_
  refine Eo.val (x := (.fn (.func 34) [] [])) (op_loadB hp 0 rfl rfl rfl rfl) rfl rfl rfl ?_
  refine Eo.val (x := (.v (.string p0))) rfl rfl rfl rfl ?_
  obtain ⟨r1, hvr1, H⟩ := bind_some H
  refine Eo.call rfl rfl rfl rfl (gasmtext_Print_1_ok hp hvr1) ?_
  rintro _ σ3 ⟨rfl, hp2⟩
  refine Eo.val (x := (.v (.bool (!r1)))) rfl rfl rfl rfl ?_
  refine Eo.val (x := (.v (.bool (!r1)))) rfl rfl rfl rfl ?_
  refine Eo.nil ?_
  obtain rfl := Option.some.inj H
  refine Ec.ret ?_
  refine Ret.mk rfl ?_
  exact ⟨rfl, hp2⟩

def gslices_IndexFunc_63_38_34_L1 (N : Nat) (p0 : (List ByteArray)) : Nat → Int → Option (LR Unit Int)
  | 0, _ => none
  | m + 1, y12 => (cond (decide (y12 < ((p0.length : Nat) : Int))) (((atL p0 y12).bind fun x23 => ((gasmtext_Print_2_34 N x23).bind fun r27 => (cond r27 (some (.ret y12)) (gslices_IndexFunc_63_38_34_L1 N p0 m (IntKind.wrap .i64 (y12 + 1))))))) (some (.out ())))

def gslices_IndexFunc_63_38_34 (n : Nat) (p0 : (List ByteArray)) : Option (Int) := ((gslices_IndexFunc_63_38_34_L1 n p0 n 0).bind fun v => match v with | .out _ => some (-1) | .ret r37 => some r37)

def gslices_IndexFunc_63_38_34_post (b1_0 : Nat) (R : List Res) (r : Int) (x : A) (s : St) : Prop := x = (.v (.int .i64 r)) ∧ Hp s (.blk b1_0 (.cells [(.fn (.func 34) [] [])] 30) :: R)

theorem gslices_IndexFunc_63_38_34_ok {n : Nat} {b1_0 : Nat} {p0 : (List ByteArray)} {a1 : A} {R : List Res} {σ : St} (h2 : Sl rS a1 p0) (hp : Hp σ (.blk b1_0 (.cells [(.fn (.func 34) [] [])] 30) :: R)) {r : Int} (H : gslices_IndexFunc_63_38_34 n p0 = some r) : Ca cfg 63 [a1, (.fn (.func 38) [] [(.ptr b1_0 0)])] σ (gslices_IndexFunc_63_38_34_post b1_0 R r) := by
  unfold gslices_IndexFunc_63_38_34 at H
  refine Ca.enterL (G := [(0, a1), (1, (.fn (.func 38) [] [(.ptr b1_0 0)]))]) Tryd.func63 rfl rfl rfl rfl ?_
  refine Ec.seq ?_
  refine Ec.region ?_
  refine Eo.val (x := (.v (.int .i64 0))) rfl rfl rfl rfl ?_
  refine Eo.nil ?_
  refine Ec.seq ?_
  refine Ec.seq ?_
  refine Ec.region ?_
  refine Eo.val (x := a1) rfl rfl rfl rfl ?_
  refine Eo.val (x := (.v (.int .i64 ((p0.length : Nat) : Int)))) (op_lenL h2 rfl rfl rfl rfl rfl Tryd.underlying44) rfl rfl rfl ?_
  refine Eo.val (x := (.v (.int .i64 0))) rfl rfl rfl rfl ?_
  refine Eo.nil ?_
  refine Ec.block ?_
  obtain ⟨v31, hv32, H⟩ := bind_some H
  refine Ec.cut (J := (fun (v : LR Unit Int) (x : X) (φ : Fr) (s : St) => match v with | .out _ => x = (.exit 0) ∧ (Hp s (.blk b1_0 (.cells [(.fn (.func 34) [] [])] 30) :: R) ∧ Fl [] φ) | .ret r => x = .ret ∧ Ret cfg Tryd.f63 (gslices_IndexFunc_63_38_34_post b1_0 R r) .ret φ s) v31) (Ec.weak (.cons rfl (.cons rfl (.cons rfl (.cons rfl (.nil'))))) (Ec.loopF (f := (fun m (i : Int × Unit) => gslices_IndexFunc_63_38_34_L1 n p0 m i.1)) (G := (fun (i : Int × Unit) => ([(0, a1), (1, (.fn (.func 38) [] [(.ptr b1_0 0)])), (7, (.v (.int .i64 ((p0.length : Nat) : Int)))), (8, (.v (.int .i64 i.1)))] : List (Nat × A)))) (I := (fun (i : Int × Unit) (s : St) => Hp s (.blk b1_0 (.cells [(.fn (.func 34) [] [])] 30) :: R))) (J := (fun (v : LR Unit Int) (x : X) (φ : Fr) (s : St) => match v with | .out _ => x = (.exit 0) ∧ (Hp s (.blk b1_0 (.cells [(.fn (.func 34) [] [])] 30) :: R) ∧ Fl [] φ) | .ret r => x = .ret ∧ Ret cfg Tryd.f63 (gslices_IndexFunc_63_38_34_post b1_0 R r) .ret φ s)) (fun _ => rfl) ?_ n (0, ()) _ v31 hp hv32)) ?_
  · rintro m ⟨y12, _⟩ σ0 v hp0 H ih
    change gslices_IndexFunc_63_38_34_L1 n p0 (m + 1) y12 = some v at H
    rw [gslices_IndexFunc_63_38_34_L1] at H
    change Ec _ _ _ [(0, a1), (1, (.fn (.func 38) [] [(.ptr b1_0 0)])), (7, (.v (.int .i64 ((p0.length : Nat) : Int)))), (8, (.v (.int .i64 y12)))] σ0 _
    refine Ec.seq ?_
    refine Ec.region ?_
    refine Eo.val (x := (.v (.bool (decide (y12 < ((p0.length : Nat) : Int)))))) rfl rfl rfl rfl ?_
    refine Eo.nil ?_
    refine Ec.seq ?_
    refine Ec.cond (t := (decide (y12 < ((p0.length : Nat) : Int)))) rfl (fun hc22 => ?_) (fun hc22 => ?_)
    · have H := cond_t hc22 H
      refine Ec.skip ?_
      refine Ec.seq ?_
      refine Ec.block ?_
      refine Ec.seq ?_
      refine Ec.region ?_
      refine Eo.val (x := (.v (.int .i64 y12))) rfl rfl rfl rfl ?_
      refine Eo.val (x := (.v (.int .i64 y12))) rfl rfl rfl rfl ?_
      refine Eo.nil ?_
      refine Ec.seq ?_
      refine Ec.region ?_
      refine Eo.val (x := (.fn (.func 38) [] [(.ptr b1_0 0)])) rfl rfl rfl rfl ?_
      refine Eo.val (x := a1) rfl rfl rfl rfl ?_
      refine Eo.val (x := (.v (.int .i64 y12))) rfl rfl rfl rfl ?_
      obtain ⟨x23, hvx23, H⟩ := bind_some H
      refine Eo.idx h2 hvx23 rfl rfl rfl Tryd.underlying44 rfl rfl rfl rfl ?_
      rintro cs24 p25 _ hat26 rfl
      refine Eo.val (x := (.v (.string x23))) (op_loadSp hat26 0 rfl rfl rfl rfl rfl) rfl rfl rfl ?_
      obtain ⟨r27, hvr27, H⟩ := bind_some H
      refine Eo.call rfl rfl rfl rfl (gasmtext_Print_2_34_ok hp0 hvr27) ?_
      rintro _ σ29 ⟨rfl, hp28⟩
      change Hp σ29 (.blk b1_0 (.cells [(.fn (.func 34) [] [])] 30) :: R) at hp28
      refine Eo.nil ?_
      refine Ec.cond (t := r27) rfl (fun hc30 => ?_) (fun hc30 => ?_)
      · have H := cond_t hc30 H
        refine Ec.seq ?_
        refine Ec.region ?_
        refine Eo.val (x := (.v (.int .i64 y12))) rfl rfl rfl rfl ?_
        refine Eo.val (x := (.v (.int .i64 y12))) rfl rfl rfl rfl ?_
        refine Eo.nil ?_
        obtain rfl := Option.some.inj H
        refine Ec.ret ?_
        refine And.intro rfl (Ret.mk rfl ?_)
        exact ⟨rfl, hp28⟩
      · have H := cond_f hc30 H
        refine Ec.skip ?_
        refine Ec.region ?_
        refine Eo.val (x := (.v (.int .i64 (IntKind.wrap .i64 (y12 + 1))))) rfl rfl rfl rfl ?_
        refine Eo.val (x := (.v (.int .i64 (IntKind.wrap .i64 (y12 + 1))))) rfl rfl rfl rfl ?_
        refine Eo.nil ?_
        exact Ec.of (.cons rfl (.cons rfl (.cons rfl (.cons rfl (.nil'))))) (ih ((IntKind.wrap .i64 (y12 + 1)), ()) _ hp28 H)
    · have H := cond_f hc22 H
      refine Ec.exit ?_
      obtain rfl := Option.some.inj H
      exact And.intro rfl ⟨hp0, (.nil')⟩
  · rcases v31 with _ | r37
    · intro x φ35 σ34 hJ
      obtain ⟨rfl, hp33, hf36⟩ := hJ
      refine Ec.of (F := []) hf36 ?_
      refine Ec.seq ?_
      refine Ec.region ?_
      refine Eo.val (x := (.v (.int .i64 (-1)))) rfl rfl rfl rfl ?_
      refine Eo.nil ?_
      obtain rfl := Option.some.inj H
      refine Ec.ret ?_
      refine Ret.mk rfl ?_
      exact ⟨rfl, hp33⟩
    · intro x φ38 σ39 hJ
      obtain rfl := Option.some.inj H
      obtain ⟨rfl, hr⟩ := hJ
      exact hr

def gslices_ContainsFunc_37_38_34 (n : Nat) (p0 : (List ByteArray)) : Option (Bool) := ((gslices_IndexFunc_63_38_34 n p0).bind fun r3 => some (decide (r3 ≥ 0)))

def gslices_ContainsFunc_37_38_34_post (b1_0 : Nat) (R : List Res) (r : Bool) (x : A) (s : St) : Prop := x = (.v (.bool r)) ∧ Hp s (.blk b1_0 (.cells [(.fn (.func 34) [] [])] 30) :: R)

theorem gslices_ContainsFunc_37_38_34_ok {n : Nat} {b1_0 : Nat} {p0 : (List ByteArray)} {a1 : A} {R : List Res} {σ : St} (h2 : Sl rS a1 p0) (hp : Hp σ (.blk b1_0 (.cells [(.fn (.func 34) [] [])] 30) :: R)) {r : Bool} (H : gslices_ContainsFunc_37_38_34 n p0 = some r) : Ca cfg 37 [a1, (.fn (.func 38) [] [(.ptr b1_0 0)])] σ (gslices_ContainsFunc_37_38_34_post b1_0 R r) := by
  unfold gslices_ContainsFunc_37_38_34 at H
  refine Ca.enterL (G := [(0, a1), (1, (.fn (.func 38) [] [(.ptr b1_0 0)]))]) Tryd.func37 rfl rfl rfl rfl ?_
  refine Ec.seq ?_
  refine Ec.region ?_
  refine Eo.val (x := (.v (.bool false))) rfl rfl rfl rfl ?_
  refine Eo.nil ?_
  refine Ec.seq ?_
  refine Ec.region ?_
  refine Eo.val (x := a1) rfl rfl rfl rfl ?_
  refine Eo.val (x := (.fn (.func 38) [] [(.ptr b1_0 0)])) rfl rfl rfl rfl ?_
  obtain ⟨r3, hvr3, H⟩ := bind_some H
  refine Eo.call rfl rfl rfl rfl (gslices_IndexFunc_63_38_34_ok h2 hp hvr3) ?_
  rintro _ σ5 ⟨rfl, hp4⟩
  change Hp σ5 (.blk b1_0 (.cells [(.fn (.func 34) [] [])] 30) :: R) at hp4
  refine Eo.val (x := (.v (.bool (decide (r3 ≥ 0))))) rfl rfl rfl rfl ?_
  refine Eo.val (x := (.v (.bool (decide (r3 ≥ 0))))) rfl rfl rfl rfl ?_
  refine Eo.nil ?_
  obtain rfl := Option.some.inj H
  refine Ec.ret ?_
  refine Ret.mk rfl ?_
  exact ⟨rfl, hp4⟩

def gasmtext_Print_3 (n : Nat) (p0 : TTok) : Option (Bool) := ((gasmtext_sound n p0).bind fun r4 => some (!r4))

def gasmtext_Print_3_post (R : List Res) (r : Bool) (x : A) (s : St) : Prop := x = (.v (.bool r)) ∧ Hp s (R)

theorem gasmtext_Print_3_ok {n : Nat} {p0 : TTok} {R : List Res} {σ : St} (hp : Hp σ R) {r : Bool} (H : gasmtext_Print_3 n p0 = some r) : Ca cfg 40 [(.agg [(.v (.int .i64 p0.f_Kind)), (.v (.string p0.f_Text))])] σ (gasmtext_Print_3_post R r) := by
  unfold gasmtext_Print_3 at H
  refine Ca.enterL (G := [(0, (.agg [(.v (.int .i64 p0.f_Kind)), (.v (.string p0.f_Text))]))]) Tryd.func40 rfl rfl rfl rfl ?_
  refine Ec.seq ?_
  refine Ec.region ?_
  refine Eo.box hp rfl rfl rfl rfl rfl rfl rfl ?_
  intro b1 σ3 hp2
  refine Eo.val (x := (.v (.bool false))) rfl rfl rfl rfl ?_
  refine Eo.nil ?_
  refine Ec.seq ?_
  refine Ec.region ?_
  refine Eo.val (x := (.agg [(.v (.int .i64 p0.f_Kind)), (.v (.string p0.f_Text))])) (op_loadB hp2 0 rfl rfl rfl rfl) rfl rfl rfl ?_
  obtain ⟨r4, hvr4, H⟩ := bind_some H
  refine Eo.call rfl rfl rfl rfl (gasmtext_sound_ok hp2 hvr4) ?_
  rintro _ σ6 ⟨rfl, hp5⟩
  refine Eo.val (x := (.v (.bool (!r4)))) rfl rfl rfl rfl ?_
  refine Eo.val (x := (.v (.bool (!r4)))) rfl rfl rfl rfl ?_
  refine Eo.nil ?_
  obtain rfl := Option.some.inj H
  refine Ec.ret ?_
  refine Ret.mk rfl ?_
  exact ⟨rfl, (Hp.drop hp5 0)⟩

def gslices_IndexFunc_64_40_L1 (N : Nat) (p0 : (List TTok)) : Nat → Int → Option (LR Unit Int)
  | 0, _ => none
  | m + 1, y12 => (cond (decide (y12 < ((p0.length : Nat) : Int))) (((atL p0 y12).bind fun x23 => ((gasmtext_Print_3 N x23).bind fun r27 => (cond r27 (some (.ret y12)) (gslices_IndexFunc_64_40_L1 N p0 m (IntKind.wrap .i64 (y12 + 1))))))) (some (.out ())))

def gslices_IndexFunc_64_40 (n : Nat) (p0 : (List TTok)) : Option (Int) := ((gslices_IndexFunc_64_40_L1 n p0 n 0).bind fun v => match v with | .out _ => some (-1) | .ret r37 => some r37)

def gslices_IndexFunc_64_40_post (R : List Res) (r : Int) (x : A) (s : St) : Prop := x = (.v (.int .i64 r)) ∧ Hp s (R)

theorem gslices_IndexFunc_64_40_ok {n : Nat} {p0 : (List TTok)} {a1 : A} {R : List Res} {σ : St} (h2 : Sl rTTok a1 p0) (hp : Hp σ R) {r : Int} (H : gslices_IndexFunc_64_40 n p0 = some r) : Ca cfg 64 [a1, (.fn (.func 40) [] [])] σ (gslices_IndexFunc_64_40_post R r) := by
  unfold gslices_IndexFunc_64_40 at H
  refine Ca.enterL (G := [(0, a1), (1, (.fn (.func 40) [] []))]) Tryd.func64 rfl rfl rfl rfl ?_
  refine Ec.seq ?_
  refine Ec.region ?_
  refine Eo.val (x := (.v (.int .i64 0))) rfl rfl rfl rfl ?_
  refine Eo.nil ?_
  refine Ec.seq ?_
  refine Ec.seq ?_
  refine Ec.region ?_
  refine Eo.val (x := a1) rfl rfl rfl rfl ?_
  refine Eo.val (x := (.v (.int .i64 ((p0.length : Nat) : Int)))) (op_lenL h2 rfl rfl rfl rfl rfl Tryd.underlying31) rfl rfl rfl ?_
  refine Eo.val (x := (.v (.int .i64 0))) rfl rfl rfl rfl ?_
  refine Eo.nil ?_
  refine Ec.block ?_
  obtain ⟨v31, hv32, H⟩ := bind_some H
  refine Ec.cut (J := (fun (v : LR Unit Int) (x : X) (φ : Fr) (s : St) => match v with | .out _ => x = (.exit 0) ∧ (Hp s (R) ∧ Fl [] φ) | .ret r => x = .ret ∧ Ret cfg Tryd.f64 (gslices_IndexFunc_64_40_post R r) .ret φ s) v31) (Ec.weak (.cons rfl (.cons rfl (.cons rfl (.cons rfl (.nil'))))) (Ec.loopF (f := (fun m (i : Int × Unit) => gslices_IndexFunc_64_40_L1 n p0 m i.1)) (G := (fun (i : Int × Unit) => ([(0, a1), (1, (.fn (.func 40) [] [])), (7, (.v (.int .i64 ((p0.length : Nat) : Int)))), (8, (.v (.int .i64 i.1)))] : List (Nat × A)))) (I := (fun (i : Int × Unit) (s : St) => Hp s (R))) (J := (fun (v : LR Unit Int) (x : X) (φ : Fr) (s : St) => match v with | .out _ => x = (.exit 0) ∧ (Hp s (R) ∧ Fl [] φ) | .ret r => x = .ret ∧ Ret cfg Tryd.f64 (gslices_IndexFunc_64_40_post R r) .ret φ s)) (fun _ => rfl) ?_ n (0, ()) _ v31 hp hv32)) ?_
  · rintro m ⟨y12, _⟩ σ0 v hp0 H ih
    change gslices_IndexFunc_64_40_L1 n p0 (m + 1) y12 = some v at H
    rw [gslices_IndexFunc_64_40_L1] at H
    change Ec _ _ _ [(0, a1), (1, (.fn (.func 40) [] [])), (7, (.v (.int .i64 ((p0.length : Nat) : Int)))), (8, (.v (.int .i64 y12)))] σ0 _
    refine Ec.seq ?_
    refine Ec.region ?_
    refine Eo.val (x := (.v (.bool (decide (y12 < ((p0.length : Nat) : Int)))))) rfl rfl rfl rfl ?_
    refine Eo.nil ?_
    refine Ec.seq ?_
    refine Ec.cond (t := (decide (y12 < ((p0.length : Nat) : Int)))) rfl (fun hc22 => ?_) (fun hc22 => ?_)
    · have H := cond_t hc22 H
      refine Ec.skip ?_
      refine Ec.seq ?_
      refine Ec.block ?_
      refine Ec.seq ?_
      refine Ec.region ?_
      refine Eo.val (x := (.v (.int .i64 y12))) rfl rfl rfl rfl ?_
      refine Eo.val (x := (.v (.int .i64 y12))) rfl rfl rfl rfl ?_
      refine Eo.nil ?_
      refine Ec.seq ?_
      refine Ec.region ?_
      refine Eo.val (x := (.fn (.func 40) [] [])) rfl rfl rfl rfl ?_
      refine Eo.val (x := a1) rfl rfl rfl rfl ?_
      refine Eo.val (x := (.v (.int .i64 y12))) rfl rfl rfl rfl ?_
      obtain ⟨x23, hvx23, H⟩ := bind_some H
      refine Eo.idx h2 hvx23 rfl rfl rfl Tryd.underlying31 rfl rfl rfl rfl ?_
      rintro cs24 p25 _ hat26 rfl
      refine Eo.val (x := (.agg [(.v (.int .i64 x23.f_Kind)), (.v (.string x23.f_Text))])) (op_loadSpAgg hat26 0 rfl rfl rfl rfl rfl rfl) rfl rfl rfl ?_
      obtain ⟨r27, hvr27, H⟩ := bind_some H
      refine Eo.call rfl rfl rfl rfl (gasmtext_Print_3_ok hp0 hvr27) ?_
      rintro _ σ29 ⟨rfl, hp28⟩
      refine Eo.nil ?_
      refine Ec.cond (t := r27) rfl (fun hc30 => ?_) (fun hc30 => ?_)
      · have H := cond_t hc30 H
        refine Ec.seq ?_
        refine Ec.region ?_
        refine Eo.val (x := (.v (.int .i64 y12))) rfl rfl rfl rfl ?_
        refine Eo.val (x := (.v (.int .i64 y12))) rfl rfl rfl rfl ?_
        refine Eo.nil ?_
        obtain rfl := Option.some.inj H
        refine Ec.ret ?_
        refine And.intro rfl (Ret.mk rfl ?_)
        exact ⟨rfl, hp28⟩
      · have H := cond_f hc30 H
        refine Ec.skip ?_
        refine Ec.region ?_
        refine Eo.val (x := (.v (.int .i64 (IntKind.wrap .i64 (y12 + 1))))) rfl rfl rfl rfl ?_
        refine Eo.val (x := (.v (.int .i64 (IntKind.wrap .i64 (y12 + 1))))) rfl rfl rfl rfl ?_
        refine Eo.nil ?_
        exact Ec.of (.cons rfl (.cons rfl (.cons rfl (.cons rfl (.nil'))))) (ih ((IntKind.wrap .i64 (y12 + 1)), ()) _ hp28 H)
    · have H := cond_f hc22 H
      refine Ec.exit ?_
      obtain rfl := Option.some.inj H
      exact And.intro rfl ⟨hp0, (.nil')⟩
  · rcases v31 with _ | r37
    · intro x φ35 σ34 hJ
      obtain ⟨rfl, hp33, hf36⟩ := hJ
      refine Ec.of (F := []) hf36 ?_
      refine Ec.seq ?_
      refine Ec.region ?_
      refine Eo.val (x := (.v (.int .i64 (-1)))) rfl rfl rfl rfl ?_
      refine Eo.nil ?_
      obtain rfl := Option.some.inj H
      refine Ec.ret ?_
      refine Ret.mk rfl ?_
      exact ⟨rfl, hp33⟩
    · intro x φ38 σ39 hJ
      obtain rfl := Option.some.inj H
      obtain ⟨rfl, hr⟩ := hJ
      exact hr

def gslices_ContainsFunc_39_40 (n : Nat) (p0 : (List TTok)) : Option (Bool) := ((gslices_IndexFunc_64_40 n p0).bind fun r3 => some (decide (r3 ≥ 0)))

def gslices_ContainsFunc_39_40_post (R : List Res) (r : Bool) (x : A) (s : St) : Prop := x = (.v (.bool r)) ∧ Hp s (R)

theorem gslices_ContainsFunc_39_40_ok {n : Nat} {p0 : (List TTok)} {a1 : A} {R : List Res} {σ : St} (h2 : Sl rTTok a1 p0) (hp : Hp σ R) {r : Bool} (H : gslices_ContainsFunc_39_40 n p0 = some r) : Ca cfg 39 [a1, (.fn (.func 40) [] [])] σ (gslices_ContainsFunc_39_40_post R r) := by
  unfold gslices_ContainsFunc_39_40 at H
  refine Ca.enterL (G := [(0, a1), (1, (.fn (.func 40) [] []))]) Tryd.func39 rfl rfl rfl rfl ?_
  refine Ec.seq ?_
  refine Ec.region ?_
  refine Eo.val (x := (.v (.bool false))) rfl rfl rfl rfl ?_
  refine Eo.nil ?_
  refine Ec.seq ?_
  refine Ec.region ?_
  refine Eo.val (x := a1) rfl rfl rfl rfl ?_
  refine Eo.val (x := (.fn (.func 40) [] [])) rfl rfl rfl rfl ?_
  obtain ⟨r3, hvr3, H⟩ := bind_some H
  refine Eo.call rfl rfl rfl rfl (gslices_IndexFunc_64_40_ok h2 hp hvr3) ?_
  rintro _ σ5 ⟨rfl, hp4⟩
  change Hp σ5 (R) at hp4
  refine Eo.val (x := (.v (.bool (decide (r3 ≥ 0))))) rfl rfl rfl rfl ?_
  refine Eo.val (x := (.v (.bool (decide (r3 ≥ 0))))) rfl rfl rfl rfl ?_
  refine Eo.nil ?_
  obtain rfl := Option.some.inj H
  refine Ec.ret ?_
  refine Ret.mk rfl ?_
  exact ⟨rfl, hp4⟩

def gasmtext_Print_L1 (N : Nat) (p0 : (List TLine)) : Nat → Int → Bool → Int → Option (LR Bool (ByteArray × Int))
  | 0, _, _, _ => none
  | m + 1, y78, y79, y80 => (cond (decide (y80 < ((p0.length : Nat) : Int))) (((atL p0 y80).bind fun x163 => (((cond (!(((decide (x163.f_No > y78)) && (decide (x163.f_No ≤ 16384))) && (decide ((IntKind.wrap .i64 (((x163.f_Labels.length : Nat) : Int) + ((x163.f_Toks.length : Nat) : Int))) > 0)))) (some true) (((gslices_ContainsFunc_37_38_34 N x163.f_Labels).bind fun r197 => some r197))) : Option (Bool)).bind fun x195 => (((cond x195 (some true) (((gslices_ContainsFunc_39_40 N x163.f_Toks).bind fun r210 => some r210))) : Option (Bool)).bind fun x208 => (((cond x208 (some true) (((gasmtext_labelled N x163.f_Toks).bind fun r223 => some r223))) : Option (Bool)).bind fun x221 => (cond x221 (some (.ret ((ByteArray.mk #[]), 131))) (gasmtext_Print_L1 N p0 m x163.f_No (y79 || (decide ((IntKind.wrap .i64 ((IntKind.wrap .i64 (2 * ((x163.f_Labels.length : Nat) : Int))) + ((x163.f_Toks.length : Nat) : Int))) > 64))) (IntKind.wrap .i64 (y80 + 1))))))))) (some (.out y79)))

def gasmtext_Print_L3 (N : Nat) (x450 : TLine) : Nat → Int → (List Int) → Option ((List Int))
  | 0, _, _ => none
  | m + 1, y486, y490 => (cond (decide (y486 < ((x450.f_Labels.length : Nat) : Int))) (((atL x450.f_Labels y486).bind fun x513 => ((catS x513 (ByteArray.mk #[58, 32])).bind fun s517 => ((appL 1 y490 (bs s517)).bind fun l518 => gasmtext_Print_L3 N x450 m (IntKind.wrap .i64 (y486 + 1)) l518)))) (some y490))

def gasmtext_Print_L2 (N : Nat) (p0 : (List TLine)) : Nat → Int → Int → (List Int) → Option ((List Int))
  | 0, _, _, _ => none
  | m + 1, y343, y344, y348 => (cond (decide (y344 < ((p0.length : Nat) : Int))) (((atL p0 y344).bind fun x450 => ((repeatT (ByteArray.mk #[10]) (IntKind.wrap .i64 (x450.f_No - y343))).bind fun r463 => ((appL 1 y348 (bs r463)).bind fun l466 => ((gasmtext_Print_L3 N x450 N 0 l466).bind fun x509 => ((gasmtext_Join N x450.f_Toks).bind fun r531 => ((appL 1 x509 (bs r531)).bind fun l534 => gasmtext_Print_L2 N p0 m x450.f_No (IntKind.wrap .i64 (y344 + 1)) l534))))))) (some y348))

def gasmtext_Print (n : Nat) (p0 : (List TLine)) : Option ((ByteArray × Int)) := ((gasmtext_Print_L1 n p0 n 0 false 0).bind fun v => match v with | .out x161 => ((gasmtext_Print_L2 n p0 n 1 0 ([] : List Int)).bind fun x446 => (((cond (decide (((p0.length : Nat) : Int) > 0)) (((appL 1 x446 ([10] : List Int)).bind fun l562 => some l562)) (some x446)) : Option ((List Int))).bind fun x558 => (cond (x161 || (decide (((x558.length : Nat) : Int) > 262144))) (some ((ByteArray.mk #[]), 133)) (((strT x558).bind fun s579 => some (s579, 0)))))) | .ret r584 => some r584)

def gasmtext_Print_post (R : List Res) (r : (ByteArray × Int)) (x : A) (s : St) : Prop := x = (.tup [(.v (.string r.1)), (.v (.int .i64 r.2))]) ∧ Hp s (R)

theorem gasmtext_Print_ok {n : Nat} {p0 : (List TLine)} {a1 : A} {R : List Res} {σ : St} (h2 : Sl rTLine a1 p0) (hp : Hp σ R) {r : (ByteArray × Int)} (H : gasmtext_Print n p0 = some r) : Ca cfg 19 [a1] σ (gasmtext_Print_post R r) := by
  unfold gasmtext_Print at H
  refine Ca.enterL (G := [(0, a1)]) Tryd.func19 rfl rfl rfl rfl ?_
  refine Ec.seq ?_
  refine Ec.region ?_
  refine Eo.val (x := (.v (.string (ByteArray.mk #[])))) rfl rfl rfl rfl ?_
  refine Eo.val (x := (.v (.int .i64 0))) rfl rfl rfl rfl ?_
  refine Eo.nil ?_
  refine Ec.seq ?_
  refine Ec.region ?_
  refine Eo.val (x := (.v (.int .i64 0))) rfl rfl rfl rfl ?_
  refine Eo.val (x := (.v (.bool false))) rfl rfl rfl rfl ?_
  refine Eo.nil ?_
  refine Ec.seq ?_
  refine Ec.seq ?_
  refine Ec.region ?_
  refine Eo.val (x := a1) rfl rfl rfl rfl ?_
  refine Eo.val (x := (.v (.int .i64 ((p0.length : Nat) : Int)))) (op_lenL h2 rfl rfl rfl rfl rfl Tryd.underlying23) rfl rfl rfl ?_
  refine Eo.val (x := (.v (.int .i64 0))) rfl rfl rfl rfl ?_
  refine Eo.nil ?_
  refine Ec.block ?_
  obtain ⟨v242, hv243, H⟩ := bind_some H
  refine Ec.cut (J := (fun (v : LR Bool (ByteArray × Int)) (x : X) (φ : Fr) (s : St) => match v with | .out x161 => x = (.exit 0) ∧ (Hp s (R) ∧ Fl [(0, a1), (5, (.v (.bool x161)))] φ) | .ret r => x = .ret ∧ Ret cfg Tryd.f19 (gasmtext_Print_post R r) .ret φ s) v242) (Ec.weak (.cons rfl (.cons rfl (.cons rfl (.cons rfl (.cons rfl (.cons rfl (.nil'))))))) (Ec.loopF (f := (fun m (i : (Int × Bool × Int) × Unit) => gasmtext_Print_L1 n p0 m i.1.1 i.1.2.1 i.1.2.2)) (G := (fun (i : (Int × Bool × Int) × Unit) => ([(0, a1), (4, (.v (.int .i64 i.1.1))), (5, (.v (.bool i.1.2.1))), (16, a1), (17, (.v (.int .i64 ((p0.length : Nat) : Int)))), (18, (.v (.int .i64 i.1.2.2)))] : List (Nat × A)))) (I := (fun (i : (Int × Bool × Int) × Unit) (s : St) => Hp s (R))) (J := (fun (v : LR Bool (ByteArray × Int)) (x : X) (φ : Fr) (s : St) => match v with | .out x161 => x = (.exit 0) ∧ (Hp s (R) ∧ Fl [(0, a1), (5, (.v (.bool x161)))] φ) | .ret r => x = .ret ∧ Ret cfg Tryd.f19 (gasmtext_Print_post R r) .ret φ s)) (fun _ => rfl) ?_ n ((0, false, 0), ()) _ v242 hp hv243)) ?_
  · rintro m ⟨⟨y78, y79, y80⟩, _⟩ σ0 v hp0 H ih
    change gasmtext_Print_L1 n p0 (m + 1) y78 y79 y80 = some v at H
    rw [gasmtext_Print_L1] at H
    change Ec _ _ _ [(0, a1), (4, (.v (.int .i64 y78))), (5, (.v (.bool y79))), (16, a1), (17, (.v (.int .i64 ((p0.length : Nat) : Int)))), (18, (.v (.int .i64 y80)))] σ0 _
    refine Ec.seq ?_
    refine Ec.region ?_
    refine Eo.val (x := (.v (.bool (decide (y80 < ((p0.length : Nat) : Int)))))) rfl rfl rfl rfl ?_
    refine Eo.nil ?_
    refine Ec.seq ?_
    refine Ec.cond (t := (decide (y80 < ((p0.length : Nat) : Int)))) rfl (fun hc162 => ?_) (fun hc162 => ?_)
    · have H := cond_t hc162 H
      refine Ec.skip ?_
      refine Ec.seq ?_
      refine Ec.block ?_
      refine Ec.seq ?_
      refine Ec.region ?_
      obtain ⟨x163, hvx163, H⟩ := bind_some H
      refine Eo.idx h2 hvx163 rfl rfl rfl Tryd.underlying23 rfl rfl rfl rfl ?_
      rintro cs164 p165 _ hat166 ⟨a167, a169, rfl, h168, h170⟩
      refine Eo.val (x := (.agg [(.v (.int .i64 x163.f_No)), a167, a169])) (op_loadSpAgg hat166 0 rfl rfl rfl rfl rfl rfl) rfl rfl rfl ?_
      refine Eo.alloc (z := [(.v (.int .i64 0)), nilS, nilS]) hp0 rfl rfl rfl rfl rfl ?_
      intro b171 σ173 hp172
      refine Eo.store hp172 0 rfl (storeCells_mk rfl rfl rfl (by simp [allOne, A.cells, h168.isOne, h170.isOne]) rfl rfl) rfl rfl rfl rfl rfl ?_
      intro σ175 hp174
      change Hp σ175 (.blk b171 (.cells [(.v (.int .i64 x163.f_No)), a167, a169] 46) :: R) at hp174
      refine Eo.nil ?_
      refine Ec.seq ?_
      refine Ec.region ?_
      refine Eo.alloc (z := [(.v .nilFunc)]) hp174 rfl rfl rfl rfl rfl ?_
      intro b176 σ178 hp177
      refine Eo.store hp177 0 rfl (storeCells_mk rfl rfl rfl rfl rfl rfl) rfl rfl rfl rfl rfl ?_
      intro σ180 hp179
      change Hp σ180 (.blk b176 (.cells [(.fn (.func 34) [] [])] 30) :: .blk b171 (.cells [(.v (.int .i64 x163.f_No)), a167, a169] 46) :: R) at hp179
      refine Eo.nil ?_
      refine Ec.seq ?_
      refine Ec.region ?_
      refine Eo.val (x := (.ptr b171 0)) rfl rfl rfl rfl ?_
      refine Eo.val (x := (.v (.int .i64 x163.f_No))) (op_loadB hp179 1 rfl rfl rfl rfl) rfl rfl rfl ?_
      refine Eo.val (x := (.v (.int .i64 y78))) rfl rfl rfl rfl ?_
      refine Eo.val (x := (.v (.bool (decide (x163.f_No > y78))))) rfl rfl rfl rfl ?_
      refine Eo.val (x := (.v (.bool (decide (x163.f_No > y78))))) rfl rfl rfl rfl ?_
      refine Eo.cutF 4 [(0, a1), (5, (.v (.bool y79))), (16, a1), (17, (.v (.int .i64 ((p0.length : Nat) : Int)))), (18, (.v (.int .i64 y80))), (7, (.ptr b171 0)), (8, (.ptr b176 0)), (30, (.v (.bool ((decide (x163.f_No > y78)) && (decide (x163.f_No ≤ 16384))))))] ?_ ?_
      · skip
        cases hc183 : (decide (x163.f_No > y78))
        · skip
          refine Eo.off rfl rfl rfl ?_
          refine Eo.off rfl rfl rfl ?_
          refine Eo.off rfl rfl rfl ?_
          refine Eo.val (x := (.v (.bool false))) rfl rfl rfl rfl ?_
          exact Eo.nil (And.intro rfl (And.intro rfl (.cons rfl (.cons rfl (.cons rfl (.cons rfl (.cons rfl (.cons rfl (.cons rfl (.cons rfl (.nil')))))))))))
        · skip
          refine Eo.val (x := (.ptr b171 0)) rfl rfl rfl rfl ?_
          refine Eo.val (x := (.v (.int .i64 x163.f_No))) (op_loadB hp179 1 rfl rfl rfl rfl) rfl rfl rfl ?_
          refine Eo.val (x := (.v (.bool (decide (x163.f_No ≤ 16384))))) rfl rfl rfl rfl ?_
          refine Eo.val (x := (.v (.bool (decide (x163.f_No ≤ 16384))))) rfl rfl rfl rfl ?_
          exact Eo.nil (And.intro rfl (And.intro rfl (.cons rfl (.cons rfl (.cons rfl (.cons rfl (.cons rfl (.cons rfl (.cons rfl (.cons rfl (.nil')))))))))))
      · skip
        refine Eo.val (x := (.v (.bool ((decide (x163.f_No > y78)) && (decide (x163.f_No ≤ 16384)))))) rfl rfl rfl rfl ?_
        refine Eo.cutF 9 [(0, a1), (5, (.v (.bool y79))), (16, a1), (17, (.v (.int .i64 ((p0.length : Nat) : Int)))), (18, (.v (.int .i64 y80))), (7, (.ptr b171 0)), (8, (.ptr b176 0)), (40, (.v (.bool (((decide (x163.f_No > y78)) && (decide (x163.f_No ≤ 16384))) && (decide ((IntKind.wrap .i64 (((x163.f_Labels.length : Nat) : Int) + ((x163.f_Toks.length : Nat) : Int))) > 0))))))] ?_ ?_
        · skip
          cases hc188 : ((decide (x163.f_No > y78)) && (decide (x163.f_No ≤ 16384)))
          · skip
            refine Eo.off rfl rfl rfl ?_
            refine Eo.off rfl rfl rfl ?_
            refine Eo.off rfl rfl rfl ?_
            refine Eo.off rfl rfl rfl ?_
            refine Eo.off rfl rfl rfl ?_
            refine Eo.off rfl rfl rfl ?_
            refine Eo.off rfl rfl rfl ?_
            refine Eo.off rfl rfl rfl ?_
            refine Eo.val (x := (.v (.bool false))) rfl rfl rfl rfl ?_
            exact Eo.nil (And.intro rfl (And.intro rfl (.cons rfl (.cons rfl (.cons rfl (.cons rfl (.cons rfl (.cons rfl (.cons rfl (.cons rfl (.nil')))))))))))
          · skip
            refine Eo.val (x := (.ptr b171 1)) rfl rfl rfl rfl ?_
            refine Eo.val (x := a167) (op_loadB hp179 1 rfl rfl rfl rfl) rfl rfl rfl ?_
            refine Eo.val (x := (.v (.int .i64 ((x163.f_Labels.length : Nat) : Int)))) (op_lenL h168 rfl rfl rfl rfl rfl Tryd.underlying44) rfl rfl rfl ?_
            refine Eo.val (x := (.ptr b171 2)) rfl rfl rfl rfl ?_
            refine Eo.val (x := a169) (op_loadB hp179 1 rfl rfl rfl rfl) rfl rfl rfl ?_
            refine Eo.val (x := (.v (.int .i64 ((x163.f_Toks.length : Nat) : Int)))) (op_lenL h170 rfl rfl rfl rfl rfl Tryd.underlying31) rfl rfl rfl ?_
            refine Eo.val (x := (.v (.int .i64 (IntKind.wrap .i64 (((x163.f_Labels.length : Nat) : Int) + ((x163.f_Toks.length : Nat) : Int)))))) rfl rfl rfl rfl ?_
            refine Eo.val (x := (.v (.bool (decide ((IntKind.wrap .i64 (((x163.f_Labels.length : Nat) : Int) + ((x163.f_Toks.length : Nat) : Int))) > 0))))) rfl rfl rfl rfl ?_
            refine Eo.val (x := (.v (.bool (decide ((IntKind.wrap .i64 (((x163.f_Labels.length : Nat) : Int) + ((x163.f_Toks.length : Nat) : Int))) > 0))))) rfl rfl rfl rfl ?_
            exact Eo.nil (And.intro rfl (And.intro rfl (.cons rfl (.cons rfl (.cons rfl (.cons rfl (.cons rfl (.cons rfl (.cons rfl (.cons rfl (.nil')))))))))))
        · skip
          refine Eo.val (x := (.v (.bool (((decide (x163.f_No > y78)) && (decide (x163.f_No ≤ 16384))) && (decide ((IntKind.wrap .i64 (((x163.f_Labels.length : Nat) : Int) + ((x163.f_Toks.length : Nat) : Int))) > 0)))))) rfl rfl rfl rfl ?_
          refine Eo.nil ?_
          refine Ec.seq ?_
          refine Ec.seq ?_
          refine Ec.region ?_
          refine Eo.val (x := (.v (.bool (((decide (x163.f_No > y78)) && (decide (x163.f_No ≤ 16384))) && (decide ((IntKind.wrap .i64 (((x163.f_Labels.length : Nat) : Int) + ((x163.f_Toks.length : Nat) : Int))) > 0)))))) rfl rfl rfl rfl ?_
          refine Eo.val (x := (.v (.bool (!(((decide (x163.f_No > y78)) && (decide (x163.f_No ≤ 16384))) && (decide ((IntKind.wrap .i64 (((x163.f_Labels.length : Nat) : Int) + ((x163.f_Toks.length : Nat) : Int))) > 0))))))) rfl rfl rfl rfl ?_
          refine Eo.val (x := (.v (.bool (!(((decide (x163.f_No > y78)) && (decide (x163.f_No ≤ 16384))) && (decide ((IntKind.wrap .i64 (((x163.f_Labels.length : Nat) : Int) + ((x163.f_Toks.length : Nat) : Int))) > 0))))))) rfl rfl rfl rfl ?_
          obtain ⟨x195, hv241, H⟩ := bind_some H
          refine Eo.cutN 5 (J := (fun (x195 : Bool) (x : X) (φ : Fr) (s : St) => x = .normal ∧ (Hp s (.blk b171 (.cells [(.v (.int .i64 x163.f_No)), a167, a169] 46) :: R) ∧ Fl [(0, a1), (5, (.v (.bool y79))), (7, (.ptr b171 0)), (16, a1), (17, (.v (.int .i64 ((p0.length : Nat) : Int)))), (18, (.v (.int .i64 y80))), (48, (.v (.bool x195)))] φ)) x195) ?_ ?_
          · have H := hv241
            cases hc196 : (!(((decide (x163.f_No > y78)) && (decide (x163.f_No ≤ 16384))) && (decide ((IntKind.wrap .i64 (((x163.f_Labels.length : Nat) : Int) + ((x163.f_Toks.length : Nat) : Int))) > 0))))
            · have H := cond_f hc196 H
              refine Eo.val (x := (.ptr b171 1)) rfl rfl rfl rfl ?_
              refine Eo.val (x := a167) (op_loadB hp179 1 rfl rfl rfl rfl) rfl rfl rfl ?_
              refine Eo.val (x := (.fn (.func 38) [] [(.ptr b176 0)])) rfl rfl rfl rfl ?_
              obtain ⟨r197, hvr197, H⟩ := bind_some H
              refine Eo.call rfl rfl rfl rfl (gslices_ContainsFunc_37_38_34_ok h168 (Hp.front (Hp.front hp179 1) 1) hvr197) ?_
              rintro _ σ199 ⟨rfl, hp198⟩
              change Hp σ199 (.blk b176 (.cells [(.fn (.func 34) [] [])] 30) :: .blk b171 (.cells [(.v (.int .i64 x163.f_No)), a167, a169] 46) :: R) at hp198
              refine Eo.val (x := (.v (.bool r197))) rfl rfl rfl rfl ?_
              refine Eo.nil ?_
              obtain rfl := Option.some.inj H
              exact And.intro rfl ⟨(Hp.drop hp198 0), (.cons rfl (.cons rfl (.cons rfl (.cons rfl (.cons rfl (.cons rfl (.cons rfl (.nil'))))))))⟩
            · have H := cond_t hc196 H
              refine Eo.off rfl rfl rfl ?_
              refine Eo.off rfl rfl rfl ?_
              refine Eo.off rfl rfl rfl ?_
              refine Eo.off rfl rfl rfl ?_
              refine Eo.val (x := (.v (.bool true))) rfl rfl rfl rfl ?_
              refine Eo.nil ?_
              obtain rfl := Option.some.inj H
              exact And.intro rfl ⟨(Hp.drop hp179 0), (.cons rfl (.cons rfl (.cons rfl (.cons rfl (.cons rfl (.cons rfl (.cons rfl (.nil'))))))))⟩
          · skip
            intro x φ202 σ201 hJ
            obtain ⟨rfl, hp200, hf203⟩ := hJ
            refine ⟨rfl, Eo.of (F := [(0, a1), (5, (.v (.bool y79))), (7, (.ptr b171 0)), (16, a1), (17, (.v (.int .i64 ((p0.length : Nat) : Int)))), (18, (.v (.int .i64 y80))), (48, (.v (.bool x195)))]) hf203 ?_⟩
            refine Eo.val (x := (.v (.bool x195))) rfl rfl rfl rfl ?_
            obtain ⟨x208, hv239, H⟩ := bind_some H
            refine Eo.cutN 4 (J := (fun (x208 : Bool) (x : X) (φ : Fr) (s : St) => x = .normal ∧ (Hp s (.blk b171 (.cells [(.v (.int .i64 x163.f_No)), a167, a169] 46) :: R) ∧ Fl [(0, a1), (5, (.v (.bool y79))), (7, (.ptr b171 0)), (16, a1), (17, (.v (.int .i64 ((p0.length : Nat) : Int)))), (18, (.v (.int .i64 y80))), (53, (.v (.bool x208)))] φ)) x208) ?_ ?_
            · have H := hv239
              cases hc209 : x195
              · have H := cond_f hc209 H
                refine Eo.val (x := (.ptr b171 2)) rfl rfl rfl rfl ?_
                refine Eo.val (x := a169) (op_loadB hp200 0 rfl rfl rfl rfl) rfl rfl rfl ?_
                obtain ⟨r210, hvr210, H⟩ := bind_some H
                refine Eo.call rfl rfl rfl rfl (gslices_ContainsFunc_39_40_ok h170 hp200 hvr210) ?_
                rintro _ σ212 ⟨rfl, hp211⟩
                change Hp σ212 (.blk b171 (.cells [(.v (.int .i64 x163.f_No)), a167, a169] 46) :: R) at hp211
                refine Eo.val (x := (.v (.bool r210))) rfl rfl rfl rfl ?_
                refine Eo.nil ?_
                obtain rfl := Option.some.inj H
                exact And.intro rfl ⟨hp211, (.cons rfl (.cons rfl (.cons rfl (.cons rfl (.cons rfl (.cons rfl (.cons rfl (.nil'))))))))⟩
              · have H := cond_t hc209 H
                refine Eo.off rfl rfl rfl ?_
                refine Eo.off rfl rfl rfl ?_
                refine Eo.off rfl rfl rfl ?_
                refine Eo.val (x := (.v (.bool true))) rfl rfl rfl rfl ?_
                refine Eo.nil ?_
                obtain rfl := Option.some.inj H
                exact And.intro rfl ⟨hp200, (.cons rfl (.cons rfl (.cons rfl (.cons rfl (.cons rfl (.cons rfl (.cons rfl (.nil'))))))))⟩
            · skip
              intro x φ215 σ214 hJ
              obtain ⟨rfl, hp213, hf216⟩ := hJ
              refine ⟨rfl, Eo.of (F := [(0, a1), (5, (.v (.bool y79))), (7, (.ptr b171 0)), (16, a1), (17, (.v (.int .i64 ((p0.length : Nat) : Int)))), (18, (.v (.int .i64 y80))), (53, (.v (.bool x208)))]) hf216 ?_⟩
              refine Eo.val (x := (.v (.bool x208))) rfl rfl rfl rfl ?_
              obtain ⟨x221, hv237, H⟩ := bind_some H
              refine Eo.cutN 4 (J := (fun (x221 : Bool) (x : X) (φ : Fr) (s : St) => x = .normal ∧ (Hp s (.blk b171 (.cells [(.v (.int .i64 x163.f_No)), a167, a169] 46) :: R) ∧ Fl [(0, a1), (5, (.v (.bool y79))), (7, (.ptr b171 0)), (16, a1), (17, (.v (.int .i64 ((p0.length : Nat) : Int)))), (18, (.v (.int .i64 y80))), (58, (.v (.bool x221)))] φ)) x221) ?_ ?_
              · have H := hv237
                cases hc222 : x208
                · have H := cond_f hc222 H
                  refine Eo.val (x := (.ptr b171 2)) rfl rfl rfl rfl ?_
                  refine Eo.val (x := a169) (op_loadB hp213 0 rfl rfl rfl rfl) rfl rfl rfl ?_
                  obtain ⟨r223, hvr223, H⟩ := bind_some H
                  refine Eo.call rfl rfl rfl rfl (gasmtext_labelled_ok h170 hp213 hvr223) ?_
                  rintro _ σ225 ⟨rfl, hp224⟩
                  refine Eo.val (x := (.v (.bool r223))) rfl rfl rfl rfl ?_
                  refine Eo.nil ?_
                  obtain rfl := Option.some.inj H
                  exact And.intro rfl ⟨hp224, (.cons rfl (.cons rfl (.cons rfl (.cons rfl (.cons rfl (.cons rfl (.cons rfl (.nil'))))))))⟩
                · have H := cond_t hc222 H
                  refine Eo.off rfl rfl rfl ?_
                  refine Eo.off rfl rfl rfl ?_
                  refine Eo.off rfl rfl rfl ?_
                  refine Eo.val (x := (.v (.bool true))) rfl rfl rfl rfl ?_
                  refine Eo.nil ?_
                  obtain rfl := Option.some.inj H
                  exact And.intro rfl ⟨hp213, (.cons rfl (.cons rfl (.cons rfl (.cons rfl (.cons rfl (.cons rfl (.cons rfl (.nil'))))))))⟩
              · skip
                intro x φ228 σ227 hJ
                obtain ⟨rfl, hp226, hf229⟩ := hJ
                refine ⟨rfl, Eo.of (F := [(0, a1), (5, (.v (.bool y79))), (7, (.ptr b171 0)), (16, a1), (17, (.v (.int .i64 ((p0.length : Nat) : Int)))), (18, (.v (.int .i64 y80))), (58, (.v (.bool x221)))]) hf229 ?_⟩
                refine Eo.nil ?_
                refine Ec.cond (t := x221) rfl (fun hc230 => ?_) (fun hc230 => ?_)
                · have H := cond_t hc230 H
                  refine Ec.seq ?_
                  refine Ec.region ?_
                  refine Eo.val (x := (.v (.string (ByteArray.mk #[])))) rfl rfl rfl rfl ?_
                  refine Eo.val (x := (.v (.int .i64 131))) rfl rfl rfl rfl ?_
                  refine Eo.nil ?_
                  obtain rfl := Option.some.inj H
                  refine Ec.ret ?_
                  refine And.intro rfl (Ret.mk rfl ?_)
                  exact ⟨rfl, (Hp.drop hp226 0)⟩
                · have H := cond_f hc230 H
                  refine Ec.skip ?_
                  refine Ec.seq ?_
                  refine Ec.region ?_
                  refine Eo.val (x := (.ptr b171 0)) rfl rfl rfl rfl ?_
                  refine Eo.val (x := (.v (.int .i64 x163.f_No))) (op_loadB hp226 0 rfl rfl rfl rfl) rfl rfl rfl ?_
                  refine Eo.val (x := (.v (.int .i64 x163.f_No))) rfl rfl rfl rfl ?_
                  refine Eo.nil ?_
                  refine Ec.region ?_
                  refine Eo.val (x := (.v (.bool y79))) rfl rfl rfl rfl ?_
                  refine Eo.val (x := (.v (.bool y79))) rfl rfl rfl rfl ?_
                  refine Eo.cutF 10 [(0, a1), (5, (.v (.bool y79))), (16, a1), (17, (.v (.int .i64 ((p0.length : Nat) : Int)))), (18, (.v (.int .i64 y80))), (4, (.v (.int .i64 x163.f_No))), (72, (.v (.bool (y79 || (decide ((IntKind.wrap .i64 ((IntKind.wrap .i64 (2 * ((x163.f_Labels.length : Nat) : Int))) + ((x163.f_Toks.length : Nat) : Int))) > 64))))))] ?_ ?_
                  · skip
                    cases hc233 : y79
                    · skip
                      refine Eo.val (x := (.ptr b171 1)) rfl rfl rfl rfl ?_
                      refine Eo.val (x := a167) (op_loadB hp226 0 rfl rfl rfl rfl) rfl rfl rfl ?_
                      refine Eo.val (x := (.v (.int .i64 ((x163.f_Labels.length : Nat) : Int)))) (op_lenL h168 rfl rfl rfl rfl rfl Tryd.underlying44) rfl rfl rfl ?_
                      refine Eo.val (x := (.v (.int .i64 (IntKind.wrap .i64 (2 * ((x163.f_Labels.length : Nat) : Int)))))) rfl rfl rfl rfl ?_
                      refine Eo.val (x := (.ptr b171 2)) rfl rfl rfl rfl ?_
                      refine Eo.val (x := a169) (op_loadB hp226 0 rfl rfl rfl rfl) rfl rfl rfl ?_
                      refine Eo.val (x := (.v (.int .i64 ((x163.f_Toks.length : Nat) : Int)))) (op_lenL h170 rfl rfl rfl rfl rfl Tryd.underlying31) rfl rfl rfl ?_
                      refine Eo.val (x := (.v (.int .i64 (IntKind.wrap .i64 ((IntKind.wrap .i64 (2 * ((x163.f_Labels.length : Nat) : Int))) + ((x163.f_Toks.length : Nat) : Int)))))) rfl rfl rfl rfl ?_
                      refine Eo.val (x := (.v (.bool (decide ((IntKind.wrap .i64 ((IntKind.wrap .i64 (2 * ((x163.f_Labels.length : Nat) : Int))) + ((x163.f_Toks.length : Nat) : Int))) > 64))))) rfl rfl rfl rfl ?_
                      refine Eo.val (x := (.v (.bool (decide ((IntKind.wrap .i64 ((IntKind.wrap .i64 (2 * ((x163.f_Labels.length : Nat) : Int))) + ((x163.f_Toks.length : Nat) : Int))) > 64))))) rfl rfl rfl rfl ?_
                      exact Eo.nil (And.intro rfl (And.intro rfl (.cons rfl (.cons rfl (.cons rfl (.cons rfl (.cons rfl (.cons rfl (.cons rfl (.nil'))))))))))
                    · skip
                      refine Eo.off rfl rfl rfl ?_
                      refine Eo.off rfl rfl rfl ?_
                      refine Eo.off rfl rfl rfl ?_
                      refine Eo.off rfl rfl rfl ?_
                      refine Eo.off rfl rfl rfl ?_
                      refine Eo.off rfl rfl rfl ?_
                      refine Eo.off rfl rfl rfl ?_
                      refine Eo.off rfl rfl rfl ?_
                      refine Eo.off rfl rfl rfl ?_
                      refine Eo.val (x := (.v (.bool true))) rfl rfl rfl rfl ?_
                      exact Eo.nil (And.intro rfl (And.intro rfl (.cons rfl (.cons rfl (.cons rfl (.cons rfl (.cons rfl (.cons rfl (.cons rfl (.nil'))))))))))
                  · skip
                    refine Eo.val (x := (.v (.bool (y79 || (decide ((IntKind.wrap .i64 ((IntKind.wrap .i64 (2 * ((x163.f_Labels.length : Nat) : Int))) + ((x163.f_Toks.length : Nat) : Int))) > 64)))))) rfl rfl rfl rfl ?_
                    refine Eo.nil ?_
                    refine Ec.region ?_
                    refine Eo.val (x := (.v (.int .i64 (IntKind.wrap .i64 (y80 + 1))))) rfl rfl rfl rfl ?_
                    refine Eo.val (x := (.v (.int .i64 (IntKind.wrap .i64 (y80 + 1))))) rfl rfl rfl rfl ?_
                    refine Eo.nil ?_
                    exact Ec.of (.cons rfl (.cons rfl (.cons rfl (.cons rfl (.cons rfl (.cons rfl (.nil'))))))) (ih ((x163.f_No, (y79 || (decide ((IntKind.wrap .i64 ((IntKind.wrap .i64 (2 * ((x163.f_Labels.length : Nat) : Int))) + ((x163.f_Toks.length : Nat) : Int))) > 64))), (IntKind.wrap .i64 (y80 + 1))), ()) _ (Hp.drop hp226 0) H)
    · have H := cond_f hc162 H
      refine Ec.exit ?_
      obtain rfl := Option.some.inj H
      exact And.intro rfl ⟨hp0, (.cons rfl (.cons rfl (.nil')))⟩
  · rcases v242 with x161 | r584
    · intro x φ246 σ245 hJ
      obtain ⟨rfl, hp244, hf247⟩ := hJ
      refine Ec.of (F := [(0, a1), (5, (.v (.bool x161)))]) hf247 ?_
      refine Ec.seq ?_
      refine Ec.region ?_
      refine Eo.alloc (z := [(.v (.pointer none)), nilS]) hp244 rfl rfl rfl rfl rfl ?_
      intro b248 σ250 hp249
      refine Eo.nil ?_
      refine Ec.seq ?_
      refine Ec.region ?_
      refine Eo.val (x := (.v (.int .i64 1))) rfl rfl rfl rfl ?_
      refine Eo.nil ?_
      refine Ec.seq ?_
      refine Ec.seq ?_
      refine Ec.region ?_
      refine Eo.val (x := a1) rfl rfl rfl rfl ?_
      refine Eo.val (x := (.v (.int .i64 ((p0.length : Nat) : Int)))) (op_lenL h2 rfl rfl rfl rfl rfl Tryd.underlying23) rfl rfl rfl ?_
      refine Eo.val (x := (.v (.int .i64 0))) rfl rfl rfl rfl ?_
      refine Eo.nil ?_
      refine Ec.block ?_
      obtain ⟨x446, hv542, H⟩ := bind_some H
      refine Ec.cut (J := (fun (x446 : (List Int)) (x : X) (φ : Fr) (s : St) => x = (.exit 2) ∧ (∃ (a444 a447 : A), AddrOk a444 b248 ∧ BufIs a447 x446 ∧ Hp s (.blk b248 (.cells [a444, a447] 67) :: .app a447 5 :: R) ∧ Fl [(0, a1), (5, (.v (.bool x161))), (10, (.ptr b248 0))] φ)) x446) (Ec.weak (.cons rfl (.cons rfl (.cons rfl (.cons rfl (.cons rfl (.cons rfl (.cons rfl (.nil')))))))) (Ec.loopF (f := (fun m (i : (Int × Int × (List Int)) × (A × A)) => gasmtext_Print_L2 n p0 m i.1.1 i.1.2.1 i.1.2.2)) (G := (fun (i : (Int × Int × (List Int)) × (A × A)) => ([(0, a1), (5, (.v (.bool x161))), (10, (.ptr b248 0)), (11, (.v (.int .i64 i.1.1))), (74, a1), (75, (.v (.int .i64 ((p0.length : Nat) : Int)))), (76, (.v (.int .i64 i.1.2.1)))] : List (Nat × A)))) (I := (fun (i : (Int × Int × (List Int)) × (A × A)) (s : St) => AddrOk i.2.1 b248 ∧ BufIs i.2.2 i.1.2.2 ∧ Hp s (.blk b248 (.cells [i.2.1, i.2.2] 67) :: .app i.2.2 5 :: R))) (J := (fun (x446 : (List Int)) (x : X) (φ : Fr) (s : St) => x = (.exit 2) ∧ (∃ (a444 a447 : A), AddrOk a444 b248 ∧ BufIs a447 x446 ∧ Hp s (.blk b248 (.cells [a444, a447] 67) :: .app a447 5 :: R) ∧ Fl [(0, a1), (5, (.v (.bool x161))), (10, (.ptr b248 0))] φ))) (fun _ => rfl) ?_ n ((1, 0, ([] : List Int)), ((.v (.pointer none)), nilS)) _ x446 ⟨(.inl rfl), BufIs.nil, (Hp.front (Hp.appNil hp249 5) 1)⟩ hv542)) ?_
      · rintro m ⟨⟨y343, y344, y348⟩, ⟨a346, a349⟩⟩ σ0 v ⟨h347, h350, hp0⟩ H ih
        change gasmtext_Print_L2 n p0 (m + 1) y343 y344 y348 = some v at H
        rw [gasmtext_Print_L2] at H
        change Ec _ _ _ [(0, a1), (5, (.v (.bool x161))), (10, (.ptr b248 0)), (11, (.v (.int .i64 y343))), (74, a1), (75, (.v (.int .i64 ((p0.length : Nat) : Int)))), (76, (.v (.int .i64 y344)))] σ0 _
        refine Ec.seq ?_
        refine Ec.region ?_
        refine Eo.val (x := (.v (.bool (decide (y344 < ((p0.length : Nat) : Int)))))) rfl rfl rfl rfl ?_
        refine Eo.nil ?_
        refine Ec.seq ?_
        refine Ec.cond (t := (decide (y344 < ((p0.length : Nat) : Int)))) rfl (fun hc449 => ?_) (fun hc449 => ?_)
        · have H := cond_t hc449 H
          refine Ec.skip ?_
          refine Ec.seq ?_
          refine Ec.block ?_
          refine Ec.seq ?_
          refine Ec.region ?_
          obtain ⟨x450, hvx450, H⟩ := bind_some H
          refine Eo.idx h2 hvx450 rfl rfl rfl Tryd.underlying23 rfl rfl rfl rfl ?_
          rintro cs451 p452 _ hat453 ⟨a454, a456, rfl, h455, h457⟩
          refine Eo.val (x := (.agg [(.v (.int .i64 x450.f_No)), a454, a456])) (op_loadSpAgg hat453 0 rfl rfl rfl rfl rfl rfl) rfl rfl rfl ?_
          refine Eo.alloc (z := [(.v (.int .i64 0)), nilS, nilS]) hp0 rfl rfl rfl rfl rfl ?_
          intro b458 σ460 hp459
          refine Eo.store hp459 0 rfl (storeCells_mk rfl rfl rfl (by simp [allOne, A.cells, h455.isOne, h457.isOne]) rfl rfl) rfl rfl rfl rfl rfl ?_
          intro σ462 hp461
          change Hp σ462 (.blk b458 (.cells [(.v (.int .i64 x450.f_No)), a454, a456] 46) :: .blk b248 (.cells [a346, a349] 67) :: .app a349 5 :: R) at hp461
          refine Eo.nil ?_
          refine Ec.seq ?_
          refine Ec.region ?_
          refine Eo.val (x := (.ptr b458 0)) rfl rfl rfl rfl ?_
          refine Eo.val (x := (.v (.int .i64 x450.f_No))) (op_loadB hp461 0 rfl rfl rfl rfl) rfl rfl rfl ?_
          refine Eo.val (x := (.v (.int .i64 y343))) rfl rfl rfl rfl ?_
          refine Eo.val (x := (.v (.int .i64 (IntKind.wrap .i64 (x450.f_No - y343))))) rfl rfl rfl rfl ?_
          obtain ⟨r463, hvr463, H⟩ := bind_some H
          refine Eo.call rfl rfl rfl rfl (prim42_ok hp461 hvr463) ?_
          rintro _ σ465 ⟨rfl, hp464⟩
          obtain ⟨l466, hvl466, H⟩ := bind_some H
          refine Eo.call rfl rfl rfl rfl (bld_WriteString h347 h350 (Hp.front (Hp.front hp464 2) 2) hvl466) ?_
          rintro _ σ472 ⟨a467, a468, rfl, h469, h470, hp471⟩
          change Hp σ472 (.blk b248 (.cells [a467, a468] 67) :: .app a468 5 :: .blk b458 (.cells [(.v (.int .i64 x450.f_No)), a454, a456] 46) :: R) at hp471
          refine Eo.nil ?_
          refine Ec.seq ?_
          refine Ec.region ?_
          refine Eo.val (x := (.ptr b458 0)) rfl rfl rfl rfl ?_
          refine Eo.val (x := (.v (.int .i64 x450.f_No))) (op_loadB hp471 2 rfl rfl rfl rfl) rfl rfl rfl ?_
          refine Eo.val (x := (.v (.int .i64 x450.f_No))) rfl rfl rfl rfl ?_
          refine Eo.nil ?_
          refine Ec.seq ?_
          refine Ec.seq ?_
          refine Ec.region ?_
          refine Eo.val (x := (.ptr b458 1)) rfl rfl rfl rfl ?_
          refine Eo.val (x := a454) (op_loadB hp471 2 rfl rfl rfl rfl) rfl rfl rfl ?_
          refine Eo.val (x := (.v (.int .i64 ((x450.f_Labels.length : Nat) : Int)))) (op_lenL h455 rfl rfl rfl rfl rfl Tryd.underlying44) rfl rfl rfl ?_
          refine Eo.val (x := (.v (.int .i64 0))) rfl rfl rfl rfl ?_
          refine Eo.nil ?_
          refine Ec.block ?_
          obtain ⟨x509, hv526, H⟩ := bind_some H
          refine Ec.cut (J := (fun (x509 : (List Int)) (x : X) (φ : Fr) (s : St) => x = (.exit 4) ∧ (∃ (a507 a510 : A), AddrOk a507 b248 ∧ BufIs a510 x509 ∧ Hp s (.blk b248 (.cells [a507, a510] 67) :: .blk b458 (.cells [(.v (.int .i64 x450.f_No)), a454, a456] 46) :: .app a510 5 :: R) ∧ Fl [(0, a1), (5, (.v (.bool x161))), (10, (.ptr b248 0)), (11, (.v (.int .i64 x450.f_No))), (13, (.ptr b458 0)), (74, a1), (75, (.v (.int .i64 ((p0.length : Nat) : Int)))), (76, (.v (.int .i64 y344)))] φ)) x509) (Ec.weak (.cons rfl (.cons rfl (.cons rfl (.cons rfl (.cons rfl (.cons rfl (.cons rfl (.cons rfl (.cons rfl (.cons rfl (.cons rfl (.nil')))))))))))) (Ec.loopF (f := (fun m (i : (Int × (List Int)) × (A × A)) => gasmtext_Print_L3 n x450 m i.1.1 i.1.2)) (G := (fun (i : (Int × (List Int)) × (A × A)) => ([(0, a1), (5, (.v (.bool x161))), (10, (.ptr b248 0)), (11, (.v (.int .i64 x450.f_No))), (13, (.ptr b458 0)), (74, a1), (75, (.v (.int .i64 ((p0.length : Nat) : Int)))), (76, (.v (.int .i64 y344))), (89, a454), (90, (.v (.int .i64 ((x450.f_Labels.length : Nat) : Int)))), (91, (.v (.int .i64 i.1.1)))] : List (Nat × A)))) (I := (fun (i : (Int × (List Int)) × (A × A)) (s : St) => AddrOk i.2.1 b248 ∧ BufIs i.2.2 i.1.2 ∧ Hp s (.blk b248 (.cells [i.2.1, i.2.2] 67) :: .blk b458 (.cells [(.v (.int .i64 x450.f_No)), a454, a456] 46) :: .app i.2.2 5 :: R))) (J := (fun (x509 : (List Int)) (x : X) (φ : Fr) (s : St) => x = (.exit 4) ∧ (∃ (a507 a510 : A), AddrOk a507 b248 ∧ BufIs a510 x509 ∧ Hp s (.blk b248 (.cells [a507, a510] 67) :: .blk b458 (.cells [(.v (.int .i64 x450.f_No)), a454, a456] 46) :: .app a510 5 :: R) ∧ Fl [(0, a1), (5, (.v (.bool x161))), (10, (.ptr b248 0)), (11, (.v (.int .i64 x450.f_No))), (13, (.ptr b458 0)), (74, a1), (75, (.v (.int .i64 ((p0.length : Nat) : Int)))), (76, (.v (.int .i64 y344)))] φ))) (fun _ => rfl) ?_ n ((0, l466), (a467, a468)) _ x509 ⟨h469, h470, (Hp.front (Hp.front (Hp.front hp471 1) 2) 2)⟩ hv526)) ?_
          · rintro m ⟨⟨y486, y490⟩, ⟨a488, a491⟩⟩ σ0 v ⟨h489, h492, hp0⟩ H ih
            change gasmtext_Print_L3 n x450 (m + 1) y486 y490 = some v at H
            rw [gasmtext_Print_L3] at H
            change Ec _ _ _ [(0, a1), (5, (.v (.bool x161))), (10, (.ptr b248 0)), (11, (.v (.int .i64 x450.f_No))), (13, (.ptr b458 0)), (74, a1), (75, (.v (.int .i64 ((p0.length : Nat) : Int)))), (76, (.v (.int .i64 y344))), (89, a454), (90, (.v (.int .i64 ((x450.f_Labels.length : Nat) : Int)))), (91, (.v (.int .i64 y486)))] σ0 _
            refine Ec.seq ?_
            refine Ec.region ?_
            refine Eo.val (x := (.v (.bool (decide (y486 < ((x450.f_Labels.length : Nat) : Int)))))) rfl rfl rfl rfl ?_
            refine Eo.nil ?_
            refine Ec.seq ?_
            refine Ec.cond (t := (decide (y486 < ((x450.f_Labels.length : Nat) : Int)))) rfl (fun hc512 => ?_) (fun hc512 => ?_)
            · have H := cond_t hc512 H
              refine Ec.skip ?_
              refine Ec.seq ?_
              refine Ec.block ?_
              refine Ec.seq ?_
              refine Ec.region ?_
              obtain ⟨x513, hvx513, H⟩ := bind_some H
              refine Eo.idx h455 hvx513 rfl rfl rfl Tryd.underlying44 rfl rfl rfl rfl ?_
              rintro cs514 p515 _ hat516 rfl
              refine Eo.val (x := (.v (.string x513))) (op_loadSp hat516 0 rfl rfl rfl rfl rfl) rfl rfl rfl ?_
              refine Eo.val (x := (.v (.string x513))) rfl rfl rfl rfl ?_
              refine Eo.nil ?_
              refine Ec.region ?_
              refine Eo.val (x := (.v (.string x513))) rfl rfl rfl rfl ?_
              obtain ⟨s517, hvs517, H⟩ := bind_some H
              refine Eo.val (op_catS hvs517 rfl rfl rfl) rfl rfl rfl ?_
              obtain ⟨l518, hvl518, H⟩ := bind_some H
              refine Eo.call rfl rfl rfl rfl (bld_WriteString h489 h492 (Hp.front (Hp.front (Hp.front hp0 1) 2) 2) hvl518) ?_
              rintro _ σ524 ⟨a519, a520, rfl, h521, h522, hp523⟩
              change Hp σ524 (.blk b248 (.cells [a519, a520] 67) :: .app a520 5 :: .blk b458 (.cells [(.v (.int .i64 x450.f_No)), a454, a456] 46) :: R) at hp523
              refine Eo.nil ?_
              refine Ec.region ?_
              refine Eo.val (x := (.v (.int .i64 (IntKind.wrap .i64 (y486 + 1))))) rfl rfl rfl rfl ?_
              refine Eo.val (x := (.v (.int .i64 (IntKind.wrap .i64 (y486 + 1))))) rfl rfl rfl rfl ?_
              refine Eo.nil ?_
              exact Ec.of (.cons rfl (.cons rfl (.cons rfl (.cons rfl (.cons rfl (.cons rfl (.cons rfl (.cons rfl (.cons rfl (.cons rfl (.cons rfl (.nil')))))))))))) (ih (((IntKind.wrap .i64 (y486 + 1)), l518), (a519, a520)) _ ⟨h521, h522, (Hp.front (Hp.front (Hp.front hp523 1) 2) 2)⟩ H)
            · have H := cond_f hc512 H
              refine Ec.exit ?_
              obtain rfl := Option.some.inj H
              exact And.intro rfl ⟨a488, a491, h489, h492, (Hp.front (Hp.front (Hp.front hp0 2) 2) 2), (.cons rfl (.cons rfl (.cons rfl (.cons rfl (.cons rfl (.cons rfl (.cons rfl (.cons rfl (.nil')))))))))⟩
          · skip
            intro x φ529 σ528 hJ
            obtain ⟨rfl, a507, a510, h508, h511, hp527, hf530⟩ := hJ
            refine Ec.of (F := [(0, a1), (5, (.v (.bool x161))), (10, (.ptr b248 0)), (11, (.v (.int .i64 x450.f_No))), (13, (.ptr b458 0)), (74, a1), (75, (.v (.int .i64 ((p0.length : Nat) : Int)))), (76, (.v (.int .i64 y344)))]) hf530 ?_
            refine Ec.region ?_
            refine Eo.val (x := (.ptr b458 2)) rfl rfl rfl rfl ?_
            refine Eo.val (x := a456) (op_loadB hp527 1 rfl rfl rfl rfl) rfl rfl rfl ?_
            obtain ⟨r531, hvr531, H⟩ := bind_some H
            refine Eo.call rfl rfl rfl rfl (gasmtext_Join_ok h457 hp527 hvr531) ?_
            rintro _ σ533 ⟨rfl, hp532⟩
            obtain ⟨l534, hvl534, H⟩ := bind_some H
            refine Eo.call rfl rfl rfl rfl (bld_WriteString h508 h511 (Hp.front (Hp.front (Hp.front hp532 1) 2) 2) hvl534) ?_
            rintro _ σ540 ⟨a535, a536, rfl, h537, h538, hp539⟩
            change Hp σ540 (.blk b248 (.cells [a535, a536] 67) :: .app a536 5 :: .blk b458 (.cells [(.v (.int .i64 x450.f_No)), a454, a456] 46) :: R) at hp539
            refine Eo.nil ?_
            refine Ec.region ?_
            refine Eo.val (x := (.v (.int .i64 (IntKind.wrap .i64 (y344 + 1))))) rfl rfl rfl rfl ?_
            refine Eo.val (x := (.v (.int .i64 (IntKind.wrap .i64 (y344 + 1))))) rfl rfl rfl rfl ?_
            refine Eo.nil ?_
            exact Ec.of (.cons rfl (.cons rfl (.cons rfl (.cons rfl (.cons rfl (.cons rfl (.cons rfl (.nil')))))))) (ih ((x450.f_No, (IntKind.wrap .i64 (y344 + 1)), l534), (a535, a536)) _ ⟨h537, h538, (Hp.front (Hp.front (Hp.drop hp539 2) 1) 1)⟩ H)
        · have H := cond_f hc449 H
          refine Ec.exit ?_
          obtain rfl := Option.some.inj H
          exact And.intro rfl ⟨a346, a349, h347, h350, (Hp.front (Hp.front hp0 1) 1), (.cons rfl (.cons rfl (.cons rfl (.nil'))))⟩
      · skip
        intro x φ545 σ544 hJ
        obtain ⟨rfl, a444, a447, h445, h448, hp543, hf546⟩ := hJ
        refine Ec.of (F := [(0, a1), (5, (.v (.bool x161))), (10, (.ptr b248 0))]) hf546 ?_
        refine Ec.seq ?_
        refine Ec.seq ?_
        refine Ec.region ?_
        refine Eo.val (x := a1) rfl rfl rfl rfl ?_
        refine Eo.val (x := (.v (.int .i64 ((p0.length : Nat) : Int)))) (op_lenL h2 rfl rfl rfl rfl rfl Tryd.underlying23) rfl rfl rfl ?_
        refine Eo.val (x := (.v (.bool (decide (((p0.length : Nat) : Int) > 0))))) rfl rfl rfl rfl ?_
        refine Eo.nil ?_
        obtain ⟨x558, hv583, H⟩ := bind_some H
        refine Ec.cut (J := (fun (x558 : (List Int)) (x : X) (φ : Fr) (s : St) => x = .normal ∧ (∃ (a556 a559 : A), AddrOk a556 b248 ∧ BufIs a559 x558 ∧ Hp s (.blk b248 (.cells [a556, a559] 67) :: .app a559 5 :: R) ∧ Fl [(5, (.v (.bool x161))), (10, (.ptr b248 0))] φ)) x558) ?_ ?_
        · have H := hv583
          refine Ec.cond (t := (decide (((p0.length : Nat) : Int) > 0))) rfl (fun hc561 => ?_) (fun hc561 => ?_)
          · have H := cond_t hc561 H
            refine Ec.region ?_
            obtain ⟨l562, hvl562, H⟩ := bind_some H
            refine Eo.call rfl rfl rfl rfl (bld_WriteByte h445 h448 (Hp.front (Hp.front hp543 1) 1) hvl562) ?_
            rintro _ σ568 ⟨a563, a564, rfl, h565, h566, hp567⟩
            change Hp σ568 (.blk b248 (.cells [a563, a564] 67) :: .app a564 5 :: R) at hp567
            refine Eo.nil ?_
            obtain rfl := Option.some.inj H
            exact And.intro rfl ⟨a563, a564, h565, h566, (Hp.front (Hp.front hp567 1) 1), (.cons rfl (.cons rfl (.nil')))⟩
          · have H := cond_f hc561 H
            refine Ec.skip ?_
            obtain rfl := Option.some.inj H
            exact And.intro rfl ⟨a444, a447, h445, h448, (Hp.front (Hp.front hp543 1) 1), (.cons rfl (.cons rfl (.nil')))⟩
        · skip
          intro x φ571 σ570 hJ
          obtain ⟨rfl, a556, a559, h557, h560, hp569, hf572⟩ := hJ
          refine Ec.of (F := [(5, (.v (.bool x161))), (10, (.ptr b248 0))]) hf572 ?_
          refine Ec.seq ?_
          refine Ec.seq ?_
          refine Ec.region ?_
          refine Eo.val (x := (.v (.bool x161))) rfl rfl rfl rfl ?_
          refine Eo.val (x := (.v (.bool x161))) rfl rfl rfl rfl ?_
          refine Eo.cutF 3 [(10, (.ptr b248 0)), (112, (.v (.bool (x161 || (decide (((x558.length : Nat) : Int) > 262144))))))] ?_ ?_
          · skip
            cases hc575 : x161
            · skip
              refine Eo.call rfl rfl rfl rfl (bld_Len h560 hp569 0 rfl) ?_
              rintro _ _ ⟨rfl, rfl⟩
              refine Eo.val (x := (.v (.bool (decide (((x558.length : Nat) : Int) > 262144))))) rfl rfl rfl rfl ?_
              refine Eo.val (x := (.v (.bool (decide (((x558.length : Nat) : Int) > 262144))))) rfl rfl rfl rfl ?_
              exact Eo.nil (And.intro rfl (And.intro rfl (.cons rfl (.cons rfl (.nil')))))
            · skip
              refine Eo.off rfl rfl rfl ?_
              refine Eo.off rfl rfl rfl ?_
              refine Eo.val (x := (.v (.bool true))) rfl rfl rfl rfl ?_
              exact Eo.nil (And.intro rfl (And.intro rfl (.cons rfl (.cons rfl (.nil')))))
          · skip
            refine Eo.nil ?_
            refine Ec.cond (t := (x161 || (decide (((x558.length : Nat) : Int) > 262144)))) rfl (fun hc578 => ?_) (fun hc578 => ?_)
            · have H := cond_t hc578 H
              refine Ec.seq ?_
              refine Ec.region ?_
              refine Eo.val (x := (.v (.string (ByteArray.mk #[])))) rfl rfl rfl rfl ?_
              refine Eo.val (x := (.v (.int .i64 133))) rfl rfl rfl rfl ?_
              refine Eo.nil ?_
              obtain rfl := Option.some.inj H
              refine Ec.ret ?_
              refine Ret.mk rfl ?_
              exact ⟨rfl, (Hp.drop (Hp.drop hp569 0) 0)⟩
            · have H := cond_f hc578 H
              refine Ec.skip ?_
              refine Ec.seq ?_
              refine Ec.region ?_
              obtain ⟨s579, hvs579, H⟩ := bind_some H
              refine Eo.call rfl rfl rfl rfl (bld_String h557 h560 (Hp.front (Hp.front hp569 1) 1) hvs579) ?_
              rintro _ σ581 ⟨rfl, hp580⟩
              change Hp σ581 (.blk b248 (.cells [a556, a559] 67) :: .app a559 5 :: R) at hp580
              refine Eo.val (x := (.v (.string s579))) rfl rfl rfl rfl ?_
              refine Eo.val (x := (.v (.int .i64 0))) rfl rfl rfl rfl ?_
              refine Eo.nil ?_
              obtain rfl := Option.some.inj H
              refine Ec.ret ?_
              refine Ret.mk rfl ?_
              exact ⟨rfl, (Hp.drop (Hp.drop hp580 0) 0)⟩
    · intro x φ585 σ586 hJ
      obtain rfl := Option.some.inj H
      obtain ⟨rfl, hr⟩ := hJ
      exact hr

def gdovetaillaw13_AsmtextTwice (n : Nat) (p0 : ByteArray) : Option (Bool) := ((gdovetaillaw13_asmtextAlive n ).bind fun r1 => (cond (!r1) (some false) (((gasmtext_Parse n p0).bind fun v => match v with | (r6, r7, r8) => (cond (r8 != 0) (some (((r6.length : Nat) : Int) == 0)) (((gasmtext_Print n r6).bind fun v => match v with | (r15, r16) => (cond (r16 != 0) (some (r16 == 133)) (((gasmtext_Parse n r15).bind fun v => match v with | (r21, r22, r23) => (((cond (r23 == 0) (((gdovetailref13_Same n r21 r6).bind fun r34 => some r34)) (some false)) : Option (Bool)).bind fun x32 => some x32)))))))))))

def gdovetaillaw13_AsmtextTwice_post (R : List Res) (r : Bool) (x : A) (s : St) : Prop := x = (.v (.bool r)) ∧ Hp s (R)

theorem gdovetaillaw13_AsmtextTwice_ok {n : Nat} {p0 : ByteArray} {R : List Res} {σ : St} (hp : Hp σ R) {r : Bool} (H : gdovetaillaw13_AsmtextTwice n p0 = some r) : Ca cfg 7 [(.v (.string p0))] σ (gdovetaillaw13_AsmtextTwice_post R r) := by
  unfold gdovetaillaw13_AsmtextTwice at H
  refine Ca.enterL (G := [(0, (.v (.string p0)))]) Tryd.func7 rfl rfl rfl rfl ?_
  refine Ec.seq ?_
  refine Ec.region ?_
  refine Eo.val (x := (.v (.bool false))) rfl rfl rfl rfl ?_
  refine Eo.nil ?_
  refine Ec.seq ?_
  refine Ec.seq ?_
  refine Ec.region ?_
  obtain ⟨r1, hvr1, H⟩ := bind_some H
  refine Eo.call rfl rfl rfl rfl (gdovetaillaw13_asmtextAlive_ok hp hvr1) ?_
  rintro _ σ3 ⟨rfl, hp2⟩
  refine Eo.val (x := (.v (.bool (!r1)))) rfl rfl rfl rfl ?_
  refine Eo.nil ?_
  refine Ec.cond (t := (!r1)) rfl (fun hc4 => ?_) (fun hc4 => ?_)
  · have H := cond_t hc4 H
    refine Ec.seq ?_
    refine Ec.region ?_
    refine Eo.val (x := (.v (.bool false))) rfl rfl rfl rfl ?_
    refine Eo.nil ?_
    obtain rfl := Option.some.inj H
    refine Ec.ret ?_
    refine Ret.mk rfl ?_
    exact ⟨rfl, hp2⟩
  · have H := cond_f hc4 H
    refine Ec.skip ?_
    refine Ec.seq ?_
    refine Ec.region ?_
    refine Eo.val (x := (.v (.string p0))) rfl rfl rfl rfl ?_
    obtain ⟨r5, hvr5, H⟩ := bind_some H
    refine Eo.call rfl rfl rfl rfl (gasmtext_Parse_ok hp2 hvr5) ?_
    obtain ⟨r6, r7, r8⟩ := r5
    rintro _ σ12 ⟨a9, rfl, h10, hp11⟩
    change Hp σ12 (.app a9 46 :: R) at hp11
    refine Eo.val (x := (.tup [a9, (.v (.int .i64 r7)), (.v (.int .i64 r8))])) rfl rfl rfl rfl ?_
    refine Eo.val (x := a9) rfl rfl rfl rfl ?_
    refine Eo.val (x := (.v (.int .i64 r7))) rfl rfl rfl rfl ?_
    refine Eo.val (x := (.v (.int .i64 r8))) rfl rfl rfl rfl ?_
    refine Eo.val (x := a9) rfl rfl rfl rfl ?_
    refine Eo.val (x := (.v (.int .i64 r7))) rfl rfl rfl rfl ?_
    refine Eo.val (x := (.v (.int .i64 r8))) rfl rfl rfl rfl ?_
    refine Eo.nil ?_
    refine Ec.seq ?_
    refine Ec.seq ?_
    refine Ec.region ?_
    refine Eo.val (x := (.v (.int .i64 r8))) rfl rfl rfl rfl ?_
    refine Eo.val (x := (.v (.bool (r8 != 0)))) rfl rfl rfl rfl ?_
    refine Eo.nil ?_
    refine Ec.cond (t := (r8 != 0)) rfl (fun hc13 => ?_) (fun hc13 => ?_)
    · have H := cond_t hc13 H
      refine Ec.seq ?_
      refine Ec.region ?_
      refine Eo.val (x := a9) rfl rfl rfl rfl ?_
      refine Eo.val (x := (.v (.int .i64 ((r6.length : Nat) : Int)))) (op_lenL h10 rfl rfl rfl rfl rfl Tryd.underlying23) rfl rfl rfl ?_
      refine Eo.val (x := (.v (.bool (((r6.length : Nat) : Int) == 0)))) rfl rfl rfl rfl ?_
      refine Eo.val (x := (.v (.bool (((r6.length : Nat) : Int) == 0)))) rfl rfl rfl rfl ?_
      refine Eo.nil ?_
      obtain rfl := Option.some.inj H
      refine Ec.ret ?_
      refine Ret.mk rfl ?_
      exact ⟨rfl, (Hp.drop hp11 0)⟩
    · have H := cond_f hc13 H
      refine Ec.skip ?_
      refine Ec.seq ?_
      refine Ec.region ?_
      refine Eo.val (x := a9) rfl rfl rfl rfl ?_
      obtain ⟨r14, hvr14, H⟩ := bind_some H
      refine Eo.call rfl rfl rfl rfl (gasmtext_Print_ok h10 hp11 hvr14) ?_
      obtain ⟨r15, r16⟩ := r14
      rintro _ σ18 ⟨rfl, hp17⟩
      refine Eo.val (x := (.tup [(.v (.string r15)), (.v (.int .i64 r16))])) rfl rfl rfl rfl ?_
      refine Eo.val (x := (.v (.string r15))) rfl rfl rfl rfl ?_
      refine Eo.val (x := (.v (.int .i64 r16))) rfl rfl rfl rfl ?_
      refine Eo.val (x := (.v (.string r15))) rfl rfl rfl rfl ?_
      refine Eo.val (x := (.v (.int .i64 r16))) rfl rfl rfl rfl ?_
      refine Eo.nil ?_
      refine Ec.seq ?_
      refine Ec.seq ?_
      refine Ec.region ?_
      refine Eo.val (x := (.v (.int .i64 r16))) rfl rfl rfl rfl ?_
      refine Eo.val (x := (.v (.bool (r16 != 0)))) rfl rfl rfl rfl ?_
      refine Eo.nil ?_
      refine Ec.cond (t := (r16 != 0)) rfl (fun hc19 => ?_) (fun hc19 => ?_)
      · have H := cond_t hc19 H
        refine Ec.seq ?_
        refine Ec.region ?_
        refine Eo.val (x := (.v (.int .i64 r16))) rfl rfl rfl rfl ?_
        refine Eo.val (x := (.v (.bool (r16 == 133)))) rfl rfl rfl rfl ?_
        refine Eo.val (x := (.v (.bool (r16 == 133)))) rfl rfl rfl rfl ?_
        refine Eo.nil ?_
        obtain rfl := Option.some.inj H
        refine Ec.ret ?_
        refine Ret.mk rfl ?_
        exact ⟨rfl, (Hp.drop hp17 0)⟩
      · have H := cond_f hc19 H
        refine Ec.skip ?_
        refine Ec.seq ?_
        refine Ec.region ?_
        refine Eo.val (x := (.v (.string r15))) rfl rfl rfl rfl ?_
        obtain ⟨r20, hvr20, H⟩ := bind_some H
        refine Eo.call rfl rfl rfl rfl (gasmtext_Parse_ok hp17 hvr20) ?_
        obtain ⟨r21, r22, r23⟩ := r20
        rintro _ σ27 ⟨a24, rfl, h25, hp26⟩
        change Hp σ27 (.app a24 46 :: .app a9 46 :: R) at hp26
        refine Eo.val (x := (.tup [a24, (.v (.int .i64 r22)), (.v (.int .i64 r23))])) rfl rfl rfl rfl ?_
        refine Eo.val (x := a24) rfl rfl rfl rfl ?_
        refine Eo.val (x := (.v (.int .i64 r22))) rfl rfl rfl rfl ?_
        refine Eo.val (x := (.v (.int .i64 r23))) rfl rfl rfl rfl ?_
        refine Eo.val (x := a24) rfl rfl rfl rfl ?_
        refine Eo.val (x := (.v (.int .i64 r22))) rfl rfl rfl rfl ?_
        refine Eo.val (x := (.v (.int .i64 r23))) rfl rfl rfl rfl ?_
        refine Eo.nil ?_
        refine Ec.seq ?_
        refine Ec.region ?_
        refine Eo.val (x := (.v (.int .i64 r23))) rfl rfl rfl rfl ?_
        refine Eo.val (x := (.v (.bool (r23 == 0)))) rfl rfl rfl rfl ?_
        refine Eo.val (x := (.v (.bool (r23 == 0)))) rfl rfl rfl rfl ?_
        obtain ⟨x32, hv42, H⟩ := bind_some H
        refine Eo.cutN 4 (J := (fun (x32 : Bool) (x : X) (φ : Fr) (s : St) => x = .normal ∧ (Hp s (R) ∧ Fl [(2, (.v (.bool false))), (45, (.v (.bool x32)))] φ)) x32) ?_ ?_
        · have H := hv42
          cases hc33 : (r23 == 0)
          · have H := cond_f hc33 H
            refine Eo.off rfl rfl rfl ?_
            refine Eo.off rfl rfl rfl ?_
            refine Eo.off rfl rfl rfl ?_
            refine Eo.val (x := (.v (.bool false))) rfl rfl rfl rfl ?_
            refine Eo.nil ?_
            obtain rfl := Option.some.inj H
            exact And.intro rfl ⟨(Hp.drop (Hp.drop hp26 0) 0), (.cons rfl (.cons rfl (.nil')))⟩
          · have H := cond_t hc33 H
            refine Eo.val (x := a24) rfl rfl rfl rfl ?_
            refine Eo.val (x := a9) rfl rfl rfl rfl ?_
            obtain ⟨r34, hvr34, H⟩ := bind_some H
            refine Eo.call rfl rfl rfl rfl (gdovetailref13_Same_ok h25 h10 hp26 hvr34) ?_
            rintro _ σ36 ⟨rfl, hp35⟩
            refine Eo.val (x := (.v (.bool r34))) rfl rfl rfl rfl ?_
            refine Eo.nil ?_
            obtain rfl := Option.some.inj H
            exact And.intro rfl ⟨(Hp.drop (Hp.drop hp35 0) 0), (.cons rfl (.cons rfl (.nil')))⟩
        · skip
          intro x φ39 σ38 hJ
          obtain ⟨rfl, hp37, hf40⟩ := hJ
          refine ⟨rfl, Eo.of (F := [(2, (.v (.bool false))), (45, (.v (.bool x32)))]) hf40 ?_⟩
          refine Eo.val (x := (.v (.bool x32))) rfl rfl rfl rfl ?_
          refine Eo.nil ?_
          obtain rfl := Option.some.inj H
          refine Ec.ret ?_
          refine Ret.mk rfl ?_
          exact ⟨rfl, hp37⟩

def gdovetailref13_Copy_L1 (N : Nat) (p0 : (List TLine)) : Nat → (List TLine) → Int → Option ((List TLine))
  | 0, _, _ => none
  | m + 1, y81, y84 => (cond (decide (y84 < ((p0.length : Nat) : Int))) (((atL p0 y84).bind fun x162 => ((((appL 16 ([] : List ByteArray) x162.f_Labels).bind fun l206 => ((appL 24 ([] : List TTok) x162.f_Toks).bind fun l214 => ((appL 56 y81 ([(TLine.mk x162.f_No l206 l214)] : List TLine)).bind fun l223 => some l223))) : Option ((List TLine))).bind fun x200 => gdovetailref13_Copy_L1 N p0 m x200 (IntKind.wrap .i64 (y84 + 1))))) (some y81))

def gdovetailref13_Copy (n : Nat) (p0 : (List TLine)) : Option ((List TLine)) := ((gdovetailref13_Copy_L1 n p0 n ([] : List TLine) 0).bind fun x158 => some x158)

def gdovetailref13_Copy_post (R : List Res) (r : (List TLine)) (x : A) (s : St) : Prop := ∃ (a3 : A), x = a3 ∧ Sl rTLine a3 r ∧ Hp s (.app a3 46 :: R)

theorem gdovetailref13_Copy_ok {n : Nat} {p0 : (List TLine)} {a1 : A} {R : List Res} {σ : St} (h2 : Sl rTLine a1 p0) (hp : Hp σ R) {r : (List TLine)} (H : gdovetailref13_Copy n p0 = some r) : Ca cfg 17 [a1] σ (gdovetailref13_Copy_post R r) := by
  unfold gdovetailref13_Copy at H
  refine Ca.enterL (G := [(0, a1)]) Tryd.func17 rfl rfl rfl rfl ?_
  refine Ec.seq ?_
  refine Ec.region ?_
  refine Eo.val (x := nilS) rfl rfl rfl rfl ?_
  refine Eo.nil ?_
  refine Ec.seq ?_
  refine Ec.region ?_
  refine Eo.val (x := (.sl 3 [] .ex)) rfl rfl rfl rfl ?_
  have hp7 := Hp.appEx hp 46 3 []
  refine Eo.val (x := (.sl 3 [] .ex)) rfl rfl rfl rfl ?_
  refine Eo.nil ?_
  refine Ec.seq ?_
  refine Ec.seq ?_
  refine Ec.region ?_
  refine Eo.val (x := a1) rfl rfl rfl rfl ?_
  refine Eo.val (x := (.v (.int .i64 ((p0.length : Nat) : Int)))) (op_lenL h2 rfl rfl rfl rfl rfl Tryd.underlying23) rfl rfl rfl ?_
  refine Eo.val (x := (.v (.int .i64 0))) rfl rfl rfl rfl ?_
  refine Eo.nil ?_
  refine Ec.block ?_
  obtain ⟨x158, hv235, H⟩ := bind_some H
  refine Ec.cut (J := (fun (x158 : (List TLine)) (x : X) (φ : Fr) (s : St) => x = (.exit 0) ∧ (∃ (a159 : A), Sl rTLine a159 x158 ∧ Hp s (.app a159 46 :: R) ∧ Fl [(3, a159)] φ)) x158) (Ec.weak (.cons rfl (.cons rfl (.cons rfl (.cons rfl (.nil'))))) (Ec.loopF (f := (fun m (i : ((List TLine) × Int) × A) => gdovetailref13_Copy_L1 n p0 m i.1.1 i.1.2)) (G := (fun (i : ((List TLine) × Int) × A) => ([(3, i.2), (7, a1), (8, (.v (.int .i64 ((p0.length : Nat) : Int)))), (9, (.v (.int .i64 i.1.2)))] : List (Nat × A)))) (I := (fun (i : ((List TLine) × Int) × A) (s : St) => Sl rTLine i.2 i.1.1 ∧ Hp s (.app i.2 46 :: R))) (J := (fun (x158 : (List TLine)) (x : X) (φ : Fr) (s : St) => x = (.exit 0) ∧ (∃ (a159 : A), Sl rTLine a159 x158 ∧ Hp s (.app a159 46 :: R) ∧ Fl [(3, a159)] φ))) (fun _ => rfl) ?_ n ((([] : List TLine), 0), (.sl 3 [] .ex)) _ x158 ⟨(.inr ⟨_, _, rfl, .nil⟩ : Sl rTLine (.sl 3 [] .ex) ([] : List TLine)), hp7⟩ hv235)) ?_
  · rintro m ⟨⟨y81, y84⟩, a82⟩ σ0 v ⟨h83, hp0⟩ H ih
    change gdovetailref13_Copy_L1 n p0 (m + 1) y81 y84 = some v at H
    rw [gdovetailref13_Copy_L1] at H
    change Ec _ _ _ [(3, a82), (7, a1), (8, (.v (.int .i64 ((p0.length : Nat) : Int)))), (9, (.v (.int .i64 y84)))] σ0 _
    refine Ec.seq ?_
    refine Ec.region ?_
    refine Eo.val (x := (.v (.bool (decide (y84 < ((p0.length : Nat) : Int)))))) rfl rfl rfl rfl ?_
    refine Eo.nil ?_
    refine Ec.seq ?_
    refine Ec.cond (t := (decide (y84 < ((p0.length : Nat) : Int)))) rfl (fun hc161 => ?_) (fun hc161 => ?_)
    · have H := cond_t hc161 H
      refine Ec.skip ?_
      refine Ec.seq ?_
      refine Ec.block ?_
      refine Ec.seq ?_
      refine Ec.region ?_
      obtain ⟨x162, hvx162, H⟩ := bind_some H
      refine Eo.idx h2 hvx162 rfl rfl rfl Tryd.underlying23 rfl rfl rfl rfl ?_
      rintro cs163 p164 _ hat165 ⟨a166, a168, rfl, h167, h169⟩
      refine Eo.val (x := (.agg [(.v (.int .i64 x162.f_No)), a166, a168])) (op_loadSpAgg hat165 0 rfl rfl rfl rfl rfl rfl) rfl rfl rfl ?_
      refine Eo.alloc (z := [(.v (.int .i64 0)), nilS, nilS]) hp0 rfl rfl rfl rfl rfl ?_
      intro b170 σ172 hp171
      refine Eo.store hp171 0 rfl (storeCells_mk rfl rfl rfl (by simp [allOne, A.cells, h167.isOne, h169.isOne]) rfl rfl) rfl rfl rfl rfl rfl ?_
      intro σ174 hp173
      change Hp σ174 (.blk b170 (.cells [(.v (.int .i64 x162.f_No)), a166, a168] 46) :: .app a82 46 :: R) at hp173
      refine Eo.nil ?_
      obtain ⟨x200, hv233, H⟩ := bind_some H
      refine Ec.cut (J := (fun (x200 : (List TLine)) (x : X) (φ : Fr) (s : St) => x = .normal ∧ (∃ (a201 : A), Sl rTLine a201 x200 ∧ Hp s (.app a201 46 :: R) ∧ Fl [(3, a201), (7, a1), (8, (.v (.int .i64 ((p0.length : Nat) : Int)))), (9, (.v (.int .i64 y84)))] φ)) x200) ?_ ?_
      · have H := hv233
        refine Ec.drawn2 (by kernel_rfl) ?_
        refine Eo.val (x := a82) rfl rfl rfl rfl ?_
        refine Eo.val (x := (.ptr b170 0)) rfl rfl rfl rfl ?_
        refine Eo.val (x := (.v (.int .i64 x162.f_No))) (op_loadB hp173 0 rfl rfl rfl rfl) rfl rfl rfl ?_
        refine Eo.val (x := (.sl 1 [] .ex)) rfl rfl rfl rfl ?_
        have hp205 := Hp.appEx hp173 9 1 []
        refine Eo.val (x := (.ptr b170 1)) rfl rfl rfl rfl ?_
        refine Eo.val (x := a166) (op_loadB hp205 1 rfl rfl rfl rfl) rfl rfl rfl ?_
        obtain ⟨l206, hvl206, H⟩ := bind_some H
        refine Eo.append hp205 0 rfl (.inr ⟨_, _, rfl, .nil⟩ : Sl rS (.sl 1 [] .ex) ([] : List ByteArray)) (New.of h167) hvl206 rfl rfl rfl rfl rfl rfl rfl Tryd.underlying44 rfl Tryd.underlying44 rfl rfl rfl rfl rfl rfl rfl rfl ?_
        intro a207 σ210 h208 hp209
        change Hp σ210 (.app a207 9 :: .blk b170 (.cells [(.v (.int .i64 x162.f_No)), a166, a168] 46) :: .app a82 46 :: R) at hp209
        refine Eo.val (x := (.sl 2 [] .ex)) rfl rfl rfl rfl ?_
        have hp213 := Hp.appEx hp209 48 2 []
        refine Eo.val (x := (.ptr b170 2)) rfl rfl rfl rfl ?_
        refine Eo.val (x := a168) (op_loadB hp213 2 rfl rfl rfl rfl) rfl rfl rfl ?_
        obtain ⟨l214, hvl214, H⟩ := bind_some H
        refine Eo.append hp213 0 rfl (.inr ⟨_, _, rfl, .nil⟩ : Sl rTTok (.sl 2 [] .ex) ([] : List TTok)) (New.of h169) hvl214 rfl rfl rfl rfl rfl rfl rfl Tryd.underlying31 rfl Tryd.underlying31 rfl rfl rfl rfl rfl rfl rfl rfl ?_
        intro a215 σ218 h216 hp217
        change Hp σ218 (.app a215 48 :: .app a207 9 :: .blk b170 (.cells [(.v (.int .i64 x162.f_No)), a166, a168] 46) :: .app a82 46 :: R) at hp217
        refine Eo.val (x := (.agg [(.v (.int .i64 x162.f_No)), a207, a215])) (op_build (lay_cons rfl rfl rfl rfl rfl (lay_cons rfl h208.cells rfl rfl rfl (lay_cons rfl h216.cells rfl rfl rfl lay_nil))) rfl (parts_cons rfl rfl (parts_cons rfl h208.noJunk (parts_cons rfl h216.noJunk rfl))) Tryd.underlying46 rfl rfl) rfl rfl rfl ?_
        refine Eo.val (x := (.sl 3 [(.v (.int .i64 x162.f_No)), a207, a215] .ex)) (op_buildS (lay_cons rfl rfl rfl rfl rfl lay_nil) rfl (parts_cons rfl rfl rfl) Tryd.underlying23 rfl rfl rfl rfl (by decide) rfl) rfl rfl rfl ?_
        have h222 : Sl rTLine (.sl 3 [(.v (.int .i64 x162.f_No)), a207, a215] .ex) ([(TLine.mk x162.f_No l206 l214)] : List TLine) := .inr ⟨_, _, rfl, (.cons (c := [(.v (.int .i64 x162.f_No)), a207, a215]) ⟨a207, a215, rfl, h208, h216⟩ .nil)⟩
        have hp221 := Hp.appEx hp217 46 3 [(.v (.int .i64 x162.f_No)), a207, a215]
        obtain ⟨l223, hvl223, H⟩ := bind_some H
        refine Eo.append hp221 4 rfl h83 (New.of h222) hvl223 rfl rfl rfl rfl rfl rfl rfl Tryd.underlying23 rfl Tryd.underlying23 rfl rfl rfl rfl rfl rfl rfl rfl ?_
        intro a224 σ227 h225 hp226
        change Hp σ227 (.app (.sl 3 [(.v (.int .i64 x162.f_No)), a207, a215] .ex) 46 :: .app a215 48 :: .app a207 9 :: .blk b170 (.cells [(.v (.int .i64 x162.f_No)), a166, a168] 46) :: .app a224 46 :: R) at hp226
        refine Eo.val (x := a224) rfl rfl rfl rfl ?_
        refine Eo.nil ?_
        obtain rfl := Option.some.inj H
        exact And.intro rfl (And.intro rfl ⟨a224, h225, (Hp.drop (Hp.drop (Hp.drop (Hp.drop hp226 0) 0) 0) 0), (.cons rfl (.cons rfl (.cons rfl (.cons rfl (.nil')))))⟩)
      · skip
        intro x φ230 σ229 hJ
        obtain ⟨rfl, a201, h202, hp228, hf231⟩ := hJ
        refine Ec.of (F := [(3, a201), (7, a1), (8, (.v (.int .i64 ((p0.length : Nat) : Int)))), (9, (.v (.int .i64 y84)))]) hf231 ?_
        refine Ec.region ?_
        refine Eo.val (x := (.v (.int .i64 (IntKind.wrap .i64 (y84 + 1))))) rfl rfl rfl rfl ?_
        refine Eo.val (x := (.v (.int .i64 (IntKind.wrap .i64 (y84 + 1))))) rfl rfl rfl rfl ?_
        refine Eo.nil ?_
        exact Ec.of (.cons rfl (.cons rfl (.cons rfl (.cons rfl (.nil'))))) (ih ((x200, (IntKind.wrap .i64 (y84 + 1))), a201) _ ⟨h202, hp228⟩ H)
    · have H := cond_f hc161 H
      refine Ec.exit ?_
      obtain rfl := Option.some.inj H
      exact And.intro rfl ⟨a82, h83, hp0, (.cons rfl (.nil'))⟩
  · skip
    intro x φ238 σ237 hJ
    obtain ⟨rfl, a159, h160, hp236, hf239⟩ := hJ
    refine Ec.of (F := [(3, a159)]) hf239 ?_
    refine Ec.seq ?_
    refine Ec.region ?_
    refine Eo.val (x := a159) rfl rfl rfl rfl ?_
    refine Eo.val (x := a159) rfl rfl rfl rfl ?_
    refine Eo.nil ?_
    obtain rfl := Option.some.inj H
    refine Ec.ret ?_
    refine Ret.mk rfl ?_
    exact ⟨a159, rfl, h160, hp236⟩

def gdovetailref13_Sound_L1 (N : Nat) (p0 : TTok) : Nat → Int → Option (LR Unit Bool)
  | 0, _ => none
  | m + 1, y11 => (cond (decide (y11 < ((p0.f_Text.size : Nat) : Int))) (((atS p0.f_Text y11).bind fun b19 => ((gdovetailref13_InWord N b19).bind fun r20 => (cond (!r20) (some (.ret false)) (gdovetailref13_Sound_L1 N p0 m (IntKind.wrap .i64 (y11 + 1))))))) (some (.out ())))

def gdovetailref13_Sound (n : Nat) (p0 : TTok) : Option (Bool) := (cond (p0.f_Kind == 1) (((gdovetailref13_Sound_L1 n p0 n 0).bind fun v => match v with | .out _ => some (!decide (p0.f_Text = (ByteArray.mk #[]))) | .ret r30 => some r30)) ((cond (p0.f_Kind == 2) ((((cond (((p0.f_Text.size : Nat) : Int) == 1) (((atS p0.f_Text 0).bind fun b41 => ((gdovetailref13_Sign n b41).bind fun r42 => some r42))) (some false)) : Option (Bool)).bind fun x39 => some x39)) (some (p0.f_Kind == 3)))))

def gdovetailref13_Sound_post (R : List Res) (r : Bool) (x : A) (s : St) : Prop := x = (.v (.bool r)) ∧ Hp s (R)

theorem gdovetailref13_Sound_ok {n : Nat} {p0 : TTok} {R : List Res} {σ : St} (hp : Hp σ R) {r : Bool} (H : gdovetailref13_Sound n p0 = some r) : Ca cfg 60 [(.agg [(.v (.int .i64 p0.f_Kind)), (.v (.string p0.f_Text))])] σ (gdovetailref13_Sound_post R r) := by
  unfold gdovetailref13_Sound at H
  refine Ca.enterL (G := [(0, (.agg [(.v (.int .i64 p0.f_Kind)), (.v (.string p0.f_Text))]))]) Tryd.func60 rfl rfl rfl rfl ?_
  refine Ec.seq ?_
  refine Ec.region ?_
  refine Eo.box hp rfl rfl rfl rfl rfl rfl rfl ?_
  intro b1 σ3 hp2
  refine Eo.val (x := (.v (.bool false))) rfl rfl rfl rfl ?_
  refine Eo.nil ?_
  refine Ec.seq ?_
  refine Ec.seq ?_
  refine Ec.region ?_
  refine Eo.val (x := (.ptr b1 0)) rfl rfl rfl rfl ?_
  refine Eo.val (x := (.v (.int .i64 p0.f_Kind))) (op_loadB hp2 0 rfl rfl rfl rfl) rfl rfl rfl ?_
  refine Eo.nil ?_
  refine Ec.block ?_
  refine Ec.seq ?_
  refine Ec.region ?_
  refine Eo.val (x := (.v (.bool (p0.f_Kind == 1)))) rfl rfl rfl rfl ?_
  refine Eo.val (x := (.v (.bool (p0.f_Kind == 1)))) rfl rfl rfl rfl ?_
  refine Eo.nil ?_
  refine Ec.cond (t := (p0.f_Kind == 1)) rfl (fun hc4 => ?_) (fun hc4 => ?_)
  · have H := cond_t hc4 H
    refine Ec.seq ?_
    refine Ec.seq ?_
    refine Ec.region ?_
    refine Eo.val (x := (.v (.int .i64 0))) rfl rfl rfl rfl ?_
    refine Eo.nil ?_
    refine Ec.block ?_
    obtain ⟨v24, hv25, H⟩ := bind_some H
    refine Ec.cut (J := (fun (v : LR Unit Bool) (x : X) (φ : Fr) (s : St) => match v with | .out _ => x = (.exit 1) ∧ (Hp s (.blk b1 (.cells [(.v (.int .i64 p0.f_Kind)), (.v (.string p0.f_Text))] 48) :: R) ∧ Fl [(1, (.ptr b1 0))] φ) | .ret r => x = .ret ∧ Ret cfg Tryd.f60 (gdovetailref13_Sound_post R r) .ret φ s) v24) (Ec.weak (.cons rfl (.cons rfl (.nil'))) (Ec.loopF (f := (fun m (i : Int × Unit) => gdovetailref13_Sound_L1 n p0 m i.1)) (G := (fun (i : Int × Unit) => ([(1, (.ptr b1 0)), (3, (.v (.int .i64 i.1)))] : List (Nat × A)))) (I := (fun (i : Int × Unit) (s : St) => Hp s (.blk b1 (.cells [(.v (.int .i64 p0.f_Kind)), (.v (.string p0.f_Text))] 48) :: R))) (J := (fun (v : LR Unit Bool) (x : X) (φ : Fr) (s : St) => match v with | .out _ => x = (.exit 1) ∧ (Hp s (.blk b1 (.cells [(.v (.int .i64 p0.f_Kind)), (.v (.string p0.f_Text))] 48) :: R) ∧ Fl [(1, (.ptr b1 0))] φ) | .ret r => x = .ret ∧ Ret cfg Tryd.f60 (gdovetailref13_Sound_post R r) .ret φ s)) (fun _ => rfl) ?_ n (0, ()) _ v24 hp2 hv25)) ?_
    · rintro m ⟨y11, _⟩ σ0 v hp0 H ih
      change gdovetailref13_Sound_L1 n p0 (m + 1) y11 = some v at H
      rw [gdovetailref13_Sound_L1] at H
      change Ec _ _ _ [(1, (.ptr b1 0)), (3, (.v (.int .i64 y11)))] σ0 _
      refine Ec.seq ?_
      refine Ec.seq ?_
      refine Ec.region ?_
      refine Eo.val (x := (.v (.int .i64 y11))) rfl rfl rfl rfl ?_
      refine Eo.val (x := (.ptr b1 1)) rfl rfl rfl rfl ?_
      refine Eo.val (x := (.v (.string p0.f_Text))) (op_loadB hp0 0 rfl rfl rfl rfl) rfl rfl rfl ?_
      refine Eo.val (x := (.v (.int .i64 ((p0.f_Text.size : Nat) : Int)))) (op_len rfl rfl rfl rfl rfl Tryd.underlying9) rfl rfl rfl ?_
      refine Eo.val (x := (.v (.bool (decide (y11 < ((p0.f_Text.size : Nat) : Int)))))) rfl rfl rfl rfl ?_
      refine Eo.nil ?_
      refine Ec.cond (t := (decide (y11 < ((p0.f_Text.size : Nat) : Int)))) rfl (fun hc18 => ?_) (fun hc18 => ?_)
      · have H := cond_t hc18 H
        refine Ec.skip ?_
        refine Ec.seq ?_
        refine Ec.block ?_
        refine Ec.seq ?_
        refine Ec.region ?_
        refine Eo.val (x := (.ptr b1 1)) rfl rfl rfl rfl ?_
        refine Eo.val (x := (.v (.string p0.f_Text))) (op_loadB hp0 0 rfl rfl rfl rfl) rfl rfl rfl ?_
        refine Eo.val (x := (.v (.int .i64 y11))) rfl rfl rfl rfl ?_
        obtain ⟨b19, hvb19, H⟩ := bind_some H
        refine Eo.val (op_byteS hvb19 rfl rfl rfl Tryd.underlying9) rfl rfl rfl ?_
        obtain ⟨r20, hvr20, H⟩ := bind_some H
        refine Eo.call rfl rfl rfl rfl (gdovetailref13_InWord_ok hp0 hvr20) ?_
        rintro _ σ22 ⟨rfl, hp21⟩
        refine Eo.val (x := (.v (.bool (!r20)))) rfl rfl rfl rfl ?_
        refine Eo.nil ?_
        refine Ec.cond (t := (!r20)) rfl (fun hc23 => ?_) (fun hc23 => ?_)
        · have H := cond_t hc23 H
          refine Ec.seq ?_
          refine Ec.region ?_
          refine Eo.val (x := (.v (.bool false))) rfl rfl rfl rfl ?_
          refine Eo.nil ?_
          obtain rfl := Option.some.inj H
          refine Ec.ret ?_
          refine And.intro rfl (Ret.mk rfl ?_)
          exact ⟨rfl, (Hp.drop hp21 0)⟩
        · have H := cond_f hc23 H
          refine Ec.skip ?_
          refine Ec.region ?_
          refine Eo.val (x := (.v (.int .i64 y11))) rfl rfl rfl rfl ?_
          refine Eo.val (x := (.v (.int .i64 (IntKind.wrap .i64 (y11 + 1))))) rfl rfl rfl rfl ?_
          refine Eo.val (x := (.v (.int .i64 (IntKind.wrap .i64 (y11 + 1))))) rfl rfl rfl rfl ?_
          refine Eo.nil ?_
          exact Ec.of (.cons rfl (.cons rfl (.nil'))) (ih ((IntKind.wrap .i64 (y11 + 1)), ()) _ hp21 H)
      · have H := cond_f hc18 H
        refine Ec.exit ?_
        obtain rfl := Option.some.inj H
        exact And.intro rfl ⟨hp0, (.cons rfl (.nil'))⟩
    · rcases v24 with _ | r30
      · intro x φ28 σ27 hJ
        obtain ⟨rfl, hp26, hf29⟩ := hJ
        refine Ec.of (F := [(1, (.ptr b1 0))]) hf29 ?_
        refine Ec.seq ?_
        refine Ec.region ?_
        refine Eo.val (x := (.ptr b1 1)) rfl rfl rfl rfl ?_
        refine Eo.val (x := (.v (.string p0.f_Text))) (op_loadB hp26 0 rfl rfl rfl rfl) rfl rfl rfl ?_
        refine Eo.val (x := (.v (.bool (!decide (p0.f_Text = (ByteArray.mk #[])))))) (val_b rfl (sne_eq _ _)) rfl rfl rfl ?_
        refine Eo.val (x := (.v (.bool (!decide (p0.f_Text = (ByteArray.mk #[])))))) rfl rfl rfl rfl ?_
        refine Eo.nil ?_
        obtain rfl := Option.some.inj H
        refine Ec.ret ?_
        refine Ret.mk rfl ?_
        exact ⟨rfl, (Hp.drop hp26 0)⟩
      · intro x φ31 σ32 hJ
        obtain rfl := Option.some.inj H
        obtain ⟨rfl, hr⟩ := hJ
        exact hr
  · have H := cond_f hc4 H
    refine Ec.seq ?_
    refine Ec.region ?_
    refine Eo.val (x := (.v (.bool (p0.f_Kind == 2)))) rfl rfl rfl rfl ?_
    refine Eo.val (x := (.v (.bool (p0.f_Kind == 2)))) rfl rfl rfl rfl ?_
    refine Eo.nil ?_
    refine Ec.cond (t := (p0.f_Kind == 2)) rfl (fun hc33 => ?_) (fun hc33 => ?_)
    · have H := cond_t hc33 H
      refine Ec.seq ?_
      refine Ec.region ?_
      refine Eo.val (x := (.ptr b1 1)) rfl rfl rfl rfl ?_
      refine Eo.val (x := (.v (.string p0.f_Text))) (op_loadB hp2 0 rfl rfl rfl rfl) rfl rfl rfl ?_
      refine Eo.val (x := (.v (.int .i64 ((p0.f_Text.size : Nat) : Int)))) (op_len rfl rfl rfl rfl rfl Tryd.underlying9) rfl rfl rfl ?_
      refine Eo.val (x := (.v (.bool (((p0.f_Text.size : Nat) : Int) == 1)))) rfl rfl rfl rfl ?_
      refine Eo.val (x := (.v (.bool (((p0.f_Text.size : Nat) : Int) == 1)))) rfl rfl rfl rfl ?_
      obtain ⟨x39, hv50, H⟩ := bind_some H
      refine Eo.cutN 5 (J := (fun (x39 : Bool) (x : X) (φ : Fr) (s : St) => x = .normal ∧ (Hp s (R) ∧ Fl [(2, (.v (.bool false))), (35, (.v (.bool x39)))] φ)) x39) ?_ ?_
      · have H := hv50
        cases hc40 : (((p0.f_Text.size : Nat) : Int) == 1)
        · have H := cond_f hc40 H
          refine Eo.off rfl rfl rfl ?_
          refine Eo.off rfl rfl rfl ?_
          refine Eo.off rfl rfl rfl ?_
          refine Eo.off rfl rfl rfl ?_
          refine Eo.val (x := (.v (.bool false))) rfl rfl rfl rfl ?_
          refine Eo.nil ?_
          obtain rfl := Option.some.inj H
          exact And.intro rfl ⟨(Hp.drop hp2 0), (.cons rfl (.cons rfl (.nil')))⟩
        · have H := cond_t hc40 H
          refine Eo.val (x := (.ptr b1 1)) rfl rfl rfl rfl ?_
          refine Eo.val (x := (.v (.string p0.f_Text))) (op_loadB hp2 0 rfl rfl rfl rfl) rfl rfl rfl ?_
          obtain ⟨b41, hvb41, H⟩ := bind_some H
          refine Eo.val (op_byteS hvb41 rfl rfl rfl Tryd.underlying9) rfl rfl rfl ?_
          obtain ⟨r42, hvr42, H⟩ := bind_some H
          refine Eo.call rfl rfl rfl rfl (gdovetailref13_Sign_ok hp2 hvr42) ?_
          rintro _ σ44 ⟨rfl, hp43⟩
          refine Eo.val (x := (.v (.bool r42))) rfl rfl rfl rfl ?_
          refine Eo.nil ?_
          obtain rfl := Option.some.inj H
          exact And.intro rfl ⟨(Hp.drop hp43 0), (.cons rfl (.cons rfl (.nil')))⟩
      · skip
        intro x φ47 σ46 hJ
        obtain ⟨rfl, hp45, hf48⟩ := hJ
        refine ⟨rfl, Eo.of (F := [(2, (.v (.bool false))), (35, (.v (.bool x39)))]) hf48 ?_⟩
        refine Eo.val (x := (.v (.bool x39))) rfl rfl rfl rfl ?_
        refine Eo.nil ?_
        obtain rfl := Option.some.inj H
        refine Ec.ret ?_
        refine Ret.mk rfl ?_
        exact ⟨rfl, hp45⟩
    · have H := cond_f hc33 H
      refine Ec.skip ?_
      refine Ec.seq ?_
      refine Ec.region ?_
      refine Eo.val (x := (.ptr b1 0)) rfl rfl rfl rfl ?_
      refine Eo.val (x := (.v (.int .i64 p0.f_Kind))) (op_loadB hp2 0 rfl rfl rfl rfl) rfl rfl rfl ?_
      refine Eo.val (x := (.v (.bool (p0.f_Kind == 3)))) rfl rfl rfl rfl ?_
      refine Eo.val (x := (.v (.bool (p0.f_Kind == 3)))) rfl rfl rfl rfl ?_
      refine Eo.nil ?_
      obtain rfl := Option.some.inj H
      refine Ec.ret ?_
      refine Ret.mk rfl ?_
      exact ⟨rfl, (Hp.drop hp2 0)⟩

def gdovetailref13_Right_L2 (N : Nat) (x264 : TLine) : Nat → Int → Option (LR Unit Bool)
  | 0, _ => none
  | m + 1, y310 => (cond (decide (y310 < ((x264.f_Labels.length : Nat) : Int))) (((atL x264.f_Labels y310).bind fun x321 => ((gdovetailref12_Name N x321).bind fun r325 => (cond (!r325) (some (.ret false)) (gdovetailref13_Right_L2 N x264 m (IntKind.wrap .i64 (y310 + 1))))))) (some (.out ())))

def gdovetailref13_Right_L3 (N : Nat) (x264 : TLine) : Nat → Int → Option (LR Unit Bool)
  | 0, _ => none
  | m + 1, y349 => (cond (decide (y349 < ((x264.f_Toks.length : Nat) : Int))) (((atL x264.f_Toks y349).bind fun x365 => ((gdovetailref13_Sound N x365).bind fun r374 => (cond (!r374) (some (.ret false)) (gdovetailref13_Right_L3 N x264 m (IntKind.wrap .i64 (y349 + 1))))))) (some (.out ())))

def gdovetailref13_Right_L1 (N : Nat) (p0 : (List TLine)) : Nat → Int → Int → Option (LR Unit Bool)
  | 0, _, _ => none
  | m + 1, y132, y133 => (cond (decide (y133 < ((p0.length : Nat) : Int))) (((atL p0 y133).bind fun x264 => (((cond (((decide (x264.f_No ≤ y132)) || (decide (x264.f_No > 16384))) || ((IntKind.wrap .i64 (((x264.f_Labels.length : Nat) : Int) + ((x264.f_Toks.length : Nat) : Int))) == 0)) (some true) (((gdovetailref13_Labelled N x264.f_Toks).bind fun r293 => some r293))) : Option (Bool)).bind fun x291 => (cond x291 (some (.ret false)) (((gdovetailref13_Right_L2 N x264 N 0).bind fun v => match v with | .out _ => ((gdovetailref13_Right_L3 N x264 N 0).bind fun v => match v with | .out _ => gdovetailref13_Right_L1 N p0 m x264.f_No (IntKind.wrap .i64 (y133 + 1)) | .ret r384 => some (.ret r384)) | .ret r387 => some (.ret r387))))))) (some (.out ())))

def gdovetailref13_Right (n : Nat) (p0 : (List TLine)) : Option (Bool) := ((gdovetailref13_Right_L1 n p0 n 0 0).bind fun v => match v with | .out _ => some true | .ret r398 => some r398)

def gdovetailref13_Right_post (R : List Res) (r : Bool) (x : A) (s : St) : Prop := x = (.v (.bool r)) ∧ Hp s (R)

theorem gdovetailref13_Right_ok {n : Nat} {p0 : (List TLine)} {a1 : A} {R : List Res} {σ : St} (h2 : Sl rTLine a1 p0) (hp : Hp σ R) {r : Bool} (H : gdovetailref13_Right n p0 = some r) : Ca cfg 33 [a1] σ (gdovetailref13_Right_post R r) := by
  unfold gdovetailref13_Right at H
  refine Ca.enterL (G := [(0, a1)]) Tryd.func33 rfl rfl rfl rfl ?_
  refine Ec.seq ?_
  refine Ec.region ?_
  refine Eo.val (x := (.v (.bool false))) rfl rfl rfl rfl ?_
  refine Eo.nil ?_
  refine Ec.seq ?_
  refine Ec.region ?_
  refine Eo.val (x := (.v (.int .i64 0))) rfl rfl rfl rfl ?_
  refine Eo.nil ?_
  refine Ec.seq ?_
  refine Ec.seq ?_
  refine Ec.region ?_
  refine Eo.val (x := a1) rfl rfl rfl rfl ?_
  refine Eo.val (x := (.v (.int .i64 ((p0.length : Nat) : Int)))) (op_lenL h2 rfl rfl rfl rfl rfl Tryd.underlying23) rfl rfl rfl ?_
  refine Eo.val (x := (.v (.int .i64 0))) rfl rfl rfl rfl ?_
  refine Eo.nil ?_
  refine Ec.block ?_
  obtain ⟨v392, hv393, H⟩ := bind_some H
  refine Ec.cut (J := (fun (v : LR Unit Bool) (x : X) (φ : Fr) (s : St) => match v with | .out _ => x = (.exit 0) ∧ (Hp s (R) ∧ Fl [] φ) | .ret r => x = .ret ∧ Ret cfg Tryd.f33 (gdovetailref13_Right_post R r) .ret φ s) v392) (Ec.weak (.cons rfl (.cons rfl (.cons rfl (.cons rfl (.nil'))))) (Ec.loopF (f := (fun m (i : (Int × Int) × Unit) => gdovetailref13_Right_L1 n p0 m i.1.1 i.1.2)) (G := (fun (i : (Int × Int) × Unit) => ([(3, (.v (.int .i64 i.1.1))), (10, a1), (11, (.v (.int .i64 ((p0.length : Nat) : Int)))), (12, (.v (.int .i64 i.1.2)))] : List (Nat × A)))) (I := (fun (i : (Int × Int) × Unit) (s : St) => Hp s (R))) (J := (fun (v : LR Unit Bool) (x : X) (φ : Fr) (s : St) => match v with | .out _ => x = (.exit 0) ∧ (Hp s (R) ∧ Fl [] φ) | .ret r => x = .ret ∧ Ret cfg Tryd.f33 (gdovetailref13_Right_post R r) .ret φ s)) (fun _ => rfl) ?_ n ((0, 0), ()) _ v392 hp hv393)) ?_
  · rintro m ⟨⟨y132, y133⟩, _⟩ σ0 v hp0 H ih
    change gdovetailref13_Right_L1 n p0 (m + 1) y132 y133 = some v at H
    rw [gdovetailref13_Right_L1] at H
    change Ec _ _ _ [(3, (.v (.int .i64 y132))), (10, a1), (11, (.v (.int .i64 ((p0.length : Nat) : Int)))), (12, (.v (.int .i64 y133)))] σ0 _
    refine Ec.seq ?_
    refine Ec.region ?_
    refine Eo.val (x := (.v (.bool (decide (y133 < ((p0.length : Nat) : Int)))))) rfl rfl rfl rfl ?_
    refine Eo.nil ?_
    refine Ec.seq ?_
    refine Ec.cond (t := (decide (y133 < ((p0.length : Nat) : Int)))) rfl (fun hc263 => ?_) (fun hc263 => ?_)
    · have H := cond_t hc263 H
      refine Ec.skip ?_
      refine Ec.seq ?_
      refine Ec.block ?_
      refine Ec.seq ?_
      refine Ec.region ?_
      obtain ⟨x264, hvx264, H⟩ := bind_some H
      refine Eo.idx h2 hvx264 rfl rfl rfl Tryd.underlying23 rfl rfl rfl rfl ?_
      rintro cs265 p266 _ hat267 ⟨a268, a270, rfl, h269, h271⟩
      refine Eo.val (x := (.agg [(.v (.int .i64 x264.f_No)), a268, a270])) (op_loadSpAgg hat267 0 rfl rfl rfl rfl rfl rfl) rfl rfl rfl ?_
      refine Eo.alloc (z := [(.v (.int .i64 0)), nilS, nilS]) hp0 rfl rfl rfl rfl rfl ?_
      intro b272 σ274 hp273
      refine Eo.store hp273 0 rfl (storeCells_mk rfl rfl rfl (by simp [allOne, A.cells, h269.isOne, h271.isOne]) rfl rfl) rfl rfl rfl rfl rfl ?_
      intro σ276 hp275
      change Hp σ276 (.blk b272 (.cells [(.v (.int .i64 x264.f_No)), a268, a270] 46) :: R) at hp275
      refine Eo.nil ?_
      refine Ec.seq ?_
      refine Ec.seq ?_
      refine Ec.region ?_
      refine Eo.val (x := (.ptr b272 0)) rfl rfl rfl rfl ?_
      refine Eo.val (x := (.v (.int .i64 x264.f_No))) (op_loadB hp275 0 rfl rfl rfl rfl) rfl rfl rfl ?_
      refine Eo.val (x := (.v (.int .i64 y132))) rfl rfl rfl rfl ?_
      refine Eo.val (x := (.v (.bool (decide (x264.f_No ≤ y132))))) rfl rfl rfl rfl ?_
      refine Eo.val (x := (.v (.bool (decide (x264.f_No ≤ y132))))) rfl rfl rfl rfl ?_
      refine Eo.cutF 4 [(10, a1), (11, (.v (.int .i64 ((p0.length : Nat) : Int)))), (12, (.v (.int .i64 y133))), (5, (.ptr b272 0)), (24, (.v (.bool ((decide (x264.f_No ≤ y132)) || (decide (x264.f_No > 16384))))))] ?_ ?_
      · skip
        cases hc279 : (decide (x264.f_No ≤ y132))
        · skip
          refine Eo.val (x := (.ptr b272 0)) rfl rfl rfl rfl ?_
          refine Eo.val (x := (.v (.int .i64 x264.f_No))) (op_loadB hp275 0 rfl rfl rfl rfl) rfl rfl rfl ?_
          refine Eo.val (x := (.v (.bool (decide (x264.f_No > 16384))))) rfl rfl rfl rfl ?_
          refine Eo.val (x := (.v (.bool (decide (x264.f_No > 16384))))) rfl rfl rfl rfl ?_
          exact Eo.nil (And.intro rfl (And.intro rfl (.cons rfl (.cons rfl (.cons rfl (.cons rfl (.cons rfl (.nil'))))))))
        · skip
          refine Eo.off rfl rfl rfl ?_
          refine Eo.off rfl rfl rfl ?_
          refine Eo.off rfl rfl rfl ?_
          refine Eo.val (x := (.v (.bool true))) rfl rfl rfl rfl ?_
          exact Eo.nil (And.intro rfl (And.intro rfl (.cons rfl (.cons rfl (.cons rfl (.cons rfl (.cons rfl (.nil'))))))))
      · skip
        refine Eo.val (x := (.v (.bool ((decide (x264.f_No ≤ y132)) || (decide (x264.f_No > 16384)))))) rfl rfl rfl rfl ?_
        refine Eo.cutF 9 [(10, a1), (11, (.v (.int .i64 ((p0.length : Nat) : Int)))), (12, (.v (.int .i64 y133))), (5, (.ptr b272 0)), (34, (.v (.bool (((decide (x264.f_No ≤ y132)) || (decide (x264.f_No > 16384))) || ((IntKind.wrap .i64 (((x264.f_Labels.length : Nat) : Int) + ((x264.f_Toks.length : Nat) : Int))) == 0)))))] ?_ ?_
        · skip
          cases hc284 : ((decide (x264.f_No ≤ y132)) || (decide (x264.f_No > 16384)))
          · skip
            refine Eo.val (x := (.ptr b272 1)) rfl rfl rfl rfl ?_
            refine Eo.val (x := a268) (op_loadB hp275 0 rfl rfl rfl rfl) rfl rfl rfl ?_
            refine Eo.val (x := (.v (.int .i64 ((x264.f_Labels.length : Nat) : Int)))) (op_lenL h269 rfl rfl rfl rfl rfl Tryd.underlying44) rfl rfl rfl ?_
            refine Eo.val (x := (.ptr b272 2)) rfl rfl rfl rfl ?_
            refine Eo.val (x := a270) (op_loadB hp275 0 rfl rfl rfl rfl) rfl rfl rfl ?_
            refine Eo.val (x := (.v (.int .i64 ((x264.f_Toks.length : Nat) : Int)))) (op_lenL h271 rfl rfl rfl rfl rfl Tryd.underlying31) rfl rfl rfl ?_
            refine Eo.val (x := (.v (.int .i64 (IntKind.wrap .i64 (((x264.f_Labels.length : Nat) : Int) + ((x264.f_Toks.length : Nat) : Int)))))) rfl rfl rfl rfl ?_
            refine Eo.val (x := (.v (.bool ((IntKind.wrap .i64 (((x264.f_Labels.length : Nat) : Int) + ((x264.f_Toks.length : Nat) : Int))) == 0)))) rfl rfl rfl rfl ?_
            refine Eo.val (x := (.v (.bool ((IntKind.wrap .i64 (((x264.f_Labels.length : Nat) : Int) + ((x264.f_Toks.length : Nat) : Int))) == 0)))) rfl rfl rfl rfl ?_
            exact Eo.nil (And.intro rfl (And.intro rfl (.cons rfl (.cons rfl (.cons rfl (.cons rfl (.cons rfl (.nil'))))))))
          · skip
            refine Eo.off rfl rfl rfl ?_
            refine Eo.off rfl rfl rfl ?_
            refine Eo.off rfl rfl rfl ?_
            refine Eo.off rfl rfl rfl ?_
            refine Eo.off rfl rfl rfl ?_
            refine Eo.off rfl rfl rfl ?_
            refine Eo.off rfl rfl rfl ?_
            refine Eo.off rfl rfl rfl ?_
            refine Eo.val (x := (.v (.bool true))) rfl rfl rfl rfl ?_
            exact Eo.nil (And.intro rfl (And.intro rfl (.cons rfl (.cons rfl (.cons rfl (.cons rfl (.cons rfl (.nil'))))))))
        · skip
          refine Eo.val (x := (.v (.bool (((decide (x264.f_No ≤ y132)) || (decide (x264.f_No > 16384))) || ((IntKind.wrap .i64 (((x264.f_Labels.length : Nat) : Int) + ((x264.f_Toks.length : Nat) : Int))) == 0))))) rfl rfl rfl rfl ?_
          obtain ⟨x291, hv391, H⟩ := bind_some H
          refine Eo.cutN 4 (J := (fun (x291 : Bool) (x : X) (φ : Fr) (s : St) => x = .normal ∧ (Hp s (.blk b272 (.cells [(.v (.int .i64 x264.f_No)), a268, a270] 46) :: R) ∧ Fl [(5, (.ptr b272 0)), (10, a1), (11, (.v (.int .i64 ((p0.length : Nat) : Int)))), (12, (.v (.int .i64 y133))), (39, (.v (.bool x291)))] φ)) x291) ?_ ?_
          · have H := hv391
            cases hc292 : (((decide (x264.f_No ≤ y132)) || (decide (x264.f_No > 16384))) || ((IntKind.wrap .i64 (((x264.f_Labels.length : Nat) : Int) + ((x264.f_Toks.length : Nat) : Int))) == 0))
            · have H := cond_f hc292 H
              refine Eo.val (x := (.ptr b272 2)) rfl rfl rfl rfl ?_
              refine Eo.val (x := a270) (op_loadB hp275 0 rfl rfl rfl rfl) rfl rfl rfl ?_
              obtain ⟨r293, hvr293, H⟩ := bind_some H
              refine Eo.call rfl rfl rfl rfl (gdovetailref13_Labelled_ok h271 hp275 hvr293) ?_
              rintro _ σ295 ⟨rfl, hp294⟩
              refine Eo.val (x := (.v (.bool r293))) rfl rfl rfl rfl ?_
              refine Eo.nil ?_
              obtain rfl := Option.some.inj H
              exact And.intro rfl ⟨hp294, (.cons rfl (.cons rfl (.cons rfl (.cons rfl (.cons rfl (.nil'))))))⟩
            · have H := cond_t hc292 H
              refine Eo.off rfl rfl rfl ?_
              refine Eo.off rfl rfl rfl ?_
              refine Eo.off rfl rfl rfl ?_
              refine Eo.val (x := (.v (.bool true))) rfl rfl rfl rfl ?_
              refine Eo.nil ?_
              obtain rfl := Option.some.inj H
              exact And.intro rfl ⟨hp275, (.cons rfl (.cons rfl (.cons rfl (.cons rfl (.cons rfl (.nil'))))))⟩
          · skip
            intro x φ298 σ297 hJ
            obtain ⟨rfl, hp296, hf299⟩ := hJ
            refine ⟨rfl, Eo.of (F := [(5, (.ptr b272 0)), (10, a1), (11, (.v (.int .i64 ((p0.length : Nat) : Int)))), (12, (.v (.int .i64 y133))), (39, (.v (.bool x291)))]) hf299 ?_⟩
            refine Eo.nil ?_
            refine Ec.cond (t := x291) rfl (fun hc300 => ?_) (fun hc300 => ?_)
            · have H := cond_t hc300 H
              refine Ec.seq ?_
              refine Ec.region ?_
              refine Eo.val (x := (.v (.bool false))) rfl rfl rfl rfl ?_
              refine Eo.nil ?_
              obtain rfl := Option.some.inj H
              refine Ec.ret ?_
              refine And.intro rfl (Ret.mk rfl ?_)
              exact ⟨rfl, (Hp.drop hp296 0)⟩
            · have H := cond_f hc300 H
              refine Ec.skip ?_
              refine Ec.seq ?_
              refine Ec.region ?_
              refine Eo.val (x := (.ptr b272 0)) rfl rfl rfl rfl ?_
              refine Eo.val (x := (.v (.int .i64 x264.f_No))) (op_loadB hp296 0 rfl rfl rfl rfl) rfl rfl rfl ?_
              refine Eo.val (x := (.v (.int .i64 x264.f_No))) rfl rfl rfl rfl ?_
              refine Eo.nil ?_
              refine Ec.seq ?_
              refine Ec.seq ?_
              refine Ec.region ?_
              refine Eo.val (x := (.ptr b272 1)) rfl rfl rfl rfl ?_
              refine Eo.val (x := a268) (op_loadB hp296 0 rfl rfl rfl rfl) rfl rfl rfl ?_
              refine Eo.val (x := (.v (.int .i64 ((x264.f_Labels.length : Nat) : Int)))) (op_lenL h269 rfl rfl rfl rfl rfl Tryd.underlying44) rfl rfl rfl ?_
              refine Eo.val (x := (.v (.int .i64 0))) rfl rfl rfl rfl ?_
              refine Eo.nil ?_
              refine Ec.block ?_
              obtain ⟨v329, hv330, H⟩ := bind_some H
              refine Ec.cut (J := (fun (v : LR Unit Bool) (x : X) (φ : Fr) (s : St) => match v with | .out _ => x = (.exit 2) ∧ (Hp s (.blk b272 (.cells [(.v (.int .i64 x264.f_No)), a268, a270] 46) :: R) ∧ Fl [(3, (.v (.int .i64 x264.f_No))), (5, (.ptr b272 0)), (10, a1), (11, (.v (.int .i64 ((p0.length : Nat) : Int)))), (12, (.v (.int .i64 y133)))] φ) | .ret r => x = .ret ∧ Ret cfg Tryd.f33 (gdovetailref13_Right_post R r) .ret φ s) v329) (Ec.weak (.cons rfl (.cons rfl (.cons rfl (.cons rfl (.cons rfl (.cons rfl (.cons rfl (.cons rfl (.nil'))))))))) (Ec.loopF (f := (fun m (i : Int × Unit) => gdovetailref13_Right_L2 n x264 m i.1)) (G := (fun (i : Int × Unit) => ([(3, (.v (.int .i64 x264.f_No))), (5, (.ptr b272 0)), (10, a1), (11, (.v (.int .i64 ((p0.length : Nat) : Int)))), (12, (.v (.int .i64 y133))), (43, a268), (44, (.v (.int .i64 ((x264.f_Labels.length : Nat) : Int)))), (45, (.v (.int .i64 i.1)))] : List (Nat × A)))) (I := (fun (i : Int × Unit) (s : St) => Hp s (.blk b272 (.cells [(.v (.int .i64 x264.f_No)), a268, a270] 46) :: R))) (J := (fun (v : LR Unit Bool) (x : X) (φ : Fr) (s : St) => match v with | .out _ => x = (.exit 2) ∧ (Hp s (.blk b272 (.cells [(.v (.int .i64 x264.f_No)), a268, a270] 46) :: R) ∧ Fl [(3, (.v (.int .i64 x264.f_No))), (5, (.ptr b272 0)), (10, a1), (11, (.v (.int .i64 ((p0.length : Nat) : Int)))), (12, (.v (.int .i64 y133)))] φ) | .ret r => x = .ret ∧ Ret cfg Tryd.f33 (gdovetailref13_Right_post R r) .ret φ s)) (fun _ => rfl) ?_ n (0, ()) _ v329 hp296 hv330)) ?_
              · rintro m ⟨y310, _⟩ σ0 v hp0 H ih
                change gdovetailref13_Right_L2 n x264 (m + 1) y310 = some v at H
                rw [gdovetailref13_Right_L2] at H
                change Ec _ _ _ [(3, (.v (.int .i64 x264.f_No))), (5, (.ptr b272 0)), (10, a1), (11, (.v (.int .i64 ((p0.length : Nat) : Int)))), (12, (.v (.int .i64 y133))), (43, a268), (44, (.v (.int .i64 ((x264.f_Labels.length : Nat) : Int)))), (45, (.v (.int .i64 y310)))] σ0 _
                refine Ec.seq ?_
                refine Ec.region ?_
                refine Eo.val (x := (.v (.bool (decide (y310 < ((x264.f_Labels.length : Nat) : Int)))))) rfl rfl rfl rfl ?_
                refine Eo.nil ?_
                refine Ec.seq ?_
                refine Ec.cond (t := (decide (y310 < ((x264.f_Labels.length : Nat) : Int)))) rfl (fun hc320 => ?_) (fun hc320 => ?_)
                · have H := cond_t hc320 H
                  refine Ec.skip ?_
                  refine Ec.seq ?_
                  refine Ec.block ?_
                  refine Ec.seq ?_
                  refine Ec.region ?_
                  obtain ⟨x321, hvx321, H⟩ := bind_some H
                  refine Eo.idx h269 hvx321 rfl rfl rfl Tryd.underlying44 rfl rfl rfl rfl ?_
                  rintro cs322 p323 _ hat324 rfl
                  refine Eo.val (x := (.v (.string x321))) (op_loadSp hat324 0 rfl rfl rfl rfl rfl) rfl rfl rfl ?_
                  refine Eo.val (x := (.v (.string x321))) rfl rfl rfl rfl ?_
                  refine Eo.nil ?_
                  refine Ec.seq ?_
                  refine Ec.region ?_
                  refine Eo.val (x := (.v (.string x321))) rfl rfl rfl rfl ?_
                  obtain ⟨r325, hvr325, H⟩ := bind_some H
                  refine Eo.call rfl rfl rfl rfl (gdovetailref12_Name_ok hp0 hvr325) ?_
                  rintro _ σ327 ⟨rfl, hp326⟩
                  refine Eo.val (x := (.v (.bool (!r325)))) rfl rfl rfl rfl ?_
                  refine Eo.nil ?_
                  refine Ec.cond (t := (!r325)) rfl (fun hc328 => ?_) (fun hc328 => ?_)
                  · have H := cond_t hc328 H
                    refine Ec.seq ?_
                    refine Ec.region ?_
                    refine Eo.val (x := (.v (.bool false))) rfl rfl rfl rfl ?_
                    refine Eo.nil ?_
                    obtain rfl := Option.some.inj H
                    refine Ec.ret ?_
                    refine And.intro rfl (Ret.mk rfl ?_)
                    exact ⟨rfl, (Hp.drop hp326 0)⟩
                  · have H := cond_f hc328 H
                    refine Ec.skip ?_
                    refine Ec.region ?_
                    refine Eo.val (x := (.v (.int .i64 (IntKind.wrap .i64 (y310 + 1))))) rfl rfl rfl rfl ?_
                    refine Eo.val (x := (.v (.int .i64 (IntKind.wrap .i64 (y310 + 1))))) rfl rfl rfl rfl ?_
                    refine Eo.nil ?_
                    exact Ec.of (.cons rfl (.cons rfl (.cons rfl (.cons rfl (.cons rfl (.cons rfl (.cons rfl (.cons rfl (.nil'))))))))) (ih ((IntKind.wrap .i64 (y310 + 1)), ()) _ hp326 H)
                · have H := cond_f hc320 H
                  refine Ec.exit ?_
                  obtain rfl := Option.some.inj H
                  exact And.intro rfl ⟨hp0, (.cons rfl (.cons rfl (.cons rfl (.cons rfl (.cons rfl (.nil'))))))⟩
              · rcases v329 with _ | r387
                · intro x φ333 σ332 hJ
                  obtain ⟨rfl, hp331, hf334⟩ := hJ
                  refine Ec.of (F := [(3, (.v (.int .i64 x264.f_No))), (5, (.ptr b272 0)), (10, a1), (11, (.v (.int .i64 ((p0.length : Nat) : Int)))), (12, (.v (.int .i64 y133)))]) hf334 ?_
                  refine Ec.seq ?_
                  refine Ec.region ?_
                  refine Eo.val (x := (.ptr b272 2)) rfl rfl rfl rfl ?_
                  refine Eo.val (x := a270) (op_loadB hp331 0 rfl rfl rfl rfl) rfl rfl rfl ?_
                  refine Eo.val (x := (.v (.int .i64 ((x264.f_Toks.length : Nat) : Int)))) (op_lenL h271 rfl rfl rfl rfl rfl Tryd.underlying31) rfl rfl rfl ?_
                  refine Eo.val (x := (.v (.int .i64 0))) rfl rfl rfl rfl ?_
                  refine Eo.nil ?_
                  refine Ec.block ?_
                  obtain ⟨v378, hv379, H⟩ := bind_some H
                  refine Ec.cut (J := (fun (v : LR Unit Bool) (x : X) (φ : Fr) (s : St) => match v with | .out _ => x = (.exit 4) ∧ (Hp s (R) ∧ Fl [(3, (.v (.int .i64 x264.f_No))), (10, a1), (11, (.v (.int .i64 ((p0.length : Nat) : Int)))), (12, (.v (.int .i64 y133)))] φ) | .ret r => x = .ret ∧ Ret cfg Tryd.f33 (gdovetailref13_Right_post R r) .ret φ s) v378) (Ec.weak (.cons rfl (.cons rfl (.cons rfl (.cons rfl (.cons rfl (.cons rfl (.cons rfl (.nil')))))))) (Ec.loopF (f := (fun m (i : Int × Unit) => gdovetailref13_Right_L3 n x264 m i.1)) (G := (fun (i : Int × Unit) => ([(3, (.v (.int .i64 x264.f_No))), (10, a1), (11, (.v (.int .i64 ((p0.length : Nat) : Int)))), (12, (.v (.int .i64 y133))), (54, a270), (55, (.v (.int .i64 ((x264.f_Toks.length : Nat) : Int)))), (56, (.v (.int .i64 i.1)))] : List (Nat × A)))) (I := (fun (i : Int × Unit) (s : St) => Hp s (R))) (J := (fun (v : LR Unit Bool) (x : X) (φ : Fr) (s : St) => match v with | .out _ => x = (.exit 4) ∧ (Hp s (R) ∧ Fl [(3, (.v (.int .i64 x264.f_No))), (10, a1), (11, (.v (.int .i64 ((p0.length : Nat) : Int)))), (12, (.v (.int .i64 y133)))] φ) | .ret r => x = .ret ∧ Ret cfg Tryd.f33 (gdovetailref13_Right_post R r) .ret φ s)) (fun _ => rfl) ?_ n (0, ()) _ v378 (Hp.drop hp331 0) hv379)) ?_
                  · rintro m ⟨y349, _⟩ σ0 v hp0 H ih
                    change gdovetailref13_Right_L3 n x264 (m + 1) y349 = some v at H
                    rw [gdovetailref13_Right_L3] at H
                    change Ec _ _ _ [(3, (.v (.int .i64 x264.f_No))), (10, a1), (11, (.v (.int .i64 ((p0.length : Nat) : Int)))), (12, (.v (.int .i64 y133))), (54, a270), (55, (.v (.int .i64 ((x264.f_Toks.length : Nat) : Int)))), (56, (.v (.int .i64 y349)))] σ0 _
                    refine Ec.seq ?_
                    refine Ec.region ?_
                    refine Eo.val (x := (.v (.bool (decide (y349 < ((x264.f_Toks.length : Nat) : Int)))))) rfl rfl rfl rfl ?_
                    refine Eo.nil ?_
                    refine Ec.seq ?_
                    refine Ec.cond (t := (decide (y349 < ((x264.f_Toks.length : Nat) : Int)))) rfl (fun hc364 => ?_) (fun hc364 => ?_)
                    · have H := cond_t hc364 H
                      refine Ec.skip ?_
                      refine Ec.seq ?_
                      refine Ec.block ?_
                      refine Ec.seq ?_
                      refine Ec.region ?_
                      obtain ⟨x365, hvx365, H⟩ := bind_some H
                      refine Eo.idx h271 hvx365 rfl rfl rfl Tryd.underlying31 rfl rfl rfl rfl ?_
                      rintro cs366 p367 _ hat368 rfl
                      refine Eo.val (x := (.agg [(.v (.int .i64 x365.f_Kind)), (.v (.string x365.f_Text))])) (op_loadSpAgg hat368 0 rfl rfl rfl rfl rfl rfl) rfl rfl rfl ?_
                      refine Eo.alloc (z := [(.v (.int .i64 0)), (.v (.string (ByteArray.mk #[])))]) hp0 rfl rfl rfl rfl rfl ?_
                      intro b369 σ371 hp370
                      refine Eo.store hp370 0 rfl (storeCells_mk rfl rfl rfl rfl rfl rfl) rfl rfl rfl rfl rfl ?_
                      intro σ373 hp372
                      change Hp σ373 (.blk b369 (.cells [(.v (.int .i64 x365.f_Kind)), (.v (.string x365.f_Text))] 48) :: R) at hp372
                      refine Eo.nil ?_
                      refine Ec.seq ?_
                      refine Ec.region ?_
                      refine Eo.val (x := (.agg [(.v (.int .i64 x365.f_Kind)), (.v (.string x365.f_Text))])) (op_loadB hp372 0 rfl rfl rfl rfl) rfl rfl rfl ?_
                      obtain ⟨r374, hvr374, H⟩ := bind_some H
                      refine Eo.call rfl rfl rfl rfl (gdovetailref13_Sound_ok hp372 hvr374) ?_
                      rintro _ σ376 ⟨rfl, hp375⟩
                      refine Eo.val (x := (.v (.bool (!r374)))) rfl rfl rfl rfl ?_
                      refine Eo.nil ?_
                      refine Ec.cond (t := (!r374)) rfl (fun hc377 => ?_) (fun hc377 => ?_)
                      · have H := cond_t hc377 H
                        refine Ec.seq ?_
                        refine Ec.region ?_
                        refine Eo.val (x := (.v (.bool false))) rfl rfl rfl rfl ?_
                        refine Eo.nil ?_
                        obtain rfl := Option.some.inj H
                        refine Ec.ret ?_
                        refine And.intro rfl (Ret.mk rfl ?_)
                        exact ⟨rfl, (Hp.drop hp375 0)⟩
                      · have H := cond_f hc377 H
                        refine Ec.skip ?_
                        refine Ec.region ?_
                        refine Eo.val (x := (.v (.int .i64 (IntKind.wrap .i64 (y349 + 1))))) rfl rfl rfl rfl ?_
                        refine Eo.val (x := (.v (.int .i64 (IntKind.wrap .i64 (y349 + 1))))) rfl rfl rfl rfl ?_
                        refine Eo.nil ?_
                        exact Ec.of (.cons rfl (.cons rfl (.cons rfl (.cons rfl (.cons rfl (.cons rfl (.cons rfl (.nil')))))))) (ih ((IntKind.wrap .i64 (y349 + 1)), ()) _ (Hp.drop hp375 0) H)
                    · have H := cond_f hc364 H
                      refine Ec.exit ?_
                      obtain rfl := Option.some.inj H
                      exact And.intro rfl ⟨hp0, (.cons rfl (.cons rfl (.cons rfl (.cons rfl (.nil')))))⟩
                  · rcases v378 with _ | r384
                    · intro x φ382 σ381 hJ
                      obtain ⟨rfl, hp380, hf383⟩ := hJ
                      refine Ec.of (F := [(3, (.v (.int .i64 x264.f_No))), (10, a1), (11, (.v (.int .i64 ((p0.length : Nat) : Int)))), (12, (.v (.int .i64 y133)))]) hf383 ?_
                      refine Ec.region ?_
                      refine Eo.val (x := (.v (.int .i64 (IntKind.wrap .i64 (y133 + 1))))) rfl rfl rfl rfl ?_
                      refine Eo.val (x := (.v (.int .i64 (IntKind.wrap .i64 (y133 + 1))))) rfl rfl rfl rfl ?_
                      refine Eo.nil ?_
                      exact Ec.of (.cons rfl (.cons rfl (.cons rfl (.cons rfl (.nil'))))) (ih ((x264.f_No, (IntKind.wrap .i64 (y133 + 1))), ()) _ hp380 H)
                    · intro x φ385 σ386 hJ
                      obtain rfl := Option.some.inj H
                      obtain ⟨rfl, hr⟩ := hJ
                      exact And.intro rfl hr
                · intro x φ388 σ389 hJ
                  obtain rfl := Option.some.inj H
                  obtain ⟨rfl, hr⟩ := hJ
                  exact And.intro rfl hr
    · have H := cond_f hc263 H
      refine Ec.exit ?_
      obtain rfl := Option.some.inj H
      exact And.intro rfl ⟨hp0, (.nil')⟩
  · rcases v392 with _ | r398
    · intro x φ396 σ395 hJ
      obtain ⟨rfl, hp394, hf397⟩ := hJ
      refine Ec.of (F := []) hf397 ?_
      refine Ec.seq ?_
      refine Ec.region ?_
      refine Eo.val (x := (.v (.bool true))) rfl rfl rfl rfl ?_
      refine Eo.nil ?_
      obtain rfl := Option.some.inj H
      refine Ec.ret ?_
      refine Ret.mk rfl ?_
      exact ⟨rfl, hp394⟩
    · intro x φ399 σ400 hJ
      obtain rfl := Option.some.inj H
      obtain ⟨rfl, hr⟩ := hJ
      exact hr

def gdovetailref13_Print_L2 (N : Nat) (x293 : TLine) : Nat → (List Int) → Int → Option (((List Int) × Int))
  | 0, _, _ => none
  | m + 1, y317, y320 => (cond (decide (y320 < x293.f_No)) (((appL 1 y317 ([10] : List Int)).bind fun l340 => gdovetailref13_Print_L2 N x293 m l340 (IntKind.wrap .i64 (y320 + 1)))) (some (y317, y320)))

def gdovetailref13_Print_L3 (N : Nat) (x293 : TLine) : Nat → (List Int) → Int → Option ((List Int))
  | 0, _, _ => none
  | m + 1, y370, y373 => (cond (decide (y373 < ((x293.f_Labels.length : Nat) : Int))) (((atL x293.f_Labels y373).bind fun x397 => ((appL 1 y370 (bs x397)).bind fun l401 => ((appL 1 l401 ([58, 32] : List Int)).bind fun l410 => gdovetailref13_Print_L3 N x293 m l410 (IntKind.wrap .i64 (y373 + 1)))))) (some y370))

def gdovetailref13_Print_L1 (N : Nat) (p0 : (List TLine)) : Nat → (List Int) → Int → Int → Option (LR (List Int) (ByteArray × Int))
  | 0, _, _, _ => none
  | m + 1, y147, y150, y151 => (cond (decide (y151 < ((p0.length : Nat) : Int))) (((atL p0 y151).bind fun x293 => (cond (decide ((IntKind.wrap .i64 ((IntKind.wrap .i64 (2 * ((x293.f_Labels.length : Nat) : Int))) + ((x293.f_Toks.length : Nat) : Int))) > 64)) (some (.ret ((ByteArray.mk #[]), 133))) (((gdovetailref13_Print_L2 N x293 N y147 y150).bind fun v => match v with | (x331, x334) => ((gdovetailref13_Print_L3 N x293 N x331 0).bind fun x393 => ((gdovetailref13_Join N x293.f_Toks).bind fun r421 => ((appL 1 x393 (bs r421)).bind fun l424 => gdovetailref13_Print_L1 N p0 m l424 x334 (IntKind.wrap .i64 (y151 + 1)))))))))) (some (.out y147)))

def gdovetailref13_Print (n : Nat) (p0 : (List TLine)) : Option ((ByteArray × Int)) := ((gdovetailref13_Right n p0).bind fun r3 => (cond (!r3) (some ((ByteArray.mk #[]), 131)) (((gdovetailref13_Print_L1 n p0 n ([] : List Int) 1 0).bind fun v => match v with | .out x289 => (((cond (decide (((p0.length : Nat) : Int) > 0)) (((appL 1 x289 ([10] : List Int)).bind fun l453 => some l453)) (some x289)) : Option ((List Int))).bind fun x445 => (cond (decide (((x445.length : Nat) : Int) > 262144)) (some ((ByteArray.mk #[]), 133)) (some ((ofB x445), 0)))) | .ret r465 => some r465))))

def gdovetailref13_Print_post (R : List Res) (r : (ByteArray × Int)) (x : A) (s : St) : Prop := x = (.tup [(.v (.string r.1)), (.v (.int .i64 r.2))]) ∧ Hp s (R)

theorem gdovetailref13_Print_ok {n : Nat} {p0 : (List TLine)} {a1 : A} {R : List Res} {σ : St} (h2 : Sl rTLine a1 p0) (hp : Hp σ R) {r : (ByteArray × Int)} (H : gdovetailref13_Print n p0 = some r) : Ca cfg 18 [a1] σ (gdovetailref13_Print_post R r) := by
  unfold gdovetailref13_Print at H
  refine Ca.enterL (G := [(0, a1)]) Tryd.func18 rfl rfl rfl rfl ?_
  refine Ec.seq ?_
  refine Ec.region ?_
  refine Eo.val (x := (.v (.string (ByteArray.mk #[])))) rfl rfl rfl rfl ?_
  refine Eo.val (x := (.v (.int .i64 0))) rfl rfl rfl rfl ?_
  refine Eo.nil ?_
  refine Ec.seq ?_
  refine Ec.seq ?_
  refine Ec.region ?_
  refine Eo.val (x := a1) rfl rfl rfl rfl ?_
  obtain ⟨r3, hvr3, H⟩ := bind_some H
  refine Eo.call rfl rfl rfl rfl (gdovetailref13_Right_ok h2 hp hvr3) ?_
  rintro _ σ5 ⟨rfl, hp4⟩
  refine Eo.val (x := (.v (.bool (!r3)))) rfl rfl rfl rfl ?_
  refine Eo.nil ?_
  refine Ec.cond (t := (!r3)) rfl (fun hc6 => ?_) (fun hc6 => ?_)
  · have H := cond_t hc6 H
    refine Ec.seq ?_
    refine Ec.region ?_
    refine Eo.val (x := (.v (.string (ByteArray.mk #[])))) rfl rfl rfl rfl ?_
    refine Eo.val (x := (.v (.int .i64 131))) rfl rfl rfl rfl ?_
    refine Eo.nil ?_
    obtain rfl := Option.some.inj H
    refine Ec.ret ?_
    refine Ret.mk rfl ?_
    exact ⟨rfl, hp4⟩
  · have H := cond_f hc6 H
    refine Ec.skip ?_
    refine Ec.seq ?_
    refine Ec.region ?_
    refine Eo.val (x := (.sl 1 [] .ex)) rfl rfl rfl rfl ?_
    have hp9 := Hp.appEx hp4 5 1 []
    refine Eo.val (x := (.sl 1 [] .ex)) rfl rfl rfl rfl ?_
    refine Eo.nil ?_
    refine Ec.seq ?_
    refine Ec.region ?_
    refine Eo.val (x := (.v (.int .i64 1))) rfl rfl rfl rfl ?_
    refine Eo.nil ?_
    refine Ec.seq ?_
    refine Ec.seq ?_
    refine Ec.region ?_
    refine Eo.val (x := a1) rfl rfl rfl rfl ?_
    refine Eo.val (x := (.v (.int .i64 ((p0.length : Nat) : Int)))) (op_lenL h2 rfl rfl rfl rfl rfl Tryd.underlying23) rfl rfl rfl ?_
    refine Eo.val (x := (.v (.int .i64 0))) rfl rfl rfl rfl ?_
    refine Eo.nil ?_
    refine Ec.block ?_
    obtain ⟨v429, hv430, H⟩ := bind_some H
    refine Ec.cut (J := (fun (v : LR (List Int) (ByteArray × Int)) (x : X) (φ : Fr) (s : St) => match v with | .out x289 => x = (.exit 0) ∧ (∃ (a290 : A), Sl (rI .u8) a290 x289 ∧ Hp s (.app a290 5 :: R) ∧ Fl [(0, a1), (4, a290)] φ) | .ret r => x = .ret ∧ Ret cfg Tryd.f18 (gdovetailref13_Print_post R r) .ret φ s) v429) (Ec.weak (.cons rfl (.cons rfl (.cons rfl (.cons rfl (.cons rfl (.cons rfl (.nil'))))))) (Ec.loopF (f := (fun m (i : ((List Int) × Int × Int) × A) => gdovetailref13_Print_L1 n p0 m i.1.1 i.1.2.1 i.1.2.2)) (G := (fun (i : ((List Int) × Int × Int) × A) => ([(0, a1), (4, i.2), (5, (.v (.int .i64 i.1.2.1))), (14, a1), (15, (.v (.int .i64 ((p0.length : Nat) : Int)))), (16, (.v (.int .i64 i.1.2.2)))] : List (Nat × A)))) (I := (fun (i : ((List Int) × Int × Int) × A) (s : St) => Sl (rI .u8) i.2 i.1.1 ∧ Hp s (.app i.2 5 :: R))) (J := (fun (v : LR (List Int) (ByteArray × Int)) (x : X) (φ : Fr) (s : St) => match v with | .out x289 => x = (.exit 0) ∧ (∃ (a290 : A), Sl (rI .u8) a290 x289 ∧ Hp s (.app a290 5 :: R) ∧ Fl [(0, a1), (4, a290)] φ) | .ret r => x = .ret ∧ Ret cfg Tryd.f18 (gdovetailref13_Print_post R r) .ret φ s)) (fun _ => rfl) ?_ n ((([] : List Int), 1, 0), (.sl 1 [] .ex)) _ v429 ⟨(.inr ⟨_, _, rfl, .nil⟩ : Sl (rI .u8) (.sl 1 [] .ex) ([] : List Int)), hp9⟩ hv430)) ?_
    · rintro m ⟨⟨y147, y150, y151⟩, a148⟩ σ0 v ⟨h149, hp0⟩ H ih
      change gdovetailref13_Print_L1 n p0 (m + 1) y147 y150 y151 = some v at H
      rw [gdovetailref13_Print_L1] at H
      change Ec _ _ _ [(0, a1), (4, a148), (5, (.v (.int .i64 y150))), (14, a1), (15, (.v (.int .i64 ((p0.length : Nat) : Int)))), (16, (.v (.int .i64 y151)))] σ0 _
      refine Ec.seq ?_
      refine Ec.region ?_
      refine Eo.val (x := (.v (.bool (decide (y151 < ((p0.length : Nat) : Int)))))) rfl rfl rfl rfl ?_
      refine Eo.nil ?_
      refine Ec.seq ?_
      refine Ec.cond (t := (decide (y151 < ((p0.length : Nat) : Int)))) rfl (fun hc292 => ?_) (fun hc292 => ?_)
      · have H := cond_t hc292 H
        refine Ec.skip ?_
        refine Ec.seq ?_
        refine Ec.block ?_
        refine Ec.seq ?_
        refine Ec.region ?_
        obtain ⟨x293, hvx293, H⟩ := bind_some H
        refine Eo.idx h2 hvx293 rfl rfl rfl Tryd.underlying23 rfl rfl rfl rfl ?_
        rintro cs294 p295 _ hat296 ⟨a297, a299, rfl, h298, h300⟩
        refine Eo.val (x := (.agg [(.v (.int .i64 x293.f_No)), a297, a299])) (op_loadSpAgg hat296 0 rfl rfl rfl rfl rfl rfl) rfl rfl rfl ?_
        refine Eo.alloc (z := [(.v (.int .i64 0)), nilS, nilS]) hp0 rfl rfl rfl rfl rfl ?_
        intro b301 σ303 hp302
        refine Eo.store hp302 0 rfl (storeCells_mk rfl rfl rfl (by simp [allOne, A.cells, h298.isOne, h300.isOne]) rfl rfl) rfl rfl rfl rfl rfl ?_
        intro σ305 hp304
        change Hp σ305 (.blk b301 (.cells [(.v (.int .i64 x293.f_No)), a297, a299] 46) :: .app a148 5 :: R) at hp304
        refine Eo.nil ?_
        refine Ec.seq ?_
        refine Ec.seq ?_
        refine Ec.region ?_
        refine Eo.val (x := (.ptr b301 1)) rfl rfl rfl rfl ?_
        refine Eo.val (x := a297) (op_loadB hp304 0 rfl rfl rfl rfl) rfl rfl rfl ?_
        refine Eo.val (x := (.v (.int .i64 ((x293.f_Labels.length : Nat) : Int)))) (op_lenL h298 rfl rfl rfl rfl rfl Tryd.underlying44) rfl rfl rfl ?_
        refine Eo.val (x := (.v (.int .i64 (IntKind.wrap .i64 (2 * ((x293.f_Labels.length : Nat) : Int)))))) rfl rfl rfl rfl ?_
        refine Eo.val (x := (.ptr b301 2)) rfl rfl rfl rfl ?_
        refine Eo.val (x := a299) (op_loadB hp304 0 rfl rfl rfl rfl) rfl rfl rfl ?_
        refine Eo.val (x := (.v (.int .i64 ((x293.f_Toks.length : Nat) : Int)))) (op_lenL h300 rfl rfl rfl rfl rfl Tryd.underlying31) rfl rfl rfl ?_
        refine Eo.val (x := (.v (.int .i64 (IntKind.wrap .i64 ((IntKind.wrap .i64 (2 * ((x293.f_Labels.length : Nat) : Int))) + ((x293.f_Toks.length : Nat) : Int)))))) rfl rfl rfl rfl ?_
        refine Eo.val (x := (.v (.bool (decide ((IntKind.wrap .i64 ((IntKind.wrap .i64 (2 * ((x293.f_Labels.length : Nat) : Int))) + ((x293.f_Toks.length : Nat) : Int))) > 64))))) rfl rfl rfl rfl ?_
        refine Eo.nil ?_
        refine Ec.cond (t := (decide ((IntKind.wrap .i64 ((IntKind.wrap .i64 (2 * ((x293.f_Labels.length : Nat) : Int))) + ((x293.f_Toks.length : Nat) : Int))) > 64))) rfl (fun hc306 => ?_) (fun hc306 => ?_)
        · have H := cond_t hc306 H
          refine Ec.seq ?_
          refine Ec.region ?_
          refine Eo.val (x := (.v (.string (ByteArray.mk #[])))) rfl rfl rfl rfl ?_
          refine Eo.val (x := (.v (.int .i64 133))) rfl rfl rfl rfl ?_
          refine Eo.nil ?_
          obtain rfl := Option.some.inj H
          refine Ec.ret ?_
          refine And.intro rfl (Ret.mk rfl ?_)
          exact ⟨rfl, (Hp.drop (Hp.drop hp304 0) 0)⟩
        · have H := cond_f hc306 H
          refine Ec.skip ?_
          refine Ec.seq ?_
          refine Ec.block ?_
          obtain ⟨v345, hv346, H⟩ := bind_some H
          refine Ec.cut (J := (fun (v : ((List Int) × Int)) (x : X) (φ : Fr) (s : St) => match v with | (x331, x334) => x = (.exit 2) ∧ (∃ (a332 : A), Sl (rI .u8) a332 x331 ∧ Hp s (.blk b301 (.cells [(.v (.int .i64 x293.f_No)), a297, a299] 46) :: .app a332 5 :: R) ∧ Fl [(0, a1), (4, a332), (5, (.v (.int .i64 x334))), (7, (.ptr b301 0)), (14, a1), (15, (.v (.int .i64 ((p0.length : Nat) : Int)))), (16, (.v (.int .i64 y151)))] φ)) v345) (Ec.weak (.cons rfl (.cons rfl (.cons rfl (.cons rfl (.cons rfl (.cons rfl (.cons rfl (.nil')))))))) (Ec.loopF (f := (fun m (i : ((List Int) × Int) × A) => gdovetailref13_Print_L2 n x293 m i.1.1 i.1.2)) (G := (fun (i : ((List Int) × Int) × A) => ([(0, a1), (4, i.2), (5, (.v (.int .i64 i.1.2))), (7, (.ptr b301 0)), (14, a1), (15, (.v (.int .i64 ((p0.length : Nat) : Int)))), (16, (.v (.int .i64 y151)))] : List (Nat × A)))) (I := (fun (i : ((List Int) × Int) × A) (s : St) => Sl (rI .u8) i.2 i.1.1 ∧ Hp s (.blk b301 (.cells [(.v (.int .i64 x293.f_No)), a297, a299] 46) :: .app i.2 5 :: R))) (J := (fun (v : ((List Int) × Int)) (x : X) (φ : Fr) (s : St) => match v with | (x331, x334) => x = (.exit 2) ∧ (∃ (a332 : A), Sl (rI .u8) a332 x331 ∧ Hp s (.blk b301 (.cells [(.v (.int .i64 x293.f_No)), a297, a299] 46) :: .app a332 5 :: R) ∧ Fl [(0, a1), (4, a332), (5, (.v (.int .i64 x334))), (7, (.ptr b301 0)), (14, a1), (15, (.v (.int .i64 ((p0.length : Nat) : Int)))), (16, (.v (.int .i64 y151)))] φ))) (fun _ => rfl) ?_ n ((y147, y150), a148) _ v345 ⟨h149, (Hp.front (Hp.front hp304 1) 1)⟩ hv346)) ?_
          · rintro m ⟨⟨y317, y320⟩, a318⟩ σ0 v ⟨h319, hp0⟩ H ih
            change gdovetailref13_Print_L2 n x293 (m + 1) y317 y320 = some v at H
            rw [gdovetailref13_Print_L2] at H
            change Ec _ _ _ [(0, a1), (4, a318), (5, (.v (.int .i64 y320))), (7, (.ptr b301 0)), (14, a1), (15, (.v (.int .i64 ((p0.length : Nat) : Int)))), (16, (.v (.int .i64 y151)))] σ0 _
            refine Ec.seq ?_
            refine Ec.seq ?_
            refine Ec.region ?_
            refine Eo.val (x := (.v (.int .i64 y320))) rfl rfl rfl rfl ?_
            refine Eo.val (x := (.ptr b301 0)) rfl rfl rfl rfl ?_
            refine Eo.val (x := (.v (.int .i64 x293.f_No))) (op_loadB hp0 0 rfl rfl rfl rfl) rfl rfl rfl ?_
            refine Eo.val (x := (.v (.bool (decide (y320 < x293.f_No))))) rfl rfl rfl rfl ?_
            refine Eo.nil ?_
            refine Ec.cond (t := (decide (y320 < x293.f_No))) rfl (fun hc335 => ?_) (fun hc335 => ?_)
            · have H := cond_t hc335 H
              refine Ec.skip ?_
              refine Ec.block ?_
              refine Ec.seq ?_
              refine Ec.region ?_
              refine Eo.val (x := a318) rfl rfl rfl rfl ?_
              refine Eo.val (x := (.sl 1 [(.v (.int .u8 10))] .ex)) (op_buildS (lay_cons rfl rfl rfl rfl rfl lay_nil) rfl (parts_cons rfl rfl rfl) Tryd.underlying61 rfl rfl rfl rfl (by decide) rfl) rfl rfl rfl ?_
              have h339 : Sl (rI .u8) (.sl 1 [(.v (.int .u8 10))] .ex) ([10] : List Int) := .inr ⟨_, _, rfl, (.cons (c := [(.v (.int .u8 10))]) rfl .nil)⟩
              have hp338 := Hp.appEx hp0 5 1 [(.v (.int .u8 10))]
              obtain ⟨l340, hvl340, H⟩ := bind_some H
              refine Eo.append hp338 2 rfl h319 (New.of h339) hvl340 rfl rfl rfl rfl rfl rfl rfl Tryd.underlying61 rfl Tryd.underlying61 rfl rfl rfl rfl rfl rfl rfl rfl ?_
              intro a341 σ344 h342 hp343
              change Hp σ344 (.app (.sl 1 [(.v (.int .u8 10))] .ex) 5 :: .blk b301 (.cells [(.v (.int .i64 x293.f_No)), a297, a299] 46) :: .app a341 5 :: R) at hp343
              refine Eo.val (x := a341) rfl rfl rfl rfl ?_
              refine Eo.nil ?_
              refine Ec.region ?_
              refine Eo.val (x := (.v (.int .i64 y320))) rfl rfl rfl rfl ?_
              refine Eo.val (x := (.v (.int .i64 (IntKind.wrap .i64 (y320 + 1))))) rfl rfl rfl rfl ?_
              refine Eo.val (x := (.v (.int .i64 (IntKind.wrap .i64 (y320 + 1))))) rfl rfl rfl rfl ?_
              refine Eo.nil ?_
              exact Ec.of (.cons rfl (.cons rfl (.cons rfl (.cons rfl (.cons rfl (.cons rfl (.cons rfl (.nil')))))))) (ih ((l340, (IntKind.wrap .i64 (y320 + 1))), a341) _ ⟨h342, (Hp.front (Hp.front (Hp.drop hp343 0) 1) 1)⟩ H)
            · have H := cond_f hc335 H
              refine Ec.exit ?_
              obtain rfl := Option.some.inj H
              exact And.intro rfl ⟨a318, h319, (Hp.front (Hp.front hp0 1) 1), (.cons rfl (.cons rfl (.cons rfl (.cons rfl (.cons rfl (.cons rfl (.cons rfl (.nil'))))))))⟩
          · skip
            intro x φ349 σ348 hJ
            obtain ⟨x331, x334⟩ := v345
            obtain ⟨rfl, a332, h333, hp347, hf350⟩ := hJ
            refine Ec.of (F := [(0, a1), (4, a332), (5, (.v (.int .i64 x334))), (7, (.ptr b301 0)), (14, a1), (15, (.v (.int .i64 ((p0.length : Nat) : Int)))), (16, (.v (.int .i64 y151)))]) hf350 ?_
            refine Ec.seq ?_
            refine Ec.seq ?_
            refine Ec.region ?_
            refine Eo.val (x := (.ptr b301 1)) rfl rfl rfl rfl ?_
            refine Eo.val (x := a297) (op_loadB hp347 0 rfl rfl rfl rfl) rfl rfl rfl ?_
            refine Eo.val (x := (.v (.int .i64 ((x293.f_Labels.length : Nat) : Int)))) (op_lenL h298 rfl rfl rfl rfl rfl Tryd.underlying44) rfl rfl rfl ?_
            refine Eo.val (x := (.v (.int .i64 0))) rfl rfl rfl rfl ?_
            refine Eo.nil ?_
            refine Ec.block ?_
            obtain ⟨x393, hv416, H⟩ := bind_some H
            refine Ec.cut (J := (fun (x393 : (List Int)) (x : X) (φ : Fr) (s : St) => x = (.exit 4) ∧ (∃ (a394 : A), Sl (rI .u8) a394 x393 ∧ Hp s (.blk b301 (.cells [(.v (.int .i64 x293.f_No)), a297, a299] 46) :: .app a394 5 :: R) ∧ Fl [(0, a1), (4, a394), (5, (.v (.int .i64 x334))), (7, (.ptr b301 0)), (14, a1), (15, (.v (.int .i64 ((p0.length : Nat) : Int)))), (16, (.v (.int .i64 y151)))] φ)) x393) (Ec.weak (.cons rfl (.cons rfl (.cons rfl (.cons rfl (.cons rfl (.cons rfl (.cons rfl (.cons rfl (.cons rfl (.cons rfl (.nil'))))))))))) (Ec.loopF (f := (fun m (i : ((List Int) × Int) × A) => gdovetailref13_Print_L3 n x293 m i.1.1 i.1.2)) (G := (fun (i : ((List Int) × Int) × A) => ([(0, a1), (4, i.2), (5, (.v (.int .i64 x334))), (7, (.ptr b301 0)), (14, a1), (15, (.v (.int .i64 ((p0.length : Nat) : Int)))), (16, (.v (.int .i64 y151))), (39, a297), (40, (.v (.int .i64 ((x293.f_Labels.length : Nat) : Int)))), (41, (.v (.int .i64 i.1.2)))] : List (Nat × A)))) (I := (fun (i : ((List Int) × Int) × A) (s : St) => Sl (rI .u8) i.2 i.1.1 ∧ Hp s (.blk b301 (.cells [(.v (.int .i64 x293.f_No)), a297, a299] 46) :: .app i.2 5 :: R))) (J := (fun (x393 : (List Int)) (x : X) (φ : Fr) (s : St) => x = (.exit 4) ∧ (∃ (a394 : A), Sl (rI .u8) a394 x393 ∧ Hp s (.blk b301 (.cells [(.v (.int .i64 x293.f_No)), a297, a299] 46) :: .app a394 5 :: R) ∧ Fl [(0, a1), (4, a394), (5, (.v (.int .i64 x334))), (7, (.ptr b301 0)), (14, a1), (15, (.v (.int .i64 ((p0.length : Nat) : Int)))), (16, (.v (.int .i64 y151)))] φ))) (fun _ => rfl) ?_ n ((x331, 0), a332) _ x393 ⟨h333, (Hp.front (Hp.front hp347 1) 1)⟩ hv416)) ?_
            · rintro m ⟨⟨y370, y373⟩, a371⟩ σ0 v ⟨h372, hp0⟩ H ih
              change gdovetailref13_Print_L3 n x293 (m + 1) y370 y373 = some v at H
              rw [gdovetailref13_Print_L3] at H
              change Ec _ _ _ [(0, a1), (4, a371), (5, (.v (.int .i64 x334))), (7, (.ptr b301 0)), (14, a1), (15, (.v (.int .i64 ((p0.length : Nat) : Int)))), (16, (.v (.int .i64 y151))), (39, a297), (40, (.v (.int .i64 ((x293.f_Labels.length : Nat) : Int)))), (41, (.v (.int .i64 y373)))] σ0 _
              refine Ec.seq ?_
              refine Ec.region ?_
              refine Eo.val (x := (.v (.bool (decide (y373 < ((x293.f_Labels.length : Nat) : Int)))))) rfl rfl rfl rfl ?_
              refine Eo.nil ?_
              refine Ec.seq ?_
              refine Ec.cond (t := (decide (y373 < ((x293.f_Labels.length : Nat) : Int)))) rfl (fun hc396 => ?_) (fun hc396 => ?_)
              · have H := cond_t hc396 H
                refine Ec.skip ?_
                refine Ec.seq ?_
                refine Ec.block ?_
                refine Ec.seq ?_
                refine Ec.region ?_
                obtain ⟨x397, hvx397, H⟩ := bind_some H
                refine Eo.idx h298 hvx397 rfl rfl rfl Tryd.underlying44 rfl rfl rfl rfl ?_
                rintro cs398 p399 _ hat400 rfl
                refine Eo.val (x := (.v (.string x397))) (op_loadSp hat400 0 rfl rfl rfl rfl rfl) rfl rfl rfl ?_
                refine Eo.val (x := (.v (.string x397))) rfl rfl rfl rfl ?_
                refine Eo.nil ?_
                refine Ec.seq ?_
                refine Ec.region ?_
                refine Eo.val (x := a371) rfl rfl rfl rfl ?_
                refine Eo.val (x := (.v (.string x397))) rfl rfl rfl rfl ?_
                obtain ⟨l401, hvl401, H⟩ := bind_some H
                refine Eo.append hp0 1 rfl h372 New.str hvl401 rfl rfl rfl rfl rfl rfl rfl Tryd.underlying9 rfl Tryd.underlying61 rfl rfl rfl rfl rfl rfl rfl rfl ?_
                intro a402 σ405 h403 hp404
                change Hp σ405 (.blk b301 (.cells [(.v (.int .i64 x293.f_No)), a297, a299] 46) :: .app a402 5 :: R) at hp404
                refine Eo.val (x := a402) rfl rfl rfl rfl ?_
                refine Eo.nil ?_
                refine Ec.region ?_
                refine Eo.val (x := a402) rfl rfl rfl rfl ?_
                refine Eo.val (x := (.sl 1 [(.v (.int .u8 58)), (.v (.int .u8 32))] .ex)) (op_buildS (lay_cons rfl rfl rfl rfl rfl (lay_cons rfl rfl rfl rfl rfl lay_nil)) rfl (parts_cons rfl rfl (parts_cons rfl rfl rfl)) Tryd.underlying61 rfl rfl rfl rfl (by decide) rfl) rfl rfl rfl ?_
                have h409 : Sl (rI .u8) (.sl 1 [(.v (.int .u8 58)), (.v (.int .u8 32))] .ex) ([58, 32] : List Int) := .inr ⟨_, _, rfl, (.cons (c := [(.v (.int .u8 58))]) rfl (.cons (c := [(.v (.int .u8 32))]) rfl .nil))⟩
                have hp408 := Hp.appEx hp404 5 1 [(.v (.int .u8 58)), (.v (.int .u8 32))]
                obtain ⟨l410, hvl410, H⟩ := bind_some H
                refine Eo.append hp408 2 rfl h403 (New.of h409) hvl410 rfl rfl rfl rfl rfl rfl rfl Tryd.underlying61 rfl Tryd.underlying61 rfl rfl rfl rfl rfl rfl rfl rfl ?_
                intro a411 σ414 h412 hp413
                change Hp σ414 (.app (.sl 1 [(.v (.int .u8 58)), (.v (.int .u8 32))] .ex) 5 :: .blk b301 (.cells [(.v (.int .i64 x293.f_No)), a297, a299] 46) :: .app a411 5 :: R) at hp413
                refine Eo.val (x := a411) rfl rfl rfl rfl ?_
                refine Eo.nil ?_
                refine Ec.region ?_
                refine Eo.val (x := (.v (.int .i64 (IntKind.wrap .i64 (y373 + 1))))) rfl rfl rfl rfl ?_
                refine Eo.val (x := (.v (.int .i64 (IntKind.wrap .i64 (y373 + 1))))) rfl rfl rfl rfl ?_
                refine Eo.nil ?_
                exact Ec.of (.cons rfl (.cons rfl (.cons rfl (.cons rfl (.cons rfl (.cons rfl (.cons rfl (.cons rfl (.cons rfl (.cons rfl (.nil'))))))))))) (ih ((l410, (IntKind.wrap .i64 (y373 + 1))), a411) _ ⟨h412, (Hp.front (Hp.front (Hp.drop hp413 0) 1) 1)⟩ H)
              · have H := cond_f hc396 H
                refine Ec.exit ?_
                obtain rfl := Option.some.inj H
                exact And.intro rfl ⟨a371, h372, (Hp.front (Hp.front hp0 1) 1), (.cons rfl (.cons rfl (.cons rfl (.cons rfl (.cons rfl (.cons rfl (.cons rfl (.nil'))))))))⟩
            · skip
              intro x φ419 σ418 hJ
              obtain ⟨rfl, a394, h395, hp417, hf420⟩ := hJ
              refine Ec.of (F := [(0, a1), (4, a394), (5, (.v (.int .i64 x334))), (7, (.ptr b301 0)), (14, a1), (15, (.v (.int .i64 ((p0.length : Nat) : Int)))), (16, (.v (.int .i64 y151)))]) hf420 ?_
              refine Ec.region ?_
              refine Eo.val (x := a394) rfl rfl rfl rfl ?_
              refine Eo.val (x := (.ptr b301 2)) rfl rfl rfl rfl ?_
              refine Eo.val (x := a299) (op_loadB hp417 0 rfl rfl rfl rfl) rfl rfl rfl ?_
              obtain ⟨r421, hvr421, H⟩ := bind_some H
              refine Eo.call rfl rfl rfl rfl (gdovetailref13_Join_ok h300 hp417 hvr421) ?_
              rintro _ σ423 ⟨rfl, hp422⟩
              obtain ⟨l424, hvl424, H⟩ := bind_some H
              refine Eo.append hp422 1 rfl h395 New.str hvl424 rfl rfl rfl rfl rfl rfl rfl Tryd.underlying9 rfl Tryd.underlying61 rfl rfl rfl rfl rfl rfl rfl rfl ?_
              intro a425 σ428 h426 hp427
              change Hp σ428 (.blk b301 (.cells [(.v (.int .i64 x293.f_No)), a297, a299] 46) :: .app a425 5 :: R) at hp427
              refine Eo.val (x := a425) rfl rfl rfl rfl ?_
              refine Eo.nil ?_
              refine Ec.region ?_
              refine Eo.val (x := (.v (.int .i64 (IntKind.wrap .i64 (y151 + 1))))) rfl rfl rfl rfl ?_
              refine Eo.val (x := (.v (.int .i64 (IntKind.wrap .i64 (y151 + 1))))) rfl rfl rfl rfl ?_
              refine Eo.nil ?_
              exact Ec.of (.cons rfl (.cons rfl (.cons rfl (.cons rfl (.cons rfl (.cons rfl (.nil'))))))) (ih ((l424, x334, (IntKind.wrap .i64 (y151 + 1))), a425) _ ⟨h426, (Hp.drop hp427 0)⟩ H)
      · have H := cond_f hc292 H
        refine Ec.exit ?_
        obtain rfl := Option.some.inj H
        exact And.intro rfl ⟨a148, h149, hp0, (.cons rfl (.cons rfl (.nil')))⟩
    · rcases v429 with x289 | r465
      · intro x φ433 σ432 hJ
        obtain ⟨rfl, a290, h291, hp431, hf434⟩ := hJ
        refine Ec.of (F := [(0, a1), (4, a290)]) hf434 ?_
        refine Ec.seq ?_
        refine Ec.seq ?_
        refine Ec.region ?_
        refine Eo.val (x := a1) rfl rfl rfl rfl ?_
        refine Eo.val (x := (.v (.int .i64 ((p0.length : Nat) : Int)))) (op_lenL h2 rfl rfl rfl rfl rfl Tryd.underlying23) rfl rfl rfl ?_
        refine Eo.val (x := (.v (.bool (decide (((p0.length : Nat) : Int) > 0))))) rfl rfl rfl rfl ?_
        refine Eo.nil ?_
        obtain ⟨x445, hv464, H⟩ := bind_some H
        refine Ec.cut (J := (fun (x445 : (List Int)) (x : X) (φ : Fr) (s : St) => x = .normal ∧ (∃ (a446 : A), Sl (rI .u8) a446 x445 ∧ Hp s (.app a446 5 :: R) ∧ Fl [(4, a446)] φ)) x445) ?_ ?_
        · have H := hv464
          refine Ec.cond (t := (decide (((p0.length : Nat) : Int) > 0))) rfl (fun hc448 => ?_) (fun hc448 => ?_)
          · have H := cond_t hc448 H
            refine Ec.region ?_
            refine Eo.val (x := a290) rfl rfl rfl rfl ?_
            refine Eo.val (x := (.sl 1 [(.v (.int .u8 10))] .ex)) (op_buildS (lay_cons rfl rfl rfl rfl rfl lay_nil) rfl (parts_cons rfl rfl rfl) Tryd.underlying61 rfl rfl rfl rfl (by decide) rfl) rfl rfl rfl ?_
            have h452 : Sl (rI .u8) (.sl 1 [(.v (.int .u8 10))] .ex) ([10] : List Int) := .inr ⟨_, _, rfl, (.cons (c := [(.v (.int .u8 10))]) rfl .nil)⟩
            have hp451 := Hp.appEx hp431 5 1 [(.v (.int .u8 10))]
            obtain ⟨l453, hvl453, H⟩ := bind_some H
            refine Eo.append hp451 1 rfl h291 (New.of h452) hvl453 rfl rfl rfl rfl rfl rfl rfl Tryd.underlying61 rfl Tryd.underlying61 rfl rfl rfl rfl rfl rfl rfl rfl ?_
            intro a454 σ457 h455 hp456
            change Hp σ457 (.app (.sl 1 [(.v (.int .u8 10))] .ex) 5 :: .app a454 5 :: R) at hp456
            refine Eo.val (x := a454) rfl rfl rfl rfl ?_
            refine Eo.nil ?_
            obtain rfl := Option.some.inj H
            exact And.intro rfl ⟨a454, h455, (Hp.drop hp456 0), (.cons rfl (.nil'))⟩
          · have H := cond_f hc448 H
            refine Ec.skip ?_
            obtain rfl := Option.some.inj H
            exact And.intro rfl ⟨a290, h291, hp431, (.cons rfl (.nil'))⟩
        · skip
          intro x φ460 σ459 hJ
          obtain ⟨rfl, a446, h447, hp458, hf461⟩ := hJ
          refine Ec.of (F := [(4, a446)]) hf461 ?_
          refine Ec.seq ?_
          refine Ec.seq ?_
          refine Ec.region ?_
          refine Eo.val (x := a446) rfl rfl rfl rfl ?_
          refine Eo.val (x := (.v (.int .i64 ((x445.length : Nat) : Int)))) (op_lenL h447 rfl rfl rfl rfl rfl Tryd.underlying61) rfl rfl rfl ?_
          refine Eo.val (x := (.v (.bool (decide (((x445.length : Nat) : Int) > 262144))))) rfl rfl rfl rfl ?_
          refine Eo.nil ?_
          refine Ec.cond (t := (decide (((x445.length : Nat) : Int) > 262144))) rfl (fun hc462 => ?_) (fun hc462 => ?_)
          · have H := cond_t hc462 H
            refine Ec.seq ?_
            refine Ec.region ?_
            refine Eo.val (x := (.v (.string (ByteArray.mk #[])))) rfl rfl rfl rfl ?_
            refine Eo.val (x := (.v (.int .i64 133))) rfl rfl rfl rfl ?_
            refine Eo.nil ?_
            obtain rfl := Option.some.inj H
            refine Ec.ret ?_
            refine Ret.mk rfl ?_
            exact ⟨rfl, (Hp.drop hp458 0)⟩
          · have H := cond_f hc462 H
            refine Ec.skip ?_
            refine Ec.seq ?_
            refine Ec.region ?_
            refine Eo.val (x := a446) rfl rfl rfl rfl ?_
            refine Eo.val (op_b2s h447 rfl rfl Tryd.underlying61 Tryd.underlying9 Tryd.underlying5 (fun h => by subst h; rfl)) rfl rfl rfl ?_
            refine Eo.val (x := (.v (.string (ofB x445)))) rfl rfl rfl rfl ?_
            refine Eo.val (x := (.v (.int .i64 0))) rfl rfl rfl rfl ?_
            refine Eo.nil ?_
            obtain rfl := Option.some.inj H
            refine Ec.ret ?_
            refine Ret.mk rfl ?_
            exact ⟨rfl, (Hp.drop hp458 0)⟩
      · intro x φ466 σ467 hJ
        obtain rfl := Option.some.inj H
        obtain ⟨rfl, hr⟩ := hJ
        exact hr

def gdovetaillaw13_AsmtextPrints (n : Nat) (p0 : (List TLine)) : Option (Bool) := ((gdovetaillaw13_asmtextAlive n ).bind fun r3 => (cond (!r3) (some false) (((gdovetailref13_Copy n p0).bind fun r7 => ((gdovetailref13_Print n p0).bind fun v => match v with | (r13, r14) => ((gasmtext_Print n r7).bind fun v => match v with | (r18, r19) => (((cond ((r19 != r14) || (!decide (r18 = r13))) (some true) (((gdovetailref13_Same n r7 p0).bind fun r33 => some (!r33)))) : Option (Bool)).bind fun x31 => (cond x31 (some false) ((cond (r19 != 0) (some true) (((gasmtext_Parse n r18).bind fun v => match v with | (r43, r44, r45) => (((cond ((r45 == 0) && (r44 == 0)) (((gdovetailref13_Same n r43 p0).bind fun r61 => some r61)) (some false)) : Option (Bool)).bind fun x59 => some x59)))))))))))))

def gdovetaillaw13_AsmtextPrints_post (R : List Res) (r : Bool) (x : A) (s : St) : Prop := x = (.v (.bool r)) ∧ Hp s (R)

theorem gdovetaillaw13_AsmtextPrints_ok {n : Nat} {p0 : (List TLine)} {a1 : A} {R : List Res} {σ : St} (h2 : Sl rTLine a1 p0) (hp : Hp σ R) {r : Bool} (H : gdovetaillaw13_AsmtextPrints n p0 = some r) : Ca cfg 6 [a1] σ (gdovetaillaw13_AsmtextPrints_post R r) := by
  unfold gdovetaillaw13_AsmtextPrints at H
  refine Ca.enterL (G := [(0, a1)]) Tryd.func6 rfl rfl rfl rfl ?_
  refine Ec.seq ?_
  refine Ec.region ?_
  refine Eo.val (x := (.v (.bool false))) rfl rfl rfl rfl ?_
  refine Eo.nil ?_
  refine Ec.seq ?_
  refine Ec.seq ?_
  refine Ec.region ?_
  obtain ⟨r3, hvr3, H⟩ := bind_some H
  refine Eo.call rfl rfl rfl rfl (gdovetaillaw13_asmtextAlive_ok hp hvr3) ?_
  rintro _ σ5 ⟨rfl, hp4⟩
  refine Eo.val (x := (.v (.bool (!r3)))) rfl rfl rfl rfl ?_
  refine Eo.nil ?_
  refine Ec.cond (t := (!r3)) rfl (fun hc6 => ?_) (fun hc6 => ?_)
  · have H := cond_t hc6 H
    refine Ec.seq ?_
    refine Ec.region ?_
    refine Eo.val (x := (.v (.bool false))) rfl rfl rfl rfl ?_
    refine Eo.nil ?_
    obtain rfl := Option.some.inj H
    refine Ec.ret ?_
    refine Ret.mk rfl ?_
    exact ⟨rfl, hp4⟩
  · have H := cond_f hc6 H
    refine Ec.skip ?_
    refine Ec.seq ?_
    refine Ec.region ?_
    refine Eo.val (x := a1) rfl rfl rfl rfl ?_
    obtain ⟨r7, hvr7, H⟩ := bind_some H
    refine Eo.call rfl rfl rfl rfl (gdovetailref13_Copy_ok h2 hp4 hvr7) ?_
    rintro a8 σ11 ⟨_, rfl, h9, hp10⟩
    change Hp σ11 (.app a8 46 :: R) at hp10
    refine Eo.val (x := a8) rfl rfl rfl rfl ?_
    refine Eo.nil ?_
    refine Ec.seq ?_
    refine Ec.region ?_
    refine Eo.val (x := a1) rfl rfl rfl rfl ?_
    obtain ⟨r12, hvr12, H⟩ := bind_some H
    refine Eo.call rfl rfl rfl rfl (gdovetailref13_Print_ok h2 hp10 hvr12) ?_
    obtain ⟨r13, r14⟩ := r12
    rintro _ σ16 ⟨rfl, hp15⟩
    refine Eo.val (x := (.tup [(.v (.string r13)), (.v (.int .i64 r14))])) rfl rfl rfl rfl ?_
    refine Eo.val (x := (.v (.string r13))) rfl rfl rfl rfl ?_
    refine Eo.val (x := (.v (.int .i64 r14))) rfl rfl rfl rfl ?_
    refine Eo.val (x := (.v (.string r13))) rfl rfl rfl rfl ?_
    refine Eo.val (x := (.v (.int .i64 r14))) rfl rfl rfl rfl ?_
    refine Eo.nil ?_
    refine Ec.seq ?_
    refine Ec.region ?_
    refine Eo.val (x := a8) rfl rfl rfl rfl ?_
    obtain ⟨r17, hvr17, H⟩ := bind_some H
    refine Eo.call rfl rfl rfl rfl (gasmtext_Print_ok h9 hp15 hvr17) ?_
    obtain ⟨r18, r19⟩ := r17
    rintro _ σ21 ⟨rfl, hp20⟩
    refine Eo.val (x := (.tup [(.v (.string r18)), (.v (.int .i64 r19))])) rfl rfl rfl rfl ?_
    refine Eo.val (x := (.v (.string r18))) rfl rfl rfl rfl ?_
    refine Eo.val (x := (.v (.int .i64 r19))) rfl rfl rfl rfl ?_
    refine Eo.val (x := (.v (.string r18))) rfl rfl rfl rfl ?_
    refine Eo.val (x := (.v (.int .i64 r19))) rfl rfl rfl rfl ?_
    refine Eo.nil ?_
    refine Ec.seq ?_
    refine Ec.seq ?_
    refine Ec.region ?_
    refine Eo.val (x := (.v (.int .i64 r19))) rfl rfl rfl rfl ?_
    refine Eo.val (x := (.v (.int .i64 r14))) rfl rfl rfl rfl ?_
    refine Eo.val (x := (.v (.bool (r19 != r14)))) rfl rfl rfl rfl ?_
    refine Eo.val (x := (.v (.bool (r19 != r14)))) rfl rfl rfl rfl ?_
    refine Eo.cutF 4 [(0, a1), (3, a8), (6, (.v (.string r18))), (7, (.v (.int .i64 r19))), (32, (.v (.bool ((r19 != r14) || (!decide (r18 = r13))))))] ?_ ?_
    · skip
      cases hc24 : (r19 != r14)
      · skip
        refine Eo.val (x := (.v (.string r18))) rfl rfl rfl rfl ?_
        refine Eo.val (x := (.v (.string r13))) rfl rfl rfl rfl ?_
        refine Eo.val (x := (.v (.bool (!decide (r18 = r13))))) (val_b rfl (sne_eq _ _)) rfl rfl rfl ?_
        refine Eo.val (x := (.v (.bool (!decide (r18 = r13))))) rfl rfl rfl rfl ?_
        exact Eo.nil (And.intro rfl (And.intro rfl (.cons rfl (.cons rfl (.cons rfl (.cons rfl (.cons rfl (.nil'))))))))
      · skip
        refine Eo.off rfl rfl rfl ?_
        refine Eo.off rfl rfl rfl ?_
        refine Eo.off rfl rfl rfl ?_
        refine Eo.val (x := (.v (.bool true))) rfl rfl rfl rfl ?_
        exact Eo.nil (And.intro rfl (And.intro rfl (.cons rfl (.cons rfl (.cons rfl (.cons rfl (.cons rfl (.nil'))))))))
    · skip
      refine Eo.val (x := (.v (.bool ((r19 != r14) || (!decide (r18 = r13)))))) rfl rfl rfl rfl ?_
      obtain ⟨x31, hv71, H⟩ := bind_some H
      refine Eo.cutN 5 (J := (fun (x31 : Bool) (x : X) (φ : Fr) (s : St) => x = .normal ∧ (Hp s (R) ∧ Fl [(0, a1), (6, (.v (.string r18))), (7, (.v (.int .i64 r19))), (38, (.v (.bool x31)))] φ)) x31) ?_ ?_
      · have H := hv71
        cases hc32 : ((r19 != r14) || (!decide (r18 = r13)))
        · have H := cond_f hc32 H
          refine Eo.val (x := a8) rfl rfl rfl rfl ?_
          refine Eo.val (x := a1) rfl rfl rfl rfl ?_
          obtain ⟨r33, hvr33, H⟩ := bind_some H
          refine Eo.call rfl rfl rfl rfl (gdovetailref13_Same_ok h9 h2 hp20 hvr33) ?_
          rintro _ σ35 ⟨rfl, hp34⟩
          refine Eo.val (x := (.v (.bool (!r33)))) rfl rfl rfl rfl ?_
          refine Eo.val (x := (.v (.bool (!r33)))) rfl rfl rfl rfl ?_
          refine Eo.nil ?_
          obtain rfl := Option.some.inj H
          exact And.intro rfl ⟨(Hp.drop hp34 0), (.cons rfl (.cons rfl (.cons rfl (.cons rfl (.nil')))))⟩
        · have H := cond_t hc32 H
          refine Eo.off rfl rfl rfl ?_
          refine Eo.off rfl rfl rfl ?_
          refine Eo.off rfl rfl rfl ?_
          refine Eo.off rfl rfl rfl ?_
          refine Eo.val (x := (.v (.bool true))) rfl rfl rfl rfl ?_
          refine Eo.nil ?_
          obtain rfl := Option.some.inj H
          exact And.intro rfl ⟨(Hp.drop hp20 0), (.cons rfl (.cons rfl (.cons rfl (.cons rfl (.nil')))))⟩
      · skip
        intro x φ38 σ37 hJ
        obtain ⟨rfl, hp36, hf39⟩ := hJ
        refine ⟨rfl, Eo.of (F := [(0, a1), (6, (.v (.string r18))), (7, (.v (.int .i64 r19))), (38, (.v (.bool x31)))]) hf39 ?_⟩
        refine Eo.nil ?_
        refine Ec.cond (t := x31) rfl (fun hc40 => ?_) (fun hc40 => ?_)
        · have H := cond_t hc40 H
          refine Ec.seq ?_
          refine Ec.region ?_
          refine Eo.val (x := (.v (.bool false))) rfl rfl rfl rfl ?_
          refine Eo.nil ?_
          obtain rfl := Option.some.inj H
          refine Ec.ret ?_
          refine Ret.mk rfl ?_
          exact ⟨rfl, hp36⟩
        · have H := cond_f hc40 H
          refine Ec.skip ?_
          refine Ec.seq ?_
          refine Ec.seq ?_
          refine Ec.region ?_
          refine Eo.val (x := (.v (.int .i64 r19))) rfl rfl rfl rfl ?_
          refine Eo.val (x := (.v (.bool (r19 != 0)))) rfl rfl rfl rfl ?_
          refine Eo.nil ?_
          refine Ec.cond (t := (r19 != 0)) rfl (fun hc41 => ?_) (fun hc41 => ?_)
          · have H := cond_t hc41 H
            refine Ec.seq ?_
            refine Ec.region ?_
            refine Eo.val (x := (.v (.bool true))) rfl rfl rfl rfl ?_
            refine Eo.nil ?_
            obtain rfl := Option.some.inj H
            refine Ec.ret ?_
            refine Ret.mk rfl ?_
            exact ⟨rfl, hp36⟩
          · have H := cond_f hc41 H
            refine Ec.skip ?_
            refine Ec.seq ?_
            refine Ec.region ?_
            refine Eo.val (x := (.v (.string r18))) rfl rfl rfl rfl ?_
            obtain ⟨r42, hvr42, H⟩ := bind_some H
            refine Eo.call rfl rfl rfl rfl (gasmtext_Parse_ok hp36 hvr42) ?_
            obtain ⟨r43, r44, r45⟩ := r42
            rintro _ σ49 ⟨a46, rfl, h47, hp48⟩
            change Hp σ49 (.app a46 46 :: R) at hp48
            refine Eo.val (x := (.tup [a46, (.v (.int .i64 r44)), (.v (.int .i64 r45))])) rfl rfl rfl rfl ?_
            refine Eo.val (x := a46) rfl rfl rfl rfl ?_
            refine Eo.val (x := (.v (.int .i64 r44))) rfl rfl rfl rfl ?_
            refine Eo.val (x := (.v (.int .i64 r45))) rfl rfl rfl rfl ?_
            refine Eo.val (x := a46) rfl rfl rfl rfl ?_
            refine Eo.val (x := (.v (.int .i64 r44))) rfl rfl rfl rfl ?_
            refine Eo.val (x := (.v (.int .i64 r45))) rfl rfl rfl rfl ?_
            refine Eo.nil ?_
            refine Ec.seq ?_
            refine Ec.region ?_
            refine Eo.val (x := (.v (.int .i64 r45))) rfl rfl rfl rfl ?_
            refine Eo.val (x := (.v (.bool (r45 == 0)))) rfl rfl rfl rfl ?_
            refine Eo.val (x := (.v (.bool (r45 == 0)))) rfl rfl rfl rfl ?_
            refine Eo.cutF 3 [(0, a1), (8, a46), (52, (.v (.bool ((r45 == 0) && (r44 == 0)))))] ?_ ?_
            · skip
              cases hc52 : (r45 == 0)
              · skip
                refine Eo.off rfl rfl rfl ?_
                refine Eo.off rfl rfl rfl ?_
                refine Eo.val (x := (.v (.bool false))) rfl rfl rfl rfl ?_
                exact Eo.nil (And.intro rfl (And.intro rfl (.cons rfl (.cons rfl (.cons rfl (.nil'))))))
              · skip
                refine Eo.val (x := (.v (.int .i64 r44))) rfl rfl rfl rfl ?_
                refine Eo.val (x := (.v (.bool (r44 == 0)))) rfl rfl rfl rfl ?_
                refine Eo.val (x := (.v (.bool (r44 == 0)))) rfl rfl rfl rfl ?_
                exact Eo.nil (And.intro rfl (And.intro rfl (.cons rfl (.cons rfl (.cons rfl (.nil'))))))
            · skip
              refine Eo.val (x := (.v (.bool ((r45 == 0) && (r44 == 0))))) rfl rfl rfl rfl ?_
              obtain ⟨x59, hv69, H⟩ := bind_some H
              refine Eo.cutN 4 (J := (fun (x59 : Bool) (x : X) (φ : Fr) (s : St) => x = .normal ∧ (Hp s (R) ∧ Fl [(57, (.v (.bool x59)))] φ)) x59) ?_ ?_
              · have H := hv69
                cases hc60 : ((r45 == 0) && (r44 == 0))
                · have H := cond_f hc60 H
                  refine Eo.off rfl rfl rfl ?_
                  refine Eo.off rfl rfl rfl ?_
                  refine Eo.off rfl rfl rfl ?_
                  refine Eo.val (x := (.v (.bool false))) rfl rfl rfl rfl ?_
                  refine Eo.nil ?_
                  obtain rfl := Option.some.inj H
                  exact And.intro rfl ⟨(Hp.drop hp48 0), (.cons rfl (.nil'))⟩
                · have H := cond_t hc60 H
                  refine Eo.val (x := a46) rfl rfl rfl rfl ?_
                  refine Eo.val (x := a1) rfl rfl rfl rfl ?_
                  obtain ⟨r61, hvr61, H⟩ := bind_some H
                  refine Eo.call rfl rfl rfl rfl (gdovetailref13_Same_ok h47 h2 hp48 hvr61) ?_
                  rintro _ σ63 ⟨rfl, hp62⟩
                  refine Eo.val (x := (.v (.bool r61))) rfl rfl rfl rfl ?_
                  refine Eo.nil ?_
                  obtain rfl := Option.some.inj H
                  exact And.intro rfl ⟨(Hp.drop hp62 0), (.cons rfl (.nil'))⟩
              · skip
                intro x φ66 σ65 hJ
                obtain ⟨rfl, hp64, hf67⟩ := hJ
                refine ⟨rfl, Eo.of (F := [(57, (.v (.bool x59)))]) hf67 ?_⟩
                refine Eo.val (x := (.v (.bool x59))) rfl rfl rfl rfl ?_
                refine Eo.nil ?_
                obtain rfl := Option.some.inj H
                refine Ec.ret ?_
                refine Ret.mk rfl ?_
                exact ⟨rfl, hp64⟩

end Go.DM
