/- Typed functions of the program's functions, and the walks that show that the calls come to them. No condition. -/
import Derived.Test.YtamnkpmfnphjlaaDoorRuleT
import Derived.Test.YtamnkpmfnphjlaaDoorWalkT2
namespace Go.DM
open Go Go.Proofs
set_option maxRecDepth 100000
set_option maxHeartbeats 1000000

def gasmtext_sound_1 (n : Nat) (p0 : Int) : Option (Bool) := (((cond (decide (p0 > 126)) (some true) (((gasmtext_word n (IntKind.wrap .u8 p0)).bind fun r7 => some (!r7)))) : Option (Bool)).bind fun x5 => some x5)

def gasmtext_sound_1_post (R : List Res) (r : Bool) (x : A) (s : St) : Prop := x = (.v (.bool r)) ∧ Hp s (R)

theorem gasmtext_sound_1_ok {n : Nat} {p0 : Int} {R : List Res} {σ : St} (hp : Hp σ R) {r : Bool} (H : gasmtext_sound_1 n p0 = some r) : Ca cfg 62 [(.v (.int .i32 p0))] σ (gasmtext_sound_1_post R r) := by
  unfold gasmtext_sound_1 at H
  refine Ca.enterL (G := [(0, (.v (.int .i32 p0)))]) Tryd.func62 rfl rfl rfl rfl ?_
  refine Ec.seq ?_
  refine Ec.region ?_
  refine Eo.val (x := (.v (.bool false))) rfl rfl rfl rfl ?_
  refine Eo.nil ?_
  refine Ec.seq ?_
  refine Ec.region ?_
  refine Eo.val (x := (.v (.int .i32 p0))) rfl rfl rfl rfl ?_
  refine Eo.val (x := (.v (.bool (decide (p0 > 126))))) rfl rfl rfl rfl ?_
  refine Eo.val (x := (.v (.bool (decide (p0 > 126))))) rfl rfl rfl rfl ?_
  obtain ⟨x5, hv15, H⟩ := bind_some H
  refine Eo.cutN 5 (J := (fun (x5 : Bool) (x : X) (φ : Fr) (s : St) => x = .normal ∧ (Hp s (R) ∧ Fl [(2, (.v (.bool false))), (10, (.v (.bool x5)))] φ)) x5) ?_ ?_
  · have H := hv15
    cases hc6 : (decide (p0 > 126))
    · have H := cond_f hc6 H
      refine Eo.val (x := (.v (.int .i32 p0))) rfl rfl rfl rfl ?_
      refine Eo.val (x := (.v (.int .u8 (IntKind.wrap .u8 p0)))) rfl rfl rfl rfl ?_
      obtain ⟨r7, hvr7, H⟩ := bind_some H
      refine Eo.call rfl rfl rfl rfl (gasmtext_word_ok hp hvr7) ?_
      rintro _ σ9 ⟨rfl, hp8⟩
      refine Eo.val (x := (.v (.bool (!r7)))) rfl rfl rfl rfl ?_
      refine Eo.val (x := (.v (.bool (!r7)))) rfl rfl rfl rfl ?_
      refine Eo.nil ?_
      obtain rfl := Option.some.inj H
      exact And.intro rfl ⟨hp8, (.cons rfl (.cons rfl (.nil')))⟩
    · have H := cond_t hc6 H
      refine Eo.off rfl rfl rfl ?_
      refine Eo.off rfl rfl rfl ?_
      refine Eo.off rfl rfl rfl ?_
      refine Eo.off rfl rfl rfl ?_
      refine Eo.val (x := (.v (.bool true))) rfl rfl rfl rfl ?_
      refine Eo.nil ?_
      obtain rfl := Option.some.inj H
      exact And.intro rfl ⟨hp, (.cons rfl (.cons rfl (.nil')))⟩
  · skip
    intro x φ12 σ11 hJ
    obtain ⟨rfl, hp10, hf13⟩ := hJ
    refine ⟨rfl, Eo.of (F := [(2, (.v (.bool false))), (10, (.v (.bool x5)))]) hf13 ?_⟩
    refine Eo.val (x := (.v (.bool x5))) rfl rfl rfl rfl ?_
    refine Eo.nil ?_
    obtain rfl := Option.some.inj H
    refine Ec.ret ?_
    refine Ret.mk rfl ?_
    exact ⟨rfl, hp10⟩

def gstrings_indexFunc_62_L1 (N : Nat) (p0 : ByteArray) (p2 : Bool) : Nat → Nat → Option (LR Unit Int)
  | 0, _ => none
  | m + 1, y11 => (cond (decide (y11 < p0.size)) (((gasmtext_sound_1 N (((Utf8.decode p0 y11).1 : Nat) : Int)).bind fun r21 => (cond (r21 == p2) (some (.ret ((y11 : Nat) : Int))) (gstrings_indexFunc_62_L1 N p0 p2 m (y11 + (Utf8.decode p0 y11).2))))) (some (.out ())))

def gstrings_indexFunc_62 (n : Nat) (p0 : ByteArray) (p2 : Bool) : Option (Int) := ((gstrings_indexFunc_62_L1 n p0 p2 n 0).bind fun v => match v with | .out _ => some (-1) | .ret r32 => some r32)

def gstrings_indexFunc_62_post (R : List Res) (r : Int) (x : A) (s : St) : Prop := x = (.v (.int .i64 r)) ∧ Hp s (R)

theorem gstrings_indexFunc_62_ok {n : Nat} {p0 : ByteArray} {p2 : Bool} {R : List Res} {σ : St} (hp : Hp σ R) {r : Int} (H : gstrings_indexFunc_62 n p0 p2 = some r) : Ca cfg 76 [(.v (.string p0)), (.fn (.func 62) [] []), (.v (.bool p2))] σ (gstrings_indexFunc_62_post R r) := by
  unfold gstrings_indexFunc_62 at H
  refine Ca.enterL (G := [(0, (.v (.string p0))), (1, (.fn (.func 62) [] [])), (2, (.v (.bool p2)))]) Tryd.func76 rfl rfl rfl rfl ?_
  refine Ec.seq ?_
  refine Ec.region ?_
  refine Eo.val (x := (.v (.int .i64 0))) rfl rfl rfl rfl ?_
  refine Eo.nil ?_
  refine Ec.seq ?_
  refine Ec.seq ?_
  refine Ec.region ?_
  refine Eo.val (x := (.v (.string p0))) rfl rfl rfl rfl ?_
  refine Eo.range hp rfl Tryd.underlying9 rfl rfl rfl rfl ?_
  intro b1 σ3 hp2
  refine Eo.nil ?_
  refine Ec.block ?_
  obtain ⟨v26, hv27, H⟩ := bind_some H
  refine Ec.cut (J := (fun (v : LR Unit Int) (x : X) (φ : Fr) (s : St) => match v with | .out _ => x = (.exit 0) ∧ (Hp s (R) ∧ Fl [] φ) | .ret r => x = .ret ∧ Ret cfg Tryd.f76 (gstrings_indexFunc_62_post R r) .ret φ s) v26) (Ec.weak (.cons rfl (.cons rfl (.cons rfl (.nil')))) (Ec.loopF (f := (fun m (i : Nat × Unit) => gstrings_indexFunc_62_L1 n p0 p2 m i.1)) (G := (fun (i : Nat × Unit) => ([(1, (.fn (.func 62) [] [])), (2, (.v (.bool p2))), (10, (.ptr b1 0))] : List (Nat × A)))) (I := (fun (i : Nat × Unit) (s : St) => Hp s (.blk b1 (.siter p0 i.1) :: R))) (J := (fun (v : LR Unit Int) (x : X) (φ : Fr) (s : St) => match v with | .out _ => x = (.exit 0) ∧ (Hp s (R) ∧ Fl [] φ) | .ret r => x = .ret ∧ Ret cfg Tryd.f76 (gstrings_indexFunc_62_post R r) .ret φ s)) (fun _ => rfl) ?_ n (0, ()) _ v26 hp2 hv27)) ?_
  · rintro m ⟨y11, _⟩ σ0 v hp0 H ih
    change gstrings_indexFunc_62_L1 n p0 p2 (m + 1) y11 = some v at H
    rw [gstrings_indexFunc_62_L1] at H
    change Ec _ _ _ [(1, (.fn (.func 62) [] [])), (2, (.v (.bool p2))), (10, (.ptr b1 0))] σ0 _
    refine Ec.seq ?_
    refine Ec.region ?_
    refine Eo.next hp0 0 rfl rfl rfl rfl rfl rfl (fun hc25 σ20 hp19 => ?_) (fun hc25 => ?_)
    · have H := cond_t hc25 H
      change Hp σ20 (.blk b1 (.siter p0 (y11 + (Utf8.decode p0 y11).2)) :: R) at hp19
      refine Eo.val (x := (.v (.bool true))) rfl rfl rfl rfl ?_
      refine Eo.nil ?_
      refine Ec.seq ?_
      refine Ec.cond (t := true) rfl (fun h => ?_) (fun h => nomatch h)
      refine Ec.skip ?_
      refine Ec.block ?_
      refine Ec.seq ?_
      refine Ec.region ?_
      refine Eo.val (x := (.v (.int .i64 ((y11 : Nat) : Int)))) rfl rfl rfl rfl ?_
      refine Eo.val (x := (.v (.int .i32 (((Utf8.decode p0 y11).1 : Nat) : Int)))) rfl rfl rfl rfl ?_
      refine Eo.val (x := (.v (.int .i64 ((y11 : Nat) : Int)))) rfl rfl rfl rfl ?_
      refine Eo.val (x := (.v (.int .i32 (((Utf8.decode p0 y11).1 : Nat) : Int)))) rfl rfl rfl rfl ?_
      refine Eo.nil ?_
      refine Ec.seq ?_
      refine Ec.region ?_
      refine Eo.val (x := (.fn (.func 62) [] [])) rfl rfl rfl rfl ?_
      refine Eo.val (x := (.v (.int .i32 (((Utf8.decode p0 y11).1 : Nat) : Int)))) rfl rfl rfl rfl ?_
      obtain ⟨r21, hvr21, H⟩ := bind_some H
      refine Eo.call rfl rfl rfl rfl (gasmtext_sound_1_ok hp19 hvr21) ?_
      rintro _ σ23 ⟨rfl, hp22⟩
      refine Eo.val (x := (.v (.bool p2))) rfl rfl rfl rfl ?_
      refine Eo.val (x := (.v (.bool (r21 == p2)))) rfl rfl rfl rfl ?_
      refine Eo.nil ?_
      refine Ec.cond (t := (r21 == p2)) rfl (fun hc24 => ?_) (fun hc24 => ?_)
      · have H := cond_t hc24 H
        refine Ec.seq ?_
        refine Ec.region ?_
        refine Eo.val (x := (.v (.int .i64 ((y11 : Nat) : Int)))) rfl rfl rfl rfl ?_
        refine Eo.val (x := (.v (.int .i64 ((y11 : Nat) : Int)))) rfl rfl rfl rfl ?_
        refine Eo.nil ?_
        obtain rfl := Option.some.inj H
        refine Ec.ret ?_
        refine And.intro rfl (Ret.mk rfl ?_)
        exact ⟨rfl, (Hp.drop hp22 0)⟩
      · have H := cond_f hc24 H
        refine Ec.skip ?_
        exact Ec.of (.cons rfl (.cons rfl (.cons rfl (.nil')))) (ih ((y11 + (Utf8.decode p0 y11).2), ()) _ hp22 H)
    · have H := cond_f hc25 H
      refine Eo.val (x := (.v (.bool false))) rfl rfl rfl rfl ?_
      refine Eo.nil ?_
      refine Ec.seq ?_
      refine Ec.cond (t := false) rfl (fun h => nomatch h) (fun h => ?_)
      refine Ec.exit ?_
      obtain rfl := Option.some.inj H
      exact And.intro rfl ⟨(Hp.drop hp0 0), (.nil')⟩
  · rcases v26 with _ | r32
    · intro x φ30 σ29 hJ
      obtain ⟨rfl, hp28, hf31⟩ := hJ
      refine Ec.of (F := []) hf31 ?_
      refine Ec.seq ?_
      refine Ec.region ?_
      refine Eo.val (x := (.v (.int .i64 (-1)))) rfl rfl rfl rfl ?_
      refine Eo.nil ?_
      obtain rfl := Option.some.inj H
      refine Ec.ret ?_
      refine Ret.mk rfl ?_
      exact ⟨rfl, hp28⟩
    · intro x φ33 σ34 hJ
      obtain rfl := Option.some.inj H
      obtain ⟨rfl, hr⟩ := hJ
      exact hr

def gstrings_IndexFunc_62 (n : Nat) (p0 : ByteArray) : Option (Int) := ((gstrings_indexFunc_62 n p0 true).bind fun r1 => some r1)

def gstrings_IndexFunc_62_post (R : List Res) (r : Int) (x : A) (s : St) : Prop := x = (.v (.int .i64 r)) ∧ Hp s (R)

theorem gstrings_IndexFunc_62_ok {n : Nat} {p0 : ByteArray} {R : List Res} {σ : St} (hp : Hp σ R) {r : Int} (H : gstrings_IndexFunc_62 n p0 = some r) : Ca cfg 61 [(.v (.string p0)), (.fn (.func 62) [] [])] σ (gstrings_IndexFunc_62_post R r) := by
  unfold gstrings_IndexFunc_62 at H
  refine Ca.enterL (G := [(0, (.v (.string p0))), (1, (.fn (.func 62) [] []))]) Tryd.func61 rfl rfl rfl rfl ?_
  refine Ec.seq ?_
  refine Ec.region ?_
  refine Eo.val (x := (.v (.int .i64 0))) rfl rfl rfl rfl ?_
  refine Eo.nil ?_
  refine Ec.seq ?_
  refine Ec.region ?_
  refine Eo.val (x := (.v (.string p0))) rfl rfl rfl rfl ?_
  refine Eo.val (x := (.fn (.func 62) [] [])) rfl rfl rfl rfl ?_
  obtain ⟨r1, hvr1, H⟩ := bind_some H
  refine Eo.call rfl rfl rfl rfl (gstrings_indexFunc_62_ok hp hvr1) ?_
  rintro _ σ3 ⟨rfl, hp2⟩
  change Hp σ3 (R) at hp2
  refine Eo.val (x := (.v (.int .i64 r1))) rfl rfl rfl rfl ?_
  refine Eo.nil ?_
  obtain rfl := Option.some.inj H
  refine Ec.ret ?_
  refine Ret.mk rfl ?_
  exact ⟨rfl, hp2⟩

def gasmtext_sound (n : Nat) (p0 : TTok) : Option (Bool) := (cond (p0.f_Kind == 1) ((((cond (!decide (p0.f_Text = (ByteArray.mk #[]))) (((gstrings_IndexFunc_62 n p0.f_Text).bind fun r11 => some (decide (r11 < 0)))) (some false)) : Option (Bool)).bind fun x9 => some x9)) ((cond (p0.f_Kind == 2) ((((cond (((p0.f_Text.size : Nat) : Int) == 1) (((containsT (ByteArray.mk #[40, 41, 91, 93, 43, 45, 42, 44, 58, 37]) p0.f_Text).bind fun r27 => some r27)) (some false)) : Option (Bool)).bind fun x25 => some x25)) (some (p0.f_Kind == 3)))))

def gasmtext_sound_post (R : List Res) (r : Bool) (x : A) (s : St) : Prop := x = (.v (.bool r)) ∧ Hp s (R)

theorem gasmtext_sound_ok {n : Nat} {p0 : TTok} {R : List Res} {σ : St} (hp : Hp σ R) {r : Bool} (H : gasmtext_sound n p0 = some r) : Ca cfg 35 [(.agg [(.v (.int .i64 p0.f_Kind)), (.v (.string p0.f_Text))])] σ (gasmtext_sound_post R r) := by
  unfold gasmtext_sound at H
  refine Ca.enterL (G := [(0, (.agg [(.v (.int .i64 p0.f_Kind)), (.v (.string p0.f_Text))]))]) Tryd.func35 rfl rfl rfl rfl ?_
  refine Ec.seq ?_
  refine Ec.region ?_
  refine Eo.box hp rfl rfl rfl rfl rfl rfl rfl ?_
  intro b1 σ3 hp2
  refine Eo.val (x := (.v (.bool false))) rfl rfl rfl rfl ?_
  refine Eo.nil ?_
  refine Ec.seq ?_
  refine Ec.seq ?_
  refine Ec.region ?_
  refine Eo.val (x := (.ptr b1 0)) rfl rfl rfl rfl ?_
  refine Eo.val (x := (.v (.int .i64 p0.f_Kind))) (op_loadB hp2 0 rfl rfl rfl rfl) rfl rfl rfl ?_
  refine Eo.nil ?_
  refine Ec.block ?_
  refine Ec.seq ?_
  refine Ec.region ?_
  refine Eo.val (x := (.v (.bool (p0.f_Kind == 1)))) rfl rfl rfl rfl ?_
  refine Eo.val (x := (.v (.bool (p0.f_Kind == 1)))) rfl rfl rfl rfl ?_
  refine Eo.nil ?_
  refine Ec.cond (t := (p0.f_Kind == 1)) rfl (fun hc4 => ?_) (fun hc4 => ?_)
  · have H := cond_t hc4 H
    refine Ec.seq ?_
    refine Ec.region ?_
    refine Eo.val (x := (.ptr b1 1)) rfl rfl rfl rfl ?_
    refine Eo.val (x := (.v (.string p0.f_Text))) (op_loadB hp2 0 rfl rfl rfl rfl) rfl rfl rfl ?_
    refine Eo.val (x := (.v (.bool (!decide (p0.f_Text = (ByteArray.mk #[])))))) (val_b rfl (sne_eq _ _)) rfl rfl rfl ?_
    refine Eo.val (x := (.v (.bool (!decide (p0.f_Text = (ByteArray.mk #[])))))) rfl rfl rfl rfl ?_
    obtain ⟨x9, hv19, H⟩ := bind_some H
    refine Eo.cutN 5 (J := (fun (x9 : Bool) (x : X) (φ : Fr) (s : St) => x = .normal ∧ (Hp s (R) ∧ Fl [(2, (.v (.bool false))), (15, (.v (.bool x9)))] φ)) x9) ?_ ?_
    · have H := hv19
      cases hc10 : (!decide (p0.f_Text = (ByteArray.mk #[])))
      · have H := cond_f hc10 H
        refine Eo.off rfl rfl rfl ?_
        refine Eo.off rfl rfl rfl ?_
        refine Eo.off rfl rfl rfl ?_
        refine Eo.off rfl rfl rfl ?_
        refine Eo.val (x := (.v (.bool false))) rfl rfl rfl rfl ?_
        refine Eo.nil ?_
        obtain rfl := Option.some.inj H
        exact And.intro rfl ⟨(Hp.drop hp2 0), (.cons rfl (.cons rfl (.nil')))⟩
      · have H := cond_t hc10 H
        refine Eo.val (x := (.ptr b1 1)) rfl rfl rfl rfl ?_
        refine Eo.val (x := (.v (.string p0.f_Text))) (op_loadB hp2 0 rfl rfl rfl rfl) rfl rfl rfl ?_
        obtain ⟨r11, hvr11, H⟩ := bind_some H
        refine Eo.call rfl rfl rfl rfl (gstrings_IndexFunc_62_ok hp2 hvr11) ?_
        rintro _ σ13 ⟨rfl, hp12⟩
        change Hp σ13 (.blk b1 (.cells [(.v (.int .i64 p0.f_Kind)), (.v (.string p0.f_Text))] 48) :: R) at hp12
        refine Eo.val (x := (.v (.bool (decide (r11 < 0))))) rfl rfl rfl rfl ?_
        refine Eo.val (x := (.v (.bool (decide (r11 < 0))))) rfl rfl rfl rfl ?_
        refine Eo.nil ?_
        obtain rfl := Option.some.inj H
        exact And.intro rfl ⟨(Hp.drop hp12 0), (.cons rfl (.cons rfl (.nil')))⟩
    · skip
      intro x φ16 σ15 hJ
      obtain ⟨rfl, hp14, hf17⟩ := hJ
      refine ⟨rfl, Eo.of (F := [(2, (.v (.bool false))), (15, (.v (.bool x9)))]) hf17 ?_⟩
      refine Eo.val (x := (.v (.bool x9))) rfl rfl rfl rfl ?_
      refine Eo.nil ?_
      obtain rfl := Option.some.inj H
      refine Ec.ret ?_
      refine Ret.mk rfl ?_
      exact ⟨rfl, hp14⟩
  · have H := cond_f hc4 H
    refine Ec.seq ?_
    refine Ec.region ?_
    refine Eo.val (x := (.v (.bool (p0.f_Kind == 2)))) rfl rfl rfl rfl ?_
    refine Eo.val (x := (.v (.bool (p0.f_Kind == 2)))) rfl rfl rfl rfl ?_
    refine Eo.nil ?_
    refine Ec.cond (t := (p0.f_Kind == 2)) rfl (fun hc20 => ?_) (fun hc20 => ?_)
    · have H := cond_t hc20 H
      refine Ec.seq ?_
      refine Ec.region ?_
      refine Eo.val (x := (.ptr b1 1)) rfl rfl rfl rfl ?_
      refine Eo.val (x := (.v (.string p0.f_Text))) (op_loadB hp2 0 rfl rfl rfl rfl) rfl rfl rfl ?_
      refine Eo.val (x := (.v (.int .i64 ((p0.f_Text.size : Nat) : Int)))) (op_len rfl rfl rfl rfl rfl Tryd.underlying9) rfl rfl rfl ?_
      refine Eo.val (x := (.v (.bool (((p0.f_Text.size : Nat) : Int) == 1)))) rfl rfl rfl rfl ?_
      refine Eo.val (x := (.v (.bool (((p0.f_Text.size : Nat) : Int) == 1)))) rfl rfl rfl rfl ?_
      obtain ⟨x25, hv35, H⟩ := bind_some H
      refine Eo.cutN 4 (J := (fun (x25 : Bool) (x : X) (φ : Fr) (s : St) => x = .normal ∧ (Hp s (R) ∧ Fl [(2, (.v (.bool false))), (26, (.v (.bool x25)))] φ)) x25) ?_ ?_
      · have H := hv35
        cases hc26 : (((p0.f_Text.size : Nat) : Int) == 1)
        · have H := cond_f hc26 H
          refine Eo.off rfl rfl rfl ?_
          refine Eo.off rfl rfl rfl ?_
          refine Eo.off rfl rfl rfl ?_
          refine Eo.val (x := (.v (.bool false))) rfl rfl rfl rfl ?_
          refine Eo.nil ?_
          obtain rfl := Option.some.inj H
          exact And.intro rfl ⟨(Hp.drop hp2 0), (.cons rfl (.cons rfl (.nil')))⟩
        · have H := cond_t hc26 H
          refine Eo.val (x := (.ptr b1 1)) rfl rfl rfl rfl ?_
          refine Eo.val (x := (.v (.string p0.f_Text))) (op_loadB hp2 0 rfl rfl rfl rfl) rfl rfl rfl ?_
          obtain ⟨r27, hvr27, H⟩ := bind_some H
          refine Eo.call rfl rfl rfl rfl (prim28_ok hp2 hvr27) ?_
          rintro _ σ29 ⟨rfl, hp28⟩
          refine Eo.val (x := (.v (.bool r27))) rfl rfl rfl rfl ?_
          refine Eo.nil ?_
          obtain rfl := Option.some.inj H
          exact And.intro rfl ⟨(Hp.drop hp28 0), (.cons rfl (.cons rfl (.nil')))⟩
      · skip
        intro x φ32 σ31 hJ
        obtain ⟨rfl, hp30, hf33⟩ := hJ
        refine ⟨rfl, Eo.of (F := [(2, (.v (.bool false))), (26, (.v (.bool x25)))]) hf33 ?_⟩
        refine Eo.val (x := (.v (.bool x25))) rfl rfl rfl rfl ?_
        refine Eo.nil ?_
        obtain rfl := Option.some.inj H
        refine Ec.ret ?_
        refine Ret.mk rfl ?_
        exact ⟨rfl, hp30⟩
    · have H := cond_f hc20 H
      refine Ec.skip ?_
      refine Ec.seq ?_
      refine Ec.region ?_
      refine Eo.val (x := (.ptr b1 0)) rfl rfl rfl rfl ?_
      refine Eo.val (x := (.v (.int .i64 p0.f_Kind))) (op_loadB hp2 0 rfl rfl rfl rfl) rfl rfl rfl ?_
      refine Eo.val (x := (.v (.bool (p0.f_Kind == 3)))) rfl rfl rfl rfl ?_
      refine Eo.val (x := (.v (.bool (p0.f_Kind == 3)))) rfl rfl rfl rfl ?_
      refine Eo.nil ?_
      obtain rfl := Option.some.inj H
      refine Ec.ret ?_
      refine Ret.mk rfl ?_
      exact ⟨rfl, (Hp.drop hp2 0)⟩

def gasmtext_Print_1 (n : Nat) (p0 : ByteArray) : Option (Bool) := (((cond (!decide (p0 = (ByteArray.mk #[]))) (((gasmtext_sound n (TTok.mk 1 p0)).bind fun r7 => some r7)) (some false)) : Option (Bool)).bind fun x5 => (((cond x5 (((gasmtext_isName n (TTok.mk 1 p0)).bind fun r20 => some r20)) (some false)) : Option (Bool)).bind fun x18 => some x18))

def gasmtext_Print_1_post (R : List Res) (r : Bool) (x : A) (s : St) : Prop := x = (.v (.bool r)) ∧ Hp s (R)

theorem gasmtext_Print_1_ok {n : Nat} {p0 : ByteArray} {R : List Res} {σ : St} (hp : Hp σ R) {r : Bool} (H : gasmtext_Print_1 n p0 = some r) : Ca cfg 34 [(.v (.string p0))] σ (gasmtext_Print_1_post R r) := by
  unfold gasmtext_Print_1 at H
  refine Ca.enterL (G := [(0, (.v (.string p0)))]) Tryd.func34 rfl rfl rfl rfl ?_
  refine Ec.seq ?_
  refine Ec.region ?_
  refine Eo.val (x := (.v (.bool false))) rfl rfl rfl rfl ?_
  refine Eo.nil ?_
  refine Ec.seq ?_
  refine Ec.region ?_
  refine Eo.val (x := (.v (.string p0))) rfl rfl rfl rfl ?_
  refine Eo.val (x := (.v (.bool (!decide (p0 = (ByteArray.mk #[])))))) (val_b rfl (sne_eq _ _)) rfl rfl rfl ?_
  refine Eo.val (x := (.v (.bool (!decide (p0 = (ByteArray.mk #[])))))) rfl rfl rfl rfl ?_
  obtain ⟨x5, hv30, H⟩ := bind_some H
  refine Eo.cutN 4 (J := (fun (x5 : Bool) (x : X) (φ : Fr) (s : St) => x = .normal ∧ (Hp s (R) ∧ Fl [(0, (.v (.string p0))), (2, (.v (.bool false))), (9, (.v (.bool x5)))] φ)) x5) ?_ ?_
  · have H := hv30
    cases hc6 : (!decide (p0 = (ByteArray.mk #[])))
    · have H := cond_f hc6 H
      refine Eo.off rfl rfl rfl ?_
      refine Eo.off rfl rfl rfl ?_
      refine Eo.off rfl rfl rfl ?_
      refine Eo.val (x := (.v (.bool false))) rfl rfl rfl rfl ?_
      refine Eo.nil ?_
      obtain rfl := Option.some.inj H
      exact And.intro rfl ⟨hp, (.cons rfl (.cons rfl (.cons rfl (.nil'))))⟩
    · have H := cond_t hc6 H
      refine Eo.val (x := (.v (.string p0))) rfl rfl rfl rfl ?_
      refine Eo.val (x := (.agg [(.v (.int .i64 1)), (.v (.string p0))])) (op_build (lay_cons rfl rfl rfl rfl rfl (lay_cons rfl rfl rfl rfl rfl lay_nil)) rfl (parts_cons rfl rfl (parts_cons rfl rfl rfl)) Tryd.underlying48 rfl rfl) rfl rfl rfl ?_
      obtain ⟨r7, hvr7, H⟩ := bind_some H
      refine Eo.call rfl rfl rfl rfl (gasmtext_sound_ok hp hvr7) ?_
      rintro _ σ9 ⟨rfl, hp8⟩
      refine Eo.val (x := (.v (.bool r7))) rfl rfl rfl rfl ?_
      refine Eo.nil ?_
      obtain rfl := Option.some.inj H
      exact And.intro rfl ⟨hp8, (.cons rfl (.cons rfl (.cons rfl (.nil'))))⟩
  · skip
    intro x φ12 σ11 hJ
    obtain ⟨rfl, hp10, hf13⟩ := hJ
    refine ⟨rfl, Eo.of (F := [(0, (.v (.string p0))), (2, (.v (.bool false))), (9, (.v (.bool x5)))]) hf13 ?_⟩
    refine Eo.val (x := (.v (.bool x5))) rfl rfl rfl rfl ?_
    obtain ⟨x18, hv28, H⟩ := bind_some H
    refine Eo.cutN 4 (J := (fun (x18 : Bool) (x : X) (φ : Fr) (s : St) => x = .normal ∧ (Hp s (R) ∧ Fl [(2, (.v (.bool false))), (14, (.v (.bool x18)))] φ)) x18) ?_ ?_
    · have H := hv28
      cases hc19 : x5
      · have H := cond_f hc19 H
        refine Eo.off rfl rfl rfl ?_
        refine Eo.off rfl rfl rfl ?_
        refine Eo.off rfl rfl rfl ?_
        refine Eo.val (x := (.v (.bool false))) rfl rfl rfl rfl ?_
        refine Eo.nil ?_
        obtain rfl := Option.some.inj H
        exact And.intro rfl ⟨hp10, (.cons rfl (.cons rfl (.nil')))⟩
      · have H := cond_t hc19 H
        refine Eo.val (x := (.v (.string p0))) rfl rfl rfl rfl ?_
        refine Eo.val (x := (.agg [(.v (.int .i64 1)), (.v (.string p0))])) (op_build (lay_cons rfl rfl rfl rfl rfl (lay_cons rfl rfl rfl rfl rfl lay_nil)) rfl (parts_cons rfl rfl (parts_cons rfl rfl rfl)) Tryd.underlying48 rfl rfl) rfl rfl rfl ?_
        obtain ⟨r20, hvr20, H⟩ := bind_some H
        refine Eo.call rfl rfl rfl rfl (gasmtext_isName_ok hp10 hvr20) ?_
        rintro _ σ22 ⟨rfl, hp21⟩
        refine Eo.val (x := (.v (.bool r20))) rfl rfl rfl rfl ?_
        refine Eo.nil ?_
        obtain rfl := Option.some.inj H
        exact And.intro rfl ⟨hp21, (.cons rfl (.cons rfl (.nil')))⟩
    · skip
      intro x φ25 σ24 hJ
      obtain ⟨rfl, hp23, hf26⟩ := hJ
      refine ⟨rfl, Eo.of (F := [(2, (.v (.bool false))), (14, (.v (.bool x18)))]) hf26 ?_⟩
      refine Eo.val (x := (.v (.bool x18))) rfl rfl rfl rfl ?_
      refine Eo.nil ?_
      obtain rfl := Option.some.inj H
      refine Ec.ret ?_
      refine Ret.mk rfl ?_
      exact ⟨rfl, hp23⟩

def gasmtext_Print_2_34 (n : Nat) (p0 : ByteArray) : Option (Bool) := ((gasmtext_Print_1 n p0).bind fun r1 => some (!r1))

def gasmtext_Print_2_34_post (b1 : Nat) (R : List Res) (r : Bool) (x : A) (s : St) : Prop := x = (.v (.bool r)) ∧ Hp s (.blk b1 (.cells [(.fn (.func 34) [] [])] 30) :: R)

theorem gasmtext_Print_2_34_ok {n : Nat} {b1 : Nat} {p0 : ByteArray} {R : List Res} {σ : St} (hp : Hp σ (.blk b1 (.cells [(.fn (.func 34) [] [])] 30) :: R)) {r : Bool} (H : gasmtext_Print_2_34 n p0 = some r) : Ca cfg 38 [(.v (.string p0)), (.ptr b1 0)] σ (gasmtext_Print_2_34_post b1 R r) := by
  unfold gasmtext_Print_2_34 at H
  refine Ca.enterL (G := [(0, (.v (.string p0))), (1, (.ptr b1 0))]) Tryd.func38 rfl rfl rfl rfl ?_
  refine Ec.seq ?_
  refine Ec.region ?_
  refine Eo.val (x := (.v (.bool false))) rfl rfl rfl rfl ?_
  refine Eo.nil ?_
  refine Ec.seq ?_
  refine Ec.region ?_
  refine Eo.val (x := (.fn (.func 34) [] [])) (op_loadB hp 0 rfl rfl rfl rfl) rfl rfl rfl ?_
  refine Eo.val (x := (.v (.string p0))) rfl rfl rfl rfl ?_
  obtain ⟨r1, hvr1, H⟩ := bind_some H
  refine Eo.call rfl rfl rfl rfl (gasmtext_Print_1_ok hp hvr1) ?_
  rintro _ σ3 ⟨rfl, hp2⟩
  refine Eo.val (x := (.v (.bool (!r1)))) rfl rfl rfl rfl ?_
  refine Eo.val (x := (.v (.bool (!r1)))) rfl rfl rfl rfl ?_
  refine Eo.nil ?_
  obtain rfl := Option.some.inj H
  refine Ec.ret ?_
  refine Ret.mk rfl ?_
  exact ⟨rfl, hp2⟩

def gslices_IndexFunc_63_38_34_L1 (N : Nat) (p0 : (List ByteArray)) : Nat → Int → Option (LR Unit Int)
  | 0, _ => none
  | m + 1, y12 => (cond (decide (y12 < ((p0.length : Nat) : Int))) (((atL p0 y12).bind fun x23 => ((gasmtext_Print_2_34 N x23).bind fun r27 => (cond r27 (some (.ret y12)) (gslices_IndexFunc_63_38_34_L1 N p0 m (IntKind.wrap .i64 (y12 + 1))))))) (some (.out ())))

def gslices_IndexFunc_63_38_34 (n : Nat) (p0 : (List ByteArray)) : Option (Int) := ((gslices_IndexFunc_63_38_34_L1 n p0 n 0).bind fun v => match v with | .out _ => some (-1) | .ret r37 => some r37)

def gslices_IndexFunc_63_38_34_post (b1_0 : Nat) (R : List Res) (r : Int) (x : A) (s : St) : Prop := x = (.v (.int .i64 r)) ∧ Hp s (.blk b1_0 (.cells [(.fn (.func 34) [] [])] 30) :: R)

theorem gslices_IndexFunc_63_38_34_ok {n : Nat} {b1_0 : Nat} {p0 : (List ByteArray)} {a1 : A} {R : List Res} {σ : St} (h2 : Sl rS a1 p0) (hp : Hp σ (.blk b1_0 (.cells [(.fn (.func 34) [] [])] 30) :: R)) {r : Int} (H : gslices_IndexFunc_63_38_34 n p0 = some r) : Ca cfg 63 [a1, (.fn (.func 38) [] [(.ptr b1_0 0)])] σ (gslices_IndexFunc_63_38_34_post b1_0 R r) := by
  unfold gslices_IndexFunc_63_38_34 at H
  refine Ca.enterL (G := [(0, a1), (1, (.fn (.func 38) [] [(.ptr b1_0 0)]))]) Tryd.func63 rfl rfl rfl rfl ?_
  refine Ec.seq ?_
  refine Ec.region ?_
  refine Eo.val (x := (.v (.int .i64 0))) rfl rfl rfl rfl ?_
  refine Eo.nil ?_
  refine Ec.seq ?_
  refine Ec.seq ?_
  refine Ec.region ?_
  refine Eo.val (x := a1) rfl rfl rfl rfl ?_
  refine Eo.val (x := (.v (.int .i64 ((p0.length : Nat) : Int)))) (op_lenL h2 rfl rfl rfl rfl rfl Tryd.underlying44) rfl rfl rfl ?_
  refine Eo.val (x := (.v (.int .i64 0))) rfl rfl rfl rfl ?_
  refine Eo.nil ?_
  refine Ec.block ?_
  obtain ⟨v31, hv32, H⟩ := bind_some H
  refine Ec.cut (J := (fun (v : LR Unit Int) (x : X) (φ : Fr) (s : St) => match v with | .out _ => x = (.exit 0) ∧ (Hp s (.blk b1_0 (.cells [(.fn (.func 34) [] [])] 30) :: R) ∧ Fl [] φ) | .ret r => x = .ret ∧ Ret cfg Tryd.f63 (gslices_IndexFunc_63_38_34_post b1_0 R r) .ret φ s) v31) (Ec.weak (.cons rfl (.cons rfl (.cons rfl (.cons rfl (.nil'))))) (Ec.loopF (f := (fun m (i : Int × Unit) => gslices_IndexFunc_63_38_34_L1 n p0 m i.1)) (G := (fun (i : Int × Unit) => ([(0, a1), (1, (.fn (.func 38) [] [(.ptr b1_0 0)])), (7, (.v (.int .i64 ((p0.length : Nat) : Int)))), (8, (.v (.int .i64 i.1)))] : List (Nat × A)))) (I := (fun (i : Int × Unit) (s : St) => Hp s (.blk b1_0 (.cells [(.fn (.func 34) [] [])] 30) :: R))) (J := (fun (v : LR Unit Int) (x : X) (φ : Fr) (s : St) => match v with | .out _ => x = (.exit 0) ∧ (Hp s (.blk b1_0 (.cells [(.fn (.func 34) [] [])] 30) :: R) ∧ Fl [] φ) | .ret r => x = .ret ∧ Ret cfg Tryd.f63 (gslices_IndexFunc_63_38_34_post b1_0 R r) .ret φ s)) (fun _ => rfl) ?_ n (0, ()) _ v31 hp hv32)) ?_
  · rintro m ⟨y12, _⟩ σ0 v hp0 H ih
    change gslices_IndexFunc_63_38_34_L1 n p0 (m + 1) y12 = some v at H
    rw [gslices_IndexFunc_63_38_34_L1] at H
    change Ec _ _ _ [(0, a1), (1, (.fn (.func 38) [] [(.ptr b1_0 0)])), (7, (.v (.int .i64 ((p0.length : Nat) : Int)))), (8, (.v (.int .i64 y12)))] σ0 _
    refine Ec.seq ?_
    refine Ec.region ?_
    refine Eo.val (x := (.v (.bool (decide (y12 < ((p0.length : Nat) : Int)))))) rfl rfl rfl rfl ?_
    refine Eo.nil ?_
    refine Ec.seq ?_
    refine Ec.cond (t := (decide (y12 < ((p0.length : Nat) : Int)))) rfl (fun hc22 => ?_) (fun hc22 => ?_)
    · have H := cond_t hc22 H
      refine Ec.skip ?_
      refine Ec.seq ?_
      refine Ec.block ?_
      refine Ec.seq ?_
      refine Ec.region ?_
      refine Eo.val (x := (.v (.int .i64 y12))) rfl rfl rfl rfl ?_
      refine Eo.val (x := (.v (.int .i64 y12))) rfl rfl rfl rfl ?_
      refine Eo.nil ?_
      refine Ec.seq ?_
      refine Ec.region ?_
      refine Eo.val (x := (.fn (.func 38) [] [(.ptr b1_0 0)])) rfl rfl rfl rfl ?_
      refine Eo.val (x := a1) rfl rfl rfl rfl ?_
      refine Eo.val (x := (.v (.int .i64 y12))) rfl rfl rfl rfl ?_
      obtain ⟨x23, hvx23, H⟩ := bind_some H
      refine Eo.idx h2 hvx23 rfl rfl rfl Tryd.underlying44 rfl rfl rfl rfl ?_
      rintro cs24 p25 _ hat26 rfl
      refine Eo.val (x := (.v (.string x23))) (op_loadSp hat26 0 rfl rfl rfl rfl rfl) rfl rfl rfl ?_
      obtain ⟨r27, hvr27, H⟩ := bind_some H
      refine Eo.call rfl rfl rfl rfl (gasmtext_Print_2_34_ok hp0 hvr27) ?_
      rintro _ σ29 ⟨rfl, hp28⟩
      change Hp σ29 (.blk b1_0 (.cells [(.fn (.func 34) [] [])] 30) :: R) at hp28
      refine Eo.nil ?_
      refine Ec.cond (t := r27) rfl (fun hc30 => ?_) (fun hc30 => ?_)
      · have H := cond_t hc30 H
        refine Ec.seq ?_
        refine Ec.region ?_
        refine Eo.val (x := (.v (.int .i64 y12))) rfl rfl rfl rfl ?_
        refine Eo.val (x := (.v (.int .i64 y12))) rfl rfl rfl rfl ?_
        refine Eo.nil ?_
        obtain rfl := Option.some.inj H
        refine Ec.ret ?_
        refine And.intro rfl (Ret.mk rfl ?_)
        exact ⟨rfl, hp28⟩
      · have H := cond_f hc30 H
        refine Ec.skip ?_
        refine Ec.region ?_
        refine Eo.val (x := (.v (.int .i64 (IntKind.wrap .i64 (y12 + 1))))) rfl rfl rfl rfl ?_
        refine Eo.val (x := (.v (.int .i64 (IntKind.wrap .i64 (y12 + 1))))) rfl rfl rfl rfl ?_
        refine Eo.nil ?_
        exact Ec.of (.cons rfl (.cons rfl (.cons rfl (.cons rfl (.nil'))))) (ih ((IntKind.wrap .i64 (y12 + 1)), ()) _ hp28 H)
    · have H := cond_f hc22 H
      refine Ec.exit ?_
      obtain rfl := Option.some.inj H
      exact And.intro rfl ⟨hp0, (.nil')⟩
  · rcases v31 with _ | r37
    · intro x φ35 σ34 hJ
      obtain ⟨rfl, hp33, hf36⟩ := hJ
      refine Ec.of (F := []) hf36 ?_
      refine Ec.seq ?_
      refine Ec.region ?_
      refine Eo.val (x := (.v (.int .i64 (-1)))) rfl rfl rfl rfl ?_
      refine Eo.nil ?_
      obtain rfl := Option.some.inj H
      refine Ec.ret ?_
      refine Ret.mk rfl ?_
      exact ⟨rfl, hp33⟩
    · intro x φ38 σ39 hJ
      obtain rfl := Option.some.inj H
      obtain ⟨rfl, hr⟩ := hJ
      exact hr

def gslices_ContainsFunc_37_38_34 (n : Nat) (p0 : (List ByteArray)) : Option (Bool) := ((gslices_IndexFunc_63_38_34 n p0).bind fun r3 => some (decide (r3 ≥ 0)))

def gslices_ContainsFunc_37_38_34_post (b1_0 : Nat) (R : List Res) (r : Bool) (x : A) (s : St) : Prop := x = (.v (.bool r)) ∧ Hp s (.blk b1_0 (.cells [(.fn (.func 34) [] [])] 30) :: R)

theorem gslices_ContainsFunc_37_38_34_ok {n : Nat} {b1_0 : Nat} {p0 : (List ByteArray)} {a1 : A} {R : List Res} {σ : St} (h2 : Sl rS a1 p0) (hp : Hp σ (.blk b1_0 (.cells [(.fn (.func 34) [] [])] 30) :: R)) {r : Bool} (H : gslices_ContainsFunc_37_38_34 n p0 = some r) : Ca cfg 37 [a1, (.fn (.func 38) [] [(.ptr b1_0 0)])] σ (gslices_ContainsFunc_37_38_34_post b1_0 R r) := by
  unfold gslices_ContainsFunc_37_38_34 at H
  refine Ca.enterL (G := [(0, a1), (1, (.fn (.func 38) [] [(.ptr b1_0 0)]))]) Tryd.func37 rfl rfl rfl rfl ?_
  refine Ec.seq ?_
  refine Ec.region ?_
  refine Eo.val (x := (.v (.bool false))) rfl rfl rfl rfl ?_
  refine Eo.nil ?_
  refine Ec.seq ?_
  refine Ec.region ?_
  refine Eo.val (x := a1) rfl rfl rfl rfl ?_
  refine Eo.val (x := (.fn (.func 38) [] [(.ptr b1_0 0)])) rfl rfl rfl rfl ?_
  obtain ⟨r3, hvr3, H⟩ := bind_some H
  refine Eo.call rfl rfl rfl rfl (gslices_IndexFunc_63_38_34_ok h2 hp hvr3) ?_
  rintro _ σ5 ⟨rfl, hp4⟩
  change Hp σ5 (.blk b1_0 (.cells [(.fn (.func 34) [] [])] 30) :: R) at hp4
  refine Eo.val (x := (.v (.bool (decide (r3 ≥ 0))))) rfl rfl rfl rfl ?_
  refine Eo.val (x := (.v (.bool (decide (r3 ≥ 0))))) rfl rfl rfl rfl ?_
  refine Eo.nil ?_
  obtain rfl := Option.some.inj H
  refine Ec.ret ?_
  refine Ret.mk rfl ?_
  exact ⟨rfl, hp4⟩

def gasmtext_Print_3 (n : Nat) (p0 : TTok) : Option (Bool) := ((gasmtext_sound n p0).bind fun r4 => some (!r4))

def gasmtext_Print_3_post (R : List Res) (r : Bool) (x : A) (s : St) : Prop := x = (.v (.bool r)) ∧ Hp s (R)

theorem gasmtext_Print_3_ok {n : Nat} {p0 : TTok} {R : List Res} {σ : St} (hp : Hp σ R) {r : Bool} (H : gasmtext_Print_3 n p0 = some r) : Ca cfg 40 [(.agg [(.v (.int .i64 p0.f_Kind)), (.v (.string p0.f_Text))])] σ (gasmtext_Print_3_post R r) := by
  unfold gasmtext_Print_3 at H
  refine Ca.enterL (G := [(0, (.agg [(.v (.int .i64 p0.f_Kind)), (.v (.string p0.f_Text))]))]) Tryd.func40 rfl rfl rfl rfl ?_
  refine Ec.seq ?_
  refine Ec.region ?_
  refine Eo.box hp rfl rfl rfl rfl rfl rfl rfl ?_
  intro b1 σ3 hp2
  refine Eo.val (x := (.v (.bool false))) rfl rfl rfl rfl ?_
  refine Eo.nil ?_
  refine Ec.seq ?_
  refine Ec.region ?_
  refine Eo.val (x := (.agg [(.v (.int .i64 p0.f_Kind)), (.v (.string p0.f_Text))])) (op_loadB hp2 0 rfl rfl rfl rfl) rfl rfl rfl ?_
  obtain ⟨r4, hvr4, H⟩ := bind_some H
  refine Eo.call rfl rfl rfl rfl (gasmtext_sound_ok hp2 hvr4) ?_
  rintro _ σ6 ⟨rfl, hp5⟩
  refine Eo.val (x := (.v (.bool (!r4)))) rfl rfl rfl rfl ?_
  refine Eo.val (x := (.v (.bool (!r4)))) rfl rfl rfl rfl ?_
  refine Eo.nil ?_
  obtain rfl := Option.some.inj H
  refine Ec.ret ?_
  refine Ret.mk rfl ?_
  exact ⟨rfl, (Hp.drop hp5 0)⟩

def gslices_IndexFunc_64_40_L1 (N : Nat) (p0 : (List TTok)) : Nat → Int → Option (LR Unit Int)
  | 0, _ => none
  | m + 1, y12 => (cond (decide (y12 < ((p0.length : Nat) : Int))) (((atL p0 y12).bind fun x23 => ((gasmtext_Print_3 N x23).bind fun r27 => (cond r27 (some (.ret y12)) (gslices_IndexFunc_64_40_L1 N p0 m (IntKind.wrap .i64 (y12 + 1))))))) (some (.out ())))

def gslices_IndexFunc_64_40 (n : Nat) (p0 : (List TTok)) : Option (Int) := ((gslices_IndexFunc_64_40_L1 n p0 n 0).bind fun v => match v with | .out _ => some (-1) | .ret r37 => some r37)

def gslices_IndexFunc_64_40_post (R : List Res) (r : Int) (x : A) (s : St) : Prop := x = (.v (.int .i64 r)) ∧ Hp s (R)

theorem gslices_IndexFunc_64_40_ok {n : Nat} {p0 : (List TTok)} {a1 : A} {R : List Res} {σ : St} (h2 : Sl rTTok a1 p0) (hp : Hp σ R) {r : Int} (H : gslices_IndexFunc_64_40 n p0 = some r) : Ca cfg 64 [a1, (.fn (.func 40) [] [])] σ (gslices_IndexFunc_64_40_post R r) := by
  unfold gslices_IndexFunc_64_40 at H
  refine Ca.enterL (G := [(0, a1), (1, (.fn (.func 40) [] []))]) Tryd.func64 rfl rfl rfl rfl ?_
  refine Ec.seq ?_
  refine Ec.region ?_
  refine Eo.val (x := (.v (.int .i64 0))) rfl rfl rfl rfl ?_
  refine Eo.nil ?_
  refine Ec.seq ?_
  refine Ec.seq ?_
  refine Ec.region ?_
  refine Eo.val (x := a1) rfl rfl rfl rfl ?_
  refine Eo.val (x := (.v (.int .i64 ((p0.length : Nat) : Int)))) (op_lenL h2 rfl rfl rfl rfl rfl Tryd.underlying31) rfl rfl rfl ?_
  refine Eo.val (x := (.v (.int .i64 0))) rfl rfl rfl rfl ?_
  refine Eo.nil ?_
  refine Ec.block ?_
  obtain ⟨v31, hv32, H⟩ := bind_some H
  refine Ec.cut (J := (fun (v : LR Unit Int) (x : X) (φ : Fr) (s : St) => match v with | .out _ => x = (.exit 0) ∧ (Hp s (R) ∧ Fl [] φ) | .ret r => x = .ret ∧ Ret cfg Tryd.f64 (gslices_IndexFunc_64_40_post R r) .ret φ s) v31) (Ec.weak (.cons rfl (.cons rfl (.cons rfl (.cons rfl (.nil'))))) (Ec.loopF (f := (fun m (i : Int × Unit) => gslices_IndexFunc_64_40_L1 n p0 m i.1)) (G := (fun (i : Int × Unit) => ([(0, a1), (1, (.fn (.func 40) [] [])), (7, (.v (.int .i64 ((p0.length : Nat) : Int)))), (8, (.v (.int .i64 i.1)))] : List (Nat × A)))) (I := (fun (i : Int × Unit) (s : St) => Hp s (R))) (J := (fun (v : LR Unit Int) (x : X) (φ : Fr) (s : St) => match v with | .out _ => x = (.exit 0) ∧ (Hp s (R) ∧ Fl [] φ) | .ret r => x = .ret ∧ Ret cfg Tryd.f64 (gslices_IndexFunc_64_40_post R r) .ret φ s)) (fun _ => rfl) ?_ n (0, ()) _ v31 hp hv32)) ?_
  · rintro m ⟨y12, _⟩ σ0 v hp0 H ih
    change gslices_IndexFunc_64_40_L1 n p0 (m + 1) y12 = some v at H
    rw [gslices_IndexFunc_64_40_L1] at H
    change Ec _ _ _ [(0, a1), (1, (.fn (.func 40) [] [])), (7, (.v (.int .i64 ((p0.length : Nat) : Int)))), (8, (.v (.int .i64 y12)))] σ0 _
    refine Ec.seq ?_
    refine Ec.region ?_
    refine Eo.val (x := (.v (.bool (decide (y12 < ((p0.length : Nat) : Int)))))) rfl rfl rfl rfl ?_
    refine Eo.nil ?_
    refine Ec.seq ?_
    refine Ec.cond (t := (decide (y12 < ((p0.length : Nat) : Int)))) rfl (fun hc22 => ?_) (fun hc22 => ?_)
    · have H := cond_t hc22 H
      refine Ec.skip ?_
      refine Ec.seq ?_
      refine Ec.block ?_
      refine Ec.seq ?_
      refine Ec.region ?_
      refine Eo.val (x := (.v (.int .i64 y12))) rfl rfl rfl rfl ?_
      refine Eo.val (x := (.v (.int .i64 y12))) rfl rfl rfl rfl ?_
      refine Eo.nil ?_
      refine Ec.seq ?_
      refine Ec.region ?_
      refine Eo.val (x := (.fn (.func 40) [] [])) rfl rfl rfl rfl ?_
      refine Eo.val (x := a1) rfl rfl rfl rfl ?_
      refine Eo.val (x := (.v (.int .i64 y12))) rfl rfl rfl rfl ?_
      obtain ⟨x23, hvx23, H⟩ := bind_some H
      refine Eo.idx h2 hvx23 rfl rfl rfl Tryd.underlying31 rfl rfl rfl rfl ?_
      rintro cs24 p25 _ hat26 rfl
      refine Eo.val (x := (.agg [(.v (.int .i64 x23.f_Kind)), (.v (.string x23.f_Text))])) (op_loadSpAgg hat26 0 rfl rfl rfl rfl rfl rfl) rfl rfl rfl ?_
      obtain ⟨r27, hvr27, H⟩ := bind_some H
      refine Eo.call rfl rfl rfl rfl (gasmtext_Print_3_ok hp0 hvr27) ?_
      rintro _ σ29 ⟨rfl, hp28⟩
      refine Eo.nil ?_
      refine Ec.cond (t := r27) rfl (fun hc30 => ?_) (fun hc30 => ?_)
      · have H := cond_t hc30 H
        refine Ec.seq ?_
        refine Ec.region ?_
        refine Eo.val (x := (.v (.int .i64 y12))) rfl rfl rfl rfl ?_
        refine Eo.val (x := (.v (.int .i64 y12))) rfl rfl rfl rfl ?_
        refine Eo.nil ?_
        obtain rfl := Option.some.inj H
        refine Ec.ret ?_
        refine And.intro rfl (Ret.mk rfl ?_)
        exact ⟨rfl, hp28⟩
      · have H := cond_f hc30 H
        refine Ec.skip ?_
        refine Ec.region ?_
        refine Eo.val (x := (.v (.int .i64 (IntKind.wrap .i64 (y12 + 1))))) rfl rfl rfl rfl ?_
        refine Eo.val (x := (.v (.int .i64 (IntKind.wrap .i64 (y12 + 1))))) rfl rfl rfl rfl ?_
        refine Eo.nil ?_
        exact Ec.of (.cons rfl (.cons rfl (.cons rfl (.cons rfl (.nil'))))) (ih ((IntKind.wrap .i64 (y12 + 1)), ()) _ hp28 H)
    · have H := cond_f hc22 H
      refine Ec.exit ?_
      obtain rfl := Option.some.inj H
      exact And.intro rfl ⟨hp0, (.nil')⟩
  · rcases v31 with _ | r37
    · intro x φ35 σ34 hJ
      obtain ⟨rfl, hp33, hf36⟩ := hJ
      refine Ec.of (F := []) hf36 ?_
      refine Ec.seq ?_
      refine Ec.region ?_
      refine Eo.val (x := (.v (.int .i64 (-1)))) rfl rfl rfl rfl ?_
      refine Eo.nil ?_
      obtain rfl := Option.some.inj H
      refine Ec.ret ?_
      refine Ret.mk rfl ?_
      exact ⟨rfl, hp33⟩
    · intro x φ38 σ39 hJ
      obtain rfl := Option.some.inj H
      obtain ⟨rfl, hr⟩ := hJ
      exact hr

def gslices_ContainsFunc_39_40 (n : Nat) (p0 : (List TTok)) : Option (Bool) := ((gslices_IndexFunc_64_40 n p0).bind fun r3 => some (decide (r3 ≥ 0)))

def gslices_ContainsFunc_39_40_post (R : List Res) (r : Bool) (x : A) (s : St) : Prop := x = (.v (.bool r)) ∧ Hp s (R)

theorem gslices_ContainsFunc_39_40_ok {n : Nat} {p0 : (List TTok)} {a1 : A} {R : List Res} {σ : St} (h2 : Sl rTTok a1 p0) (hp : Hp σ R) {r : Bool} (H : gslices_ContainsFunc_39_40 n p0 = some r) : Ca cfg 39 [a1, (.fn (.func 40) [] [])] σ (gslices_ContainsFunc_39_40_post R r) := by
  unfold gslices_ContainsFunc_39_40 at H
  refine Ca.enterL (G := [(0, a1), (1, (.fn (.func 40) [] []))]) Tryd.func39 rfl rfl rfl rfl ?_
  refine Ec.seq ?_
  refine Ec.region ?_
  refine Eo.val (x := (.v (.bool false))) rfl rfl rfl rfl ?_
  refine Eo.nil ?_
  refine Ec.seq ?_
  refine Ec.region ?_
  refine Eo.val (x := a1) rfl rfl rfl rfl ?_
  refine Eo.val (x := (.fn (.func 40) [] [])) rfl rfl rfl rfl ?_
  obtain ⟨r3, hvr3, H⟩ := bind_some H
  refine Eo.call rfl rfl rfl rfl (gslices_IndexFunc_64_40_ok h2 hp hvr3) ?_
  rintro _ σ5 ⟨rfl, hp4⟩
  change Hp σ5 (R) at hp4
  refine Eo.val (x := (.v (.bool (decide (r3 ≥ 0))))) rfl rfl rfl rfl ?_
  refine Eo.val (x := (.v (.bool (decide (r3 ≥ 0))))) rfl rfl rfl rfl ?_
  refine Eo.nil ?_
  obtain rfl := Option.some.inj H
  refine Ec.ret ?_
  refine Ret.mk rfl ?_
  exact ⟨rfl, hp4⟩

def gasmtext_Print_L1 (N : Nat) (p0 : (List TLine)) : Nat → Int → Bool → Int → Option (LR Bool (ByteArray × Int))
  | 0, _, _, _ => none
  | m + 1, y78, y79, y80 => (cond (decide (y80 < ((p0.length : Nat) : Int))) (((atL p0 y80).bind fun x163 => (((cond (!(((decide (x163.f_No > y78)) && (decide (x163.f_No ≤ 16384))) && (decide ((IntKind.wrap .i64 (((x163.f_Labels.length : Nat) : Int) + ((x163.f_Toks.length : Nat) : Int))) > 0)))) (some true) (((gslices_ContainsFunc_37_38_34 N x163.f_Labels).bind fun r197 => some r197))) : Option (Bool)).bind fun x195 => (((cond x195 (some true) (((gslices_ContainsFunc_39_40 N x163.f_Toks).bind fun r210 => some r210))) : Option (Bool)).bind fun x208 => (((cond x208 (some true) (((gasmtext_labelled N x163.f_Toks).bind fun r223 => some r223))) : Option (Bool)).bind fun x221 => (cond x221 (some (.ret ((ByteArray.mk #[]), 131))) (gasmtext_Print_L1 N p0 m x163.f_No (y79 || (decide ((IntKind.wrap .i64 ((IntKind.wrap .i64 (2 * ((x163.f_Labels.length : Nat) : Int))) + ((x163.f_Toks.length : Nat) : Int))) > 64))) (IntKind.wrap .i64 (y80 + 1))))))))) (some (.out y79)))

def gasmtext_Print_L3 (N : Nat) (x450 : TLine) : Nat → Int → (List Int) → Option ((List Int))
  | 0, _, _ => none
  | m + 1, y486, y490 => (cond (decide (y486 < ((x450.f_Labels.length : Nat) : Int))) (((atL x450.f_Labels y486).bind fun x513 => ((catS x513 (ByteArray.mk #[58, 32])).bind fun s517 => ((appL 1 y490 (bs s517)).bind fun l518 => gasmtext_Print_L3 N x450 m (IntKind.wrap .i64 (y486 + 1)) l518)))) (some y490))

def gasmtext_Print_L2 (N : Nat) (p0 : (List TLine)) : Nat → Int → Int → (List Int) → Option ((List Int))
  | 0, _, _, _ => none
  | m + 1, y343, y344, y348 => (cond (decide (y344 < ((p0.length : Nat) : Int))) (((atL p0 y344).bind fun x450 => ((repeatT (ByteArray.mk #[10]) (IntKind.wrap .i64 (x450.f_No - y343))).bind fun r463 => ((appL 1 y348 (bs r463)).bind fun l466 => ((gasmtext_Print_L3 N x450 N 0 l466).bind fun x509 => ((gasmtext_Join N x450.f_Toks).bind fun r531 => ((appL 1 x509 (bs r531)).bind fun l534 => gasmtext_Print_L2 N p0 m x450.f_No (IntKind.wrap .i64 (y344 + 1)) l534))))))) (some y348))

def gasmtext_Print (n : Nat) (p0 : (List TLine)) : Option ((ByteArray × Int)) := ((gasmtext_Print_L1 n p0 n 0 false 0).bind fun v => match v with | .out x161 => ((gasmtext_Print_L2 n p0 n 1 0 ([] : List Int)).bind fun x446 => (((cond (decide (((p0.length : Nat) : Int) > 0)) (((appL 1 x446 ([10] : List Int)).bind fun l562 => some l562)) (some x446)) : Option ((List Int))).bind fun x558 => (cond (x161 || (decide (((x558.length : Nat) : Int) > 262144))) (some ((ByteArray.mk #[]), 133)) (((strT x558).bind fun s579 => some (s579, 0)))))) | .ret r584 => some r584)

def gasmtext_Print_post (R : List Res) (r : (ByteArray × Int)) (x : A) (s : St) : Prop := x = (.tup [(.v (.string r.1)), (.v (.int .i64 r.2))]) ∧ Hp s (R)

theorem gasmtext_Print_ok {n : Nat} {p0 : (List TLine)} {a1 : A} {R : List Res} {σ : St} (h2 : Sl rTLine a1 p0) (hp : Hp σ R) {r : (ByteArray × Int)} (H : gasmtext_Print n p0 = some r) : Ca cfg 19 [a1] σ (gasmtext_Print_post R r) := by
  unfold gasmtext_Print at H
  refine Ca.enterL (G := [(0, a1)]) Tryd.func19 rfl rfl rfl rfl ?_
  refine Ec.seq ?_
  refine Ec.region ?_
  refine Eo.val (x := (.v (.string (ByteArray.mk #[])))) rfl rfl rfl rfl ?_
  refine Eo.val (x := (.v (.int .i64 0))) rfl rfl rfl rfl ?_
  refine Eo.nil ?_
  refine Ec.seq ?_
  refine Ec.region ?_
  refine Eo.val (x := (.v (.int .i64 0))) rfl rfl rfl rfl ?_
  refine Eo.val (x := (.v (.bool false))) rfl rfl rfl rfl ?_
  refine Eo.nil ?_
  refine Ec.seq ?_
  refine Ec.seq ?_
  refine Ec.region ?_
  refine Eo.val (x := a1) rfl rfl rfl rfl ?_
  refine Eo.val (x := (.v (.int .i64 ((p0.length : Nat) : Int)))) (op_lenL h2 rfl rfl rfl rfl rfl Tryd.underlying23) rfl rfl rfl ?_
  refine Eo.val (x := (.v (.int .i64 0))) rfl rfl rfl rfl ?_
  refine Eo.nil ?_
  refine Ec.block ?_
  obtain ⟨v242, hv243, H⟩ := bind_some H
  refine Ec.cut (J := (fun (v : LR Bool (ByteArray × Int)) (x : X) (φ : Fr) (s : St) => match v with | .out x161 => x = (.exit 0) ∧ (Hp s (R) ∧ Fl [(0, a1), (5, (.v (.bool x161)))] φ) | .ret r => x = .ret ∧ Ret cfg Tryd.f19 (gasmtext_Print_post R r) .ret φ s) v242) (Ec.weak (.cons rfl (.cons rfl (.cons rfl (.cons rfl (.cons rfl (.cons rfl (.nil'))))))) (Ec.loopF (f := (fun m (i : (Int × Bool × Int) × Unit) => gasmtext_Print_L1 n p0 m i.1.1 i.1.2.1 i.1.2.2)) (G := (fun (i : (Int × Bool × Int) × Unit) => ([(0, a1), (4, (.v (.int .i64 i.1.1))), (5, (.v (.bool i.1.2.1))), (16, a1), (17, (.v (.int .i64 ((p0.length : Nat) : Int)))), (18, (.v (.int .i64 i.1.2.2)))] : List (Nat × A)))) (I := (fun (i : (Int × Bool × Int) × Unit) (s : St) => Hp s (R))) (J := (fun (v : LR Bool (ByteArray × Int)) (x : X) (φ : Fr) (s : St) => match v with | .out x161 => x = (.exit 0) ∧ (Hp s (R) ∧ Fl [(0, a1), (5, (.v (.bool x161)))] φ) | .ret r => x = .ret ∧ Ret cfg Tryd.f19 (gasmtext_Print_post R r) .ret φ s)) (fun _ => rfl) ?_ n ((0, false, 0), ()) _ v242 hp hv243)) ?_
  · rintro m ⟨⟨y78, y79, y80⟩, _⟩ σ0 v hp0 H ih
    change gasmtext_Print_L1 n p0 (m + 1) y78 y79 y80 = some v at H
    rw [gasmtext_Print_L1] at H
    change Ec _ _ _ [(0, a1), (4, (.v (.int .i64 y78))), (5, (.v (.bool y79))), (16, a1), (17, (.v (.int .i64 ((p0.length : Nat) : Int)))), (18, (.v (.int .i64 y80)))] σ0 _
    refine Ec.seq ?_
    refine Ec.region ?_
    refine Eo.val (x := (.v (.bool (decide (y80 < ((p0.length : Nat) : Int)))))) rfl rfl rfl rfl ?_
    refine Eo.nil ?_
    refine Ec.seq ?_
    refine Ec.cond (t := (decide (y80 < ((p0.length : Nat) : Int)))) rfl (fun hc162 => ?_) (fun hc162 => ?_)
    · have H := cond_t hc162 H
      refine Ec.skip ?_
      refine Ec.seq ?_
      refine Ec.block ?_
      refine Ec.seq ?_
      refine Ec.region ?_
      obtain ⟨x163, hvx163, H⟩ := bind_some H
      refine Eo.idx h2 hvx163 rfl rfl rfl Tryd.underlying23 rfl rfl rfl rfl ?_
      rintro cs164 p165 _ hat166 ⟨a167, a169, rfl, h168, h170⟩
      refine Eo.val (x := (.agg [(.v (.int .i64 x163.f_No)), a167, a169])) (op_loadSpAgg hat166 0 rfl rfl rfl rfl rfl rfl) rfl rfl rfl ?_
      refine Eo.alloc (z := [(.v (.int .i64 0)), nilS, nilS]) hp0 rfl rfl rfl rfl rfl ?_
      intro b171 σ173 hp172
      refine Eo.store hp172 0 rfl (storeCells_mk rfl rfl rfl (by simp [allOne, A.cells, h168.isOne, h170.isOne]) rfl rfl) rfl rfl rfl rfl rfl ?_
      intro σ175 hp174
      change Hp σ175 (.blk b171 (.cells [(.v (.int .i64 x163.f_No)), a167, a169] 46) :: R) at hp174
      refine Eo.nil ?_
      refine Ec.seq ?_
      refine Ec.region ?_
      refine Eo.alloc (z := [(.v .nilFunc)]) hp174 rfl rfl rfl rfl rfl ?_
      intro b176 σ178 hp177
      refine Eo.store hp177 0 rfl (storeCells_mk rfl rfl rfl rfl rfl rfl) rfl rfl rfl rfl rfl ?_
      intro σ180 hp179
      change Hp σ180 (.blk b176 (.cells [(.fn (.func 34) [] [])] 30) :: .blk b171 (.cells [(.v (.int .i64 x163.f_No)), a167, a169] 46) :: R) at hp179
      refine Eo.nil ?_
      refine Ec.seq ?_
      refine Ec.region ?_
      refine Eo.val (x := (.ptr b171 0)) rfl rfl rfl rfl ?_
      refine Eo.val (x := (.v (.int .i64 x163.f_No))) (op_loadB hp179 1 rfl rfl rfl rfl) rfl rfl rfl ?_
      refine Eo.val (x := (.v (.int .i64 y78))) rfl rfl rfl rfl ?_
      refine Eo.val (x := (.v (.bool (decide (x163.f_No > y78))))) rfl rfl rfl rfl ?_
      refine Eo.val (x := (.v (.bool (decide (x163.f_No > y78))))) rfl rfl rfl rfl ?_
      refine Eo.cutF 4 [(0, a1), (5, (.v (.bool y79))), (16, a1), (17, (.v (.int .i64 ((p0.length : Nat) : Int)))), (18, (.v (.int .i64 y80))), (7, (.ptr b171 0)), (8, (.ptr b176 0)), (30, (.v (.bool ((decide (x163.f_No > y78)) && (decide (x163.f_No ≤ 16384))))))] ?_ ?_
      · skip
        cases hc183 : (decide (x163.f_No > y78))
        · skip
          refine Eo.off rfl rfl rfl ?_
          refine Eo.off rfl rfl rfl ?_
          refine Eo.off rfl rfl rfl ?_
          refine Eo.val (x := (.v (.bool false))) rfl rfl rfl rfl ?_
          exact Eo.nil (And.intro rfl (And.intro rfl (.cons rfl (.cons rfl (.cons rfl (.cons rfl (.cons rfl (.cons rfl (.cons rfl (.cons rfl (.nil')))))))))))
        · skip
          refine Eo.val (x := (.ptr b171 0)) rfl rfl rfl rfl ?_
          refine Eo.val (x := (.v (.int .i64 x163.f_No))) (op_loadB hp179 1 rfl rfl rfl rfl) rfl rfl rfl ?_
          refine Eo.val (x := (.v (.bool (decide (x163.f_No ≤ 16384))))) rfl rfl rfl rfl ?_
          refine Eo.val (x := (.v (.bool (decide (x163.f_No ≤ 16384))))) rfl rfl rfl rfl ?_
          exact Eo.nil (And.intro rfl (And.intro rfl (.cons rfl (.cons rfl (.cons rfl (.cons rfl (.cons rfl (.cons rfl (.cons rfl (.cons rfl (.nil')))))))))))
      · skip
        refine Eo.val (x := (.v (.bool ((decide (x163.f_No > y78)) && (decide (x163.f_No ≤ 16384)))))) rfl rfl rfl rfl ?_
        refine Eo.cutF 9 [(0, a1), (5, (.v (.bool y79))), (16, a1), (17, (.v (.int .i64 ((p0.length : Nat) : Int)))), (18, (.v (.int .i64 y80))), (7, (.ptr b171 0)), (8, (.ptr b176 0)), (40, (.v (.bool (((decide (x163.f_No > y78)) && (decide (x163.f_No ≤ 16384))) && (decide ((IntKind.wrap .i64 (((x163.f_Labels.length : Nat) : Int) + ((x163.f_Toks.length : Nat) : Int))) > 0))))))] ?_ ?_
        · skip
          cases hc188 : ((decide (x163.f_No > y78)) && (decide (x163.f_No ≤ 16384)))
          · skip
            refine Eo.off rfl rfl rfl ?_
            refine Eo.off rfl rfl rfl ?_
            refine Eo.off rfl rfl rfl ?_
            refine Eo.off rfl rfl rfl ?_
            refine Eo.off rfl rfl rfl ?_
            refine Eo.off rfl rfl rfl ?_
            refine Eo.off rfl rfl rfl ?_
            refine Eo.off rfl rfl rfl ?_
            refine Eo.val (x := (.v (.bool false))) rfl rfl rfl rfl ?_
            exact Eo.nil (And.intro rfl (And.intro rfl (.cons rfl (.cons rfl (.cons rfl (.cons rfl (.cons rfl (.cons rfl (.cons rfl (.cons rfl (.nil')))))))))))
          · skip
            refine Eo.val (x := (.ptr b171 1)) rfl rfl rfl rfl ?_
            refine Eo.val (x := a167) (op_loadB hp179 1 rfl rfl rfl rfl) rfl rfl rfl ?_
            refine Eo.val (x := (.v (.int .i64 ((x163.f_Labels.length : Nat) : Int)))) (op_lenL h168 rfl rfl rfl rfl rfl Tryd.underlying44) rfl rfl rfl ?_
            refine Eo.val (x := (.ptr b171 2)) rfl rfl rfl rfl ?_
            refine Eo.val (x := a169) (op_loadB hp179 1 rfl rfl rfl rfl) rfl rfl rfl ?_
            refine Eo.val (x := (.v (.int .i64 ((x163.f_Toks.length : Nat) : Int)))) (op_lenL h170 rfl rfl rfl rfl rfl Tryd.underlying31) rfl rfl rfl ?_
            refine Eo.val (x := (.v (.int .i64 (IntKind.wrap .i64 (((x163.f_Labels.length : Nat) : Int) + ((x163.f_Toks.length : Nat) : Int)))))) rfl rfl rfl rfl ?_
            refine Eo.val (x := (.v (.bool (decide ((IntKind.wrap .i64 (((x163.f_Labels.length : Nat) : Int) + ((x163.f_Toks.length : Nat) : Int))) > 0))))) rfl rfl rfl rfl ?_
            refine Eo.val (x := (.v (.bool (decide ((IntKind.wrap .i64 (((x163.f_Labels.length : Nat) : Int) + ((x163.f_Toks.length : Nat) : Int))) > 0))))) rfl rfl rfl rfl ?_
            exact Eo.nil (And.intro rfl (And.intro rfl (.cons rfl (.cons rfl (.cons rfl (.cons rfl (.cons rfl (.cons rfl (.cons rfl (.cons rfl (.nil')))))))))))
        · skip
          refine Eo.val (x := (.v (.bool (((decide (x163.f_No > y78)) && (decide (x163.f_No ≤ 16384))) && (decide ((IntKind.wrap .i64 (((x163.f_Labels.length : Nat) : Int) + ((x163.f_Toks.length : Nat) : Int))) > 0)))))) rfl rfl rfl rfl ?_
          refine Eo.nil ?_
          refine Ec.seq ?_
          refine Ec.seq ?_
          refine Ec.region ?_
          refine Eo.val (x := (.v (.bool (((decide (x163.f_No > y78)) && (decide (x163.f_No ≤ 16384))) && (decide ((IntKind.wrap .i64 (((x163.f_Labels.length : Nat) : Int) + ((x163.f_Toks.length : Nat) : Int))) > 0)))))) rfl rfl rfl rfl ?_
          refine Eo.val (x := (.v (.bool (!(((decide (x163.f_No > y78)) && (decide (x163.f_No ≤ 16384))) && (decide ((IntKind.wrap .i64 (((x163.f_Labels.length : Nat) : Int) + ((x163.f_Toks.length : Nat) : Int))) > 0))))))) rfl rfl rfl rfl ?_
          refine Eo.val (x := (.v (.bool (!(((decide (x163.f_No > y78)) && (decide (x163.f_No ≤ 16384))) && (decide ((IntKind.wrap .i64 (((x163.f_Labels.length : Nat) : Int) + ((x163.f_Toks.length : Nat) : Int))) > 0))))))) rfl rfl rfl rfl ?_
          obtain ⟨x195, hv241, H⟩ := bind_some H
          refine Eo.cutN 5 (J := (fun (x195 : Bool) (x : X) (φ : Fr) (s : St) => x = .normal ∧ (Hp s (.blk b171 (.cells [(.v (.int .i64 x163.f_No)), a167, a169] 46) :: R) ∧ Fl [(0, a1), (5, (.v (.bool y79))), (7, (.ptr b171 0)), (16, a1), (17, (.v (.int .i64 ((p0.length : Nat) : Int)))), (18, (.v (.int .i64 y80))), (48, (.v (.bool x195)))] φ)) x195) ?_ ?_
          · have H := hv241
            cases hc196 : (!(((decide (x163.f_No > y78)) && (decide (x163.f_No ≤ 16384))) && (decide ((IntKind.wrap .i64 (((x163.f_Labels.length : Nat) : Int) + ((x163.f_Toks.length : Nat) : Int))) > 0))))
            · have H := cond_f hc196 H
              refine Eo.val (x := (.ptr b171 1)) rfl rfl rfl rfl ?_
              refine Eo.val (x := a167) (op_loadB hp179 1 rfl rfl rfl rfl) rfl rfl rfl ?_
              refine Eo.val (x := (.fn (.func 38) [] [(.ptr b176 0)])) rfl rfl rfl rfl ?_
              obtain ⟨r197, hvr197, H⟩ := bind_some H
              refine Eo.call rfl rfl rfl rfl (gslices_ContainsFunc_37_38_34_ok h168 (Hp.front (Hp.front hp179 1) 1) hvr197) ?_
              rintro _ σ199 ⟨rfl, hp198⟩
              change Hp σ199 (.blk b176 (.cells [(.fn (.func 34) [] [])] 30) :: .blk b171 (.cells [(.v (.int .i64 x163.f_No)), a167, a169] 46) :: R) at hp198
              refine Eo.val (x := (.v (.bool r197))) rfl rfl rfl rfl ?_
              refine Eo.nil ?_
              obtain rfl := Option.some.inj H
              exact And.intro rfl ⟨(Hp.drop hp198 0), (.cons rfl (.cons rfl (.cons rfl (.cons rfl (.cons rfl (.cons rfl (.cons rfl (.nil'))))))))⟩
            · have H := cond_t hc196 H
              refine Eo.off rfl rfl rfl ?_
              refine Eo.off rfl rfl rfl ?_
              refine Eo.off rfl rfl rfl ?_
              refine Eo.off rfl rfl rfl ?_
              refine Eo.val (x := (.v (.bool true))) rfl rfl rfl rfl ?_
              refine Eo.nil ?_
              obtain rfl := Option.some.inj H
              exact And.intro rfl ⟨(Hp.drop hp179 0), (.cons rfl (.cons rfl (.cons rfl (.cons rfl (.cons rfl (.cons rfl (.cons rfl (.nil'))))))))⟩
          · skip
            intro x φ202 σ201 hJ
            obtain ⟨rfl, hp200, hf203⟩ := hJ
            refine ⟨rfl, Eo.of (F := [(0, a1), (5, (.v (.bool y79))), (7, (.ptr b171 0)), (16, a1), (17, (.v (.int .i64 ((p0.length : Nat) : Int)))), (18, (.v (.int .i64 y80))), (48, (.v (.bool x195)))]) hf203 ?_⟩
            refine Eo.val (x := (.v (.bool x195))) rfl rfl rfl rfl ?_
            obtain ⟨x208, hv239, H⟩ := bind_some H
            refine Eo.cutN 4 (J := (fun (x208 : Bool) (x : X) (φ : Fr) (s : St) => x = .normal ∧ (Hp s (.blk b171 (.cells [(.v (.int .i64 x163.f_No)), a167, a169] 46) :: R) ∧ Fl [(0, a1), (5, (.v (.bool y79))), (7, (.ptr b171 0)), (16, a1), (17, (.v (.int .i64 ((p0.length : Nat) : Int)))), (18, (.v (.int .i64 y80))), (53, (.v (.bool x208)))] φ)) x208) ?_ ?_
            · have H := hv239
              cases hc209 : x195
              · have H := cond_f hc209 H
                refine Eo.val (x := (.ptr b171 2)) rfl rfl rfl rfl ?_
                refine Eo.val (x := a169) (op_loadB hp200 0 rfl rfl rfl rfl) rfl rfl rfl ?_
                obtain ⟨r210, hvr210, H⟩ := bind_some H
                refine Eo.call rfl rfl rfl rfl (gslices_ContainsFunc_39_40_ok h170 hp200 hvr210) ?_
                rintro _ σ212 ⟨rfl, hp211⟩
                change Hp σ212 (.blk b171 (.cells [(.v (.int .i64 x163.f_No)), a167, a169] 46) :: R) at hp211
                refine Eo.val (x := (.v (.bool r210))) rfl rfl rfl rfl ?_
                refine Eo.nil ?_
                obtain rfl := Option.some.inj H
                exact And.intro rfl ⟨hp211, (.cons rfl (.cons rfl (.cons rfl (.cons rfl (.cons rfl (.cons rfl (.cons rfl (.nil'))))))))⟩
              · have H := cond_t hc209 H
                refine Eo.off rfl rfl rfl ?_
                refine Eo.off rfl rfl rfl ?_
                refine Eo.off rfl rfl rfl ?_
                refine Eo.val (x := (.v (.bool true))) rfl rfl rfl rfl ?_
                refine Eo.nil ?_
                obtain rfl := Option.some.inj H
                exact And.intro rfl ⟨hp200, (.cons rfl (.cons rfl (.cons rfl (.cons rfl (.cons rfl (.cons rfl (.cons rfl (.nil'))))))))⟩
            · skip
              intro x φ215 σ214 hJ
              obtain ⟨rfl, hp213, hf216⟩ := hJ
              refine ⟨rfl, Eo.of (F := [(0, a1), (5, (.v (.bool y79))), (7, (.ptr b171 0)), (16, a1), (17, (.v (.int .i64 ((p0.length : Nat) : Int)))), (18, (.v (.int .i64 y80))), (53, (.v (.bool x208)))]) hf216 ?_⟩
              refine Eo.val (x := (.v (.bool x208))) rfl rfl rfl rfl ?_
              obtain ⟨x221, hv237, H⟩ := bind_some H
              refine Eo.cutN 4 (J := (fun (x221 : Bool) (x : X) (φ : Fr) (s : St) => x = .normal ∧ (Hp s (.blk b171 (.cells [(.v (.int .i64 x163.f_No)), a167, a169] 46) :: R) ∧ Fl [(0, a1), (5, (.v (.bool y79))), (7, (.ptr b171 0)), (16, a1), (17, (.v (.int .i64 ((p0.length : Nat) : Int)))), (18, (.v (.int .i64 y80))), (58, (.v (.bool x221)))] φ)) x221) ?_ ?_
              · have H := hv237
                cases hc222 : x208
                · have H := cond_f hc222 H
                  refine Eo.val (x := (.ptr b171 2)) rfl rfl rfl rfl ?_
                  refine Eo.val (x := a169) (op_loadB hp213 0 rfl rfl rfl rfl) rfl rfl rfl ?_
                  obtain ⟨r223, hvr223, H⟩ := bind_some H
                  refine Eo.call rfl rfl rfl rfl (gasmtext_labelled_ok h170 hp213 hvr223) ?_
                  rintro _ σ225 ⟨rfl, hp224⟩
                  refine Eo.val (x := (.v (.bool r223))) rfl rfl rfl rfl ?_
                  refine Eo.nil ?_
                  obtain rfl := Option.some.inj H
                  exact And.intro rfl ⟨hp224, (.cons rfl (.cons rfl (.cons rfl (.cons rfl (.cons rfl (.cons rfl (.cons rfl (.nil'))))))))⟩
                · have H := cond_t hc222 H
                  refine Eo.off rfl rfl rfl ?_
                  refine Eo.off rfl rfl rfl ?_
                  refine Eo.off rfl rfl rfl ?_
                  refine Eo.val (x := (.v (.bool true))) rfl rfl rfl rfl ?_
                  refine Eo.nil ?_
                  obtain rfl := Option.some.inj H
                  exact And.intro rfl ⟨hp213, (.cons rfl (.cons rfl (.cons rfl (.cons rfl (.cons rfl (.cons rfl (.cons rfl (.nil'))))))))⟩
              · skip
                intro x φ228 σ227 hJ
                obtain ⟨rfl, hp226, hf229⟩ := hJ
                refine ⟨rfl, Eo.of (F := [(0, a1), (5, (.v (.bool y79))), (7, (.ptr b171 0)), (16, a1), (17, (.v (.int .i64 ((p0.length : Nat) : Int)))), (18, (.v (.int .i64 y80))), (58, (.v (.bool x221)))]) hf229 ?_⟩
                refine Eo.nil ?_
                refine Ec.cond (t := x221) rfl (fun hc230 => ?_) (fun hc230 => ?_)
                · have H := cond_t hc230 H
                  refine Ec.seq ?_
                  refine Ec.region ?_
                  refine Eo.val (x := (.v (.string (ByteArray.mk #[])))) rfl rfl rfl rfl ?_
                  refine Eo.val (x := (.v (.int .i64 131))) rfl rfl rfl rfl ?_
                  refine Eo.nil ?_
                  obtain rfl := Option.some.inj H
                  refine Ec.ret ?_
                  refine And.intro rfl (Ret.mk rfl ?_)
                  exact ⟨rfl, (Hp.drop hp226 0)⟩
                · have H := cond_f hc230 H
                  refine Ec.skip ?_
                  refine Ec.seq ?_
                  refine Ec.region ?_
                  refine Eo.val (x := (.ptr b171 0)) rfl rfl rfl rfl ?_
                  refine Eo.val (x := (.v (.int .i64 x163.f_No))) (op_loadB hp226 0 rfl rfl rfl rfl) rfl rfl rfl ?_
                  refine Eo.val (x := (.v (.int .i64 x163.f_No))) rfl rfl rfl rfl ?_
                  refine Eo.nil ?_
                  refine Ec.region ?_
                  refine Eo.val (x := (.v (.bool y79))) rfl rfl rfl rfl ?_
                  refine Eo.val (x := (.v (.bool y79))) rfl rfl rfl rfl ?_
                  refine Eo.cutF 10 [(0, a1), (5, (.v (.bool y79))), (16, a1), (17, (.v (.int .i64 ((p0.length : Nat) : Int)))), (18, (.v (.int .i64 y80))), (4, (.v (.int .i64 x163.f_No))), (72, (.v (.bool (y79 || (decide ((IntKind.wrap .i64 ((IntKind.wrap .i64 (2 * ((x163.f_Labels.length : Nat) : Int))) + ((x163.f_Toks.length : Nat) : Int))) > 64))))))] ?_ ?_
                  · skip
                    cases hc233 : y79
                    · skip
                      refine Eo.val (x := (.ptr b171 1)) rfl rfl rfl rfl ?_
                      refine Eo.val (x := a167) (op_loadB hp226 0 rfl rfl rfl rfl) rfl rfl rfl ?_
                      refine Eo.val (x := (.v (.int .i64 ((x163.f_Labels.length : Nat) : Int)))) (op_lenL h168 rfl rfl rfl rfl rfl Tryd.underlying44) rfl rfl rfl ?_
                      refine Eo.val (x := (.v (.int .i64 (IntKind.wrap .i64 (2 * ((x163.f_Labels.length : Nat) : Int)))))) rfl rfl rfl rfl ?_
                      refine Eo.val (x := (.ptr b171 2)) rfl rfl rfl rfl ?_
                      refine Eo.val (x := a169) (op_loadB hp226 0 rfl rfl rfl rfl) rfl rfl rfl ?_
                      refine Eo.val (x := (.v (.int .i64 ((x163.f_Toks.length : Nat) : Int)))) (op_lenL h170 rfl rfl rfl rfl rfl Tryd.underlying31) rfl rfl rfl ?_
                      refine Eo.val (x := (.v (.int .i64 (IntKind.wrap .i64 ((IntKind.wrap .i64 (2 * ((x163.f_Labels.length : Nat) : Int))) + ((x163.f_Toks.length : Nat) : Int)))))) rfl rfl rfl rfl ?_
                      refine Eo.val (x := (.v (.bool (decide ((IntKind.wrap .i64 ((IntKind.wrap .i64 (2 * ((x163.f_Labels.length : Nat) : Int))) + ((x163.f_Toks.length : Nat) : Int))) > 64))))) rfl rfl rfl rfl ?_
                      refine Eo.val (x := (.v (.bool (decide ((IntKind.wrap .i64 ((IntKind.wrap .i64 (2 * ((x163.f_Labels.length : Nat) : Int))) + ((x163.f_Toks.length : Nat) : Int))) > 64))))) rfl rfl rfl rfl ?_
                      exact Eo.nil (And.intro rfl (And.intro rfl (.cons rfl (.cons rfl (.cons rfl (.cons rfl (.cons rfl (.cons rfl (.cons rfl (.nil'))))))))))
                    · skip
                      refine Eo.off rfl rfl rfl ?_
                      refine Eo.off rfl rfl rfl ?_
                      refine Eo.off rfl rfl rfl ?_
                      refine Eo.off rfl rfl rfl ?_
                      refine Eo.off rfl rfl rfl ?_
                      refine Eo.off rfl rfl rfl ?_
                      refine Eo.off rfl rfl rfl ?_
                      refine Eo.off rfl rfl rfl ?_
                      refine Eo.off rfl rfl rfl ?_
                      refine Eo.val (x := (.v (.bool true))) rfl rfl rfl rfl ?_
                      exact Eo.nil (And.intro rfl (And.intro rfl (.cons rfl (.cons rfl (.cons rfl (.cons rfl (.cons rfl (.cons rfl (.cons rfl (.nil'))))))))))
                  · skip
                    refine Eo.val (x := (.v (.bool (y79 || (decide ((IntKind.wrap .i64 ((IntKind.wrap .i64 (2 * ((x163.f_Labels.length : Nat) : Int))) + ((x163.f_Toks.length : Nat) : Int))) > 64)))))) rfl rfl rfl rfl ?_
                    refine Eo.nil ?_
                    refine Ec.region ?_
                    refine Eo.val (x := (.v (.int .i64 (IntKind.wrap .i64 (y80 + 1))))) rfl rfl rfl rfl ?_
                    refine Eo.val (x := (.v (.int .i64 (IntKind.wrap .i64 (y80 + 1))))) rfl rfl rfl rfl ?_
                    refine Eo.nil ?_
                    exact Ec.of (.cons rfl (.cons rfl (.cons rfl (.cons rfl (.cons rfl (.cons rfl (.nil'))))))) (ih ((x163.f_No, (y79 || (decide ((IntKind.wrap .i64 ((IntKind.wrap .i64 (2 * ((x163.f_Labels.length : Nat) : Int))) + ((x163.f_Toks.length : Nat) : Int))) > 64))), (IntKind.wrap .i64 (y80 + 1))), ()) _ (Hp.drop hp226 0) H)
    · have H := cond_f hc162 H
      refine Ec.exit ?_
      obtain rfl := Option.some.inj H
      exact And.intro rfl ⟨hp0, (.cons rfl (.cons rfl (.nil')))⟩
  · rcases v242 with x161 | r584
    · intro x φ246 σ245 hJ
      obtain ⟨rfl, hp244, hf247⟩ := hJ
      refine Ec.of (F := [(0, a1), (5, (.v (.bool x161)))]) hf247 ?_
      refine Ec.seq ?_
      refine Ec.region ?_
      refine Eo.alloc (z := [(.v (.pointer none)), nilS]) hp244 rfl rfl rfl rfl rfl ?_
      intro b248 σ250 hp249
      refine Eo.nil ?_
      refine Ec.seq ?_
      refine Ec.region ?_
      refine Eo.val (x := (.v (.int .i64 1))) rfl rfl rfl rfl ?_
      refine Eo.nil ?_
      refine Ec.seq ?_
      refine Ec.seq ?_
      refine Ec.region ?_
      refine Eo.val (x := a1) rfl rfl rfl rfl ?_
      refine Eo.val (x := (.v (.int .i64 ((p0.length : Nat) : Int)))) (op_lenL h2 rfl rfl rfl rfl rfl Tryd.underlying23) rfl rfl rfl ?_
      refine Eo.val (x := (.v (.int .i64 0))) rfl rfl rfl rfl ?_
      refine Eo.nil ?_
      refine Ec.block ?_
      obtain ⟨x446, hv542, H⟩ := bind_some H
      refine Ec.cut (J := (fun (x446 : (List Int)) (x : X) (φ : Fr) (s : St) => x = (.exit 2) ∧ (∃ (a444 a447 : A), AddrOk a444 b248 ∧ BufIs a447 x446 ∧ Hp s (.blk b248 (.cells [a444, a447] 67) :: .app a447 5 :: R) ∧ Fl [(0, a1), (5, (.v (.bool x161))), (10, (.ptr b248 0))] φ)) x446) (Ec.weak (.cons rfl (.cons rfl (.cons rfl (.cons rfl (.cons rfl (.cons rfl (.cons rfl (.nil')))))))) (Ec.loopF (f := (fun m (i : (Int × Int × (List Int)) × (A × A)) => gasmtext_Print_L2 n p0 m i.1.1 i.1.2.1 i.1.2.2)) (G := (fun (i : (Int × Int × (List Int)) × (A × A)) => ([(0, a1), (5, (.v (.bool x161))), (10, (.ptr b248 0)), (11, (.v (.int .i64 i.1.1))), (74, a1), (75, (.v (.int .i64 ((p0.length : Nat) : Int)))), (76, (.v (.int .i64 i.1.2.1)))] : List (Nat × A)))) (I := (fun (i : (Int × Int × (List Int)) × (A × A)) (s : St) => AddrOk i.2.1 b248 ∧ BufIs i.2.2 i.1.2.2 ∧ Hp s (.blk b248 (.cells [i.2.1, i.2.2] 67) :: .app i.2.2 5 :: R))) (J := (fun (x446 : (List Int)) (x : X) (φ : Fr) (s : St) => x = (.exit 2) ∧ (∃ (a444 a447 : A), AddrOk a444 b248 ∧ BufIs a447 x446 ∧ Hp s (.blk b248 (.cells [a444, a447] 67) :: .app a447 5 :: R) ∧ Fl [(0, a1), (5, (.v (.bool x161))), (10, (.ptr b248 0))] φ))) (fun _ => rfl) ?_ n ((1, 0, ([] : List Int)), ((.v (.pointer none)), nilS)) _ x446 ⟨(.inl rfl), BufIs.nil, (Hp.front (Hp.appNil hp249 5) 1)⟩ hv542)) ?_
      · rintro m ⟨⟨y343, y344, y348⟩, ⟨a346, a349⟩⟩ σ0 v ⟨h347, h350, hp0⟩ H ih
        change gasmtext_Print_L2 n p0 (m + 1) y343 y344 y348 = some v at H
        rw [gasmtext_Print_L2] at H
        change Ec _ _ _ [(0, a1), (5, (.v (.bool x161))), (10, (.ptr b248 0)), (11, (.v (.int .i64 y343))), (74, a1), (75, (.v (.int .i64 ((p0.length : Nat) : Int)))), (76, (.v (.int .i64 y344)))] σ0 _
        refine Ec.seq ?_
        refine Ec.region ?_
        refine Eo.val (x := (.v (.bool (decide (y344 < ((p0.length : Nat) : Int)))))) rfl rfl rfl rfl ?_
        refine Eo.nil ?_
        refine Ec.seq ?_
        refine Ec.cond (t := (decide (y344 < ((p0.length : Nat) : Int)))) rfl (fun hc449 => ?_) (fun hc449 => ?_)
        · have H := cond_t hc449 H
          refine Ec.skip ?_
          refine Ec.seq ?_
          refine Ec.block ?_
          refine Ec.seq ?_
          refine Ec.region ?_
          obtain ⟨x450, hvx450, H⟩ := bind_some H
          refine Eo.idx h2 hvx450 rfl rfl rfl Tryd.underlying23 rfl rfl rfl rfl ?_
          rintro cs451 p452 _ hat453 ⟨a454, a456, rfl, h455, h457⟩
          refine Eo.val (x := (.agg [(.v (.int .i64 x450.f_No)), a454, a456])) (op_loadSpAgg hat453 0 rfl rfl rfl rfl rfl rfl) rfl rfl rfl ?_
          refine Eo.alloc (z := [(.v (.int .i64 0)), nilS, nilS]) hp0 rfl rfl rfl rfl rfl ?_
          intro b458 σ460 hp459
          refine Eo.store hp459 0 rfl (storeCells_mk rfl rfl rfl (by simp [allOne, A.cells, h455.isOne, h457.isOne]) rfl rfl) rfl rfl rfl rfl rfl ?_
          intro σ462 hp461
          change Hp σ462 (.blk b458 (.cells [(.v (.int .i64 x450.f_No)), a454, a456] 46) :: .blk b248 (.cells [a346, a349] 67) :: .app a349 5 :: R) at hp461
          refine Eo.nil ?_
          refine Ec.seq ?_
          refine Ec.region ?_
          refine Eo.val (x := (.ptr b458 0)) rfl rfl rfl rfl ?_
          refine Eo.val (x := (.v (.int .i64 x450.f_No))) (op_loadB hp461 0 rfl rfl rfl rfl) rfl rfl rfl ?_
          refine Eo.val (x := (.v (.int .i64 y343))) rfl rfl rfl rfl ?_
          refine Eo.val (x := (.v (.int .i64 (IntKind.wrap .i64 (x450.f_No - y343))))) rfl rfl rfl rfl ?_
          obtain ⟨r463, hvr463, H⟩ := bind_some H
          refine Eo.call rfl rfl rfl rfl (prim42_ok hp461 hvr463) ?_
          rintro _ σ465 ⟨rfl, hp464⟩
          obtain ⟨l466, hvl466, H⟩ := bind_some H
          refine Eo.call rfl rfl rfl rfl (bld_WriteString h347 h350 (Hp.front (Hp.front hp464 2) 2) hvl466) ?_
          rintro _ σ472 ⟨a467, a468, rfl, h469, h470, hp471⟩
          change Hp σ472 (.blk b248 (.cells [a467, a468] 67) :: .app a468 5 :: .blk b458 (.cells [(.v (.int .i64 x450.f_No)), a454, a456] 46) :: R) at hp471
          refine Eo.nil ?_
          refine Ec.seq ?_
          refine Ec.region ?_
          refine Eo.val (x := (.ptr b458 0)) rfl rfl rfl rfl ?_
          refine Eo.val (x := (.v (.int .i64 x450.f_No))) (op_loadB hp471 2 rfl rfl rfl rfl) rfl rfl rfl ?_
          refine Eo.val (x := (.v (.int .i64 x450.f_No))) rfl rfl rfl rfl ?_
          refine Eo.nil ?_
          refine Ec.seq ?_
          refine Ec.seq ?_
          refine Ec.region ?_
          refine Eo.val (x := (.ptr b458 1)) rfl rfl rfl rfl ?_
          refine Eo.val (x := a454) (op_loadB hp471 2 rfl rfl rfl rfl) rfl rfl rfl ?_
          refine Eo.val (x := (.v (.int .i64 ((x450.f_Labels.length : Nat) : Int)))) (op_lenL h455 rfl rfl rfl rfl rfl Tryd.underlying44) rfl rfl rfl ?_
          refine Eo.val (x := (.v (.int .i64 0))) rfl rfl rfl rfl ?_
          refine Eo.nil ?_
          refine Ec.block ?_
          obtain ⟨x509, hv526, H⟩ := bind_some H
          refine Ec.cut (J := (fun (x509 : (List Int)) (x : X) (φ : Fr) (s : St) => x = (.exit 4) ∧ (∃ (a507 a510 : A), AddrOk a507 b248 ∧ BufIs a510 x509 ∧ Hp s (.blk b248 (.cells [a507, a510] 67) :: .blk b458 (.cells [(.v (.int .i64 x450.f_No)), a454, a456] 46) :: .app a510 5 :: R) ∧ Fl [(0, a1), (5, (.v (.bool x161))), (10, (.ptr b248 0)), (11, (.v (.int .i64 x450.f_No))), (13, (.ptr b458 0)), (74, a1), (75, (.v (.int .i64 ((p0.length : Nat) : Int)))), (76, (.v (.int .i64 y344)))] φ)) x509) (Ec.weak (.cons rfl (.cons rfl (.cons rfl (.cons rfl (.cons rfl (.cons rfl (.cons rfl (.cons rfl (.cons rfl (.cons rfl (.cons rfl (.nil')))))))))))) (Ec.loopF (f := (fun m (i : (Int × (List Int)) × (A × A)) => gasmtext_Print_L3 n x450 m i.1.1 i.1.2)) (G := (fun (i : (Int × (List Int)) × (A × A)) => ([(0, a1), (5, (.v (.bool x161))), (10, (.ptr b248 0)), (11, (.v (.int .i64 x450.f_No))), (13, (.ptr b458 0)), (74, a1), (75, (.v (.int .i64 ((p0.length : Nat) : Int)))), (76, (.v (.int .i64 y344))), (89, a454), (90, (.v (.int .i64 ((x450.f_Labels.length : Nat) : Int)))), (91, (.v (.int .i64 i.1.1)))] : List (Nat × A)))) (I := (fun (i : (Int × (List Int)) × (A × A)) (s : St) => AddrOk i.2.1 b248 ∧ BufIs i.2.2 i.1.2 ∧ Hp s (.blk b248 (.cells [i.2.1, i.2.2] 67) :: .blk b458 (.cells [(.v (.int .i64 x450.f_No)), a454, a456] 46) :: .app i.2.2 5 :: R))) (J := (fun (x509 : (List Int)) (x : X) (φ : Fr) (s : St) => x = (.exit 4) ∧ (∃ (a507 a510 : A), AddrOk a507 b248 ∧ BufIs a510 x509 ∧ Hp s (.blk b248 (.cells [a507, a510] 67) :: .blk b458 (.cells [(.v (.int .i64 x450.f_No)), a454, a456] 46) :: .app a510 5 :: R) ∧ Fl [(0, a1), (5, (.v (.bool x161))), (10, (.ptr b248 0)), (11, (.v (.int .i64 x450.f_No))), (13, (.ptr b458 0)), (74, a1), (75, (.v (.int .i64 ((p0.length : Nat) : Int)))), (76, (.v (.int .i64 y344)))] φ))) (fun _ => rfl) ?_ n ((0, l466), (a467, a468)) _ x509 ⟨h469, h470, (Hp.front (Hp.front (Hp.front hp471 1) 2) 2)⟩ hv526)) ?_
          · rintro m ⟨⟨y486, y490⟩, ⟨a488, a491⟩⟩ σ0 v ⟨h489, h492, hp0⟩ H ih
            change gasmtext_Print_L3 n x450 (m + 1) y486 y490 = some v at H
            rw [gasmtext_Print_L3] at H
            change Ec _ _ _ [(0, a1), (5, (.v (.bool x161))), (10, (.ptr b248 0)), (11, (.v (.int .i64 x450.f_No))), (13, (.ptr b458 0)), (74, a1), (75, (.v (.int .i64 ((p0.length : Nat) : Int)))), (76, (.v (.int .i64 y344))), (89, a454), (90, (.v (.int .i64 ((x450.f_Labels.length : Nat) : Int)))), (91, (.v (.int .i64 y486)))] σ0 _
            refine Ec.seq ?_
            refine Ec.region ?_
            refine Eo.val (x := (.v (.bool (decide (y486 < ((x450.f_Labels.length : Nat) : Int)))))) rfl rfl rfl rfl ?_
            refine Eo.nil ?_
            refine Ec.seq ?_
            refine Ec.cond (t := (decide (y486 < ((x450.f_Labels.length : Nat) : Int)))) rfl (fun hc512 => ?_) (fun hc512 => ?_)
            · have H := cond_t hc512 H
              refine Ec.skip ?_
              refine Ec.seq ?_
              refine Ec.block ?_
              refine Ec.seq ?_
              refine Ec.region ?_
              obtain ⟨x513, hvx513, H⟩ := bind_some H
              refine Eo.idx h455 hvx513 rfl rfl rfl Tryd.underlying44 rfl rfl rfl rfl ?_
              rintro cs514 p515 _ hat516 rfl
              refine Eo.val (x := (.v (.string x513))) (op_loadSp hat516 0 rfl rfl rfl rfl rfl) rfl rfl rfl ?_
              refine Eo.val (x := (.v (.string x513))) rfl rfl rfl rfl ?_
              refine Eo.nil ?_
              refine Ec.region ?_
              refine Eo.val (x := (.v (.string x513))) rfl rfl rfl rfl ?_
              obtain ⟨s517, hvs517, H⟩ := bind_some H
              refine Eo.val (op_catS hvs517 rfl rfl rfl) rfl rfl rfl ?_
              obtain ⟨l518, hvl518, H⟩ := bind_some H
              refine Eo.call rfl rfl rfl rfl (bld_WriteString h489 h492 (Hp.front (Hp.front (Hp.front hp0 1) 2) 2) hvl518) ?_
              rintro _ σ524 ⟨a519, a520, rfl, h521, h522, hp523⟩
              change Hp σ524 (.blk b248 (.cells [a519, a520] 67) :: .app a520 5 :: .blk b458 (.cells [(.v (.int .i64 x450.f_No)), a454, a456] 46) :: R) at hp523
              refine Eo.nil ?_
              refine Ec.region ?_
              refine Eo.val (x := (.v (.int .i64 (IntKind.wrap .i64 (y486 + 1))))) rfl rfl rfl rfl ?_
              refine Eo.val (x := (.v (.int .i64 (IntKind.wrap .i64 (y486 + 1))))) rfl rfl rfl rfl ?_
              refine Eo.nil ?_
              exact Ec.of (.cons rfl (.cons rfl (.cons rfl (.cons rfl (.cons rfl (.cons rfl (.cons rfl (.cons rfl (.cons rfl (.cons rfl (.cons rfl (.nil')))))))))))) (ih (((IntKind.wrap .i64 (y486 + 1)), l518), (a519, a520)) _ ⟨h521, h522, (Hp.front (Hp.front (Hp.front hp523 1) 2) 2)⟩ H)
            · have H := cond_f hc512 H
              refine Ec.exit ?_
              obtain rfl := Option.some.inj H
              exact And.intro rfl ⟨a488, a491, h489, h492, (Hp.front (Hp.front (Hp.front hp0 2) 2) 2), (.cons rfl (.cons rfl (.cons rfl (.cons rfl (.cons rfl (.cons rfl (.cons rfl (.cons rfl (.nil')))))))))⟩
          · skip
            intro x φ529 σ528 hJ
            obtain ⟨rfl, a507, a510, h508, h511, hp527, hf530⟩ := hJ
            refine Ec.of (F := [(0, a1), (5, (.v (.bool x161))), (10, (.ptr b248 0)), (11, (.v (.int .i64 x450.f_No))), (13, (.ptr b458 0)), (74, a1), (75, (.v (.int .i64 ((p0.length : Nat) : Int)))), (76, (.v (.int .i64 y344)))]) hf530 ?_
            refine Ec.region ?_
            refine Eo.val (x := (.ptr b458 2)) rfl rfl rfl rfl ?_
            refine Eo.val (x := a456) (op_loadB hp527 1 rfl rfl rfl rfl) rfl rfl rfl ?_
            obtain ⟨r531, hvr531, H⟩ := bind_some H
            refine Eo.call rfl rfl rfl rfl (gasmtext_Join_ok h457 hp527 hvr531) ?_
            rintro _ σ533 ⟨rfl, hp532⟩
            obtain ⟨l534, hvl534, H⟩ := bind_some H
            refine Eo.call rfl rfl rfl rfl (bld_WriteString h508 h511 (Hp.front (Hp.front (Hp.front hp532 1) 2) 2) hvl534) ?_
            rintro _ σ540 ⟨a535, a536, rfl, h537, h538, hp539⟩
            change Hp σ540 (.blk b248 (.cells [a535, a536] 67) :: .app a536 5 :: .blk b458 (.cells [(.v (.int .i64 x450.f_No)), a454, a456] 46) :: R) at hp539
            refine Eo.nil ?_
            refine Ec.region ?_
            refine Eo.val (x := (.v (.int .i64 (IntKind.wrap .i64 (y344 + 1))))) rfl rfl rfl rfl ?_
            refine Eo.val (x := (.v (.int .i64 (IntKind.wrap .i64 (y344 + 1))))) rfl rfl rfl rfl ?_
            refine Eo.nil ?_
            exact Ec.of (.cons rfl (.cons rfl (.cons rfl (.cons rfl (.cons rfl (.cons rfl (.cons rfl (.nil')))))))) (ih ((x450.f_No, (IntKind.wrap .i64 (y344 + 1)), l534), (a535, a536)) _ ⟨h537, h538, (Hp.front (Hp.front (Hp.drop hp539 2) 1) 1)⟩ H)
        · have H := cond_f hc449 H
          refine Ec.exit ?_
          obtain rfl := Option.some.inj H
          exact And.intro rfl ⟨a346, a349, h347, h350, (Hp.front (Hp.front hp0 1) 1), (.cons rfl (.cons rfl (.cons rfl (.nil'))))⟩
      · skip
        intro x φ545 σ544 hJ
        obtain ⟨rfl, a444, a447, h445, h448, hp543, hf546⟩ := hJ
        refine Ec.of (F := [(0, a1), (5, (.v (.bool x161))), (10, (.ptr b248 0))]) hf546 ?_
        refine Ec.seq ?_
        refine Ec.seq ?_
        refine Ec.region ?_
        refine Eo.val (x := a1) rfl rfl rfl rfl ?_
        refine Eo.val (x := (.v (.int .i64 ((p0.length : Nat) : Int)))) (op_lenL h2 rfl rfl rfl rfl rfl Tryd.underlying23) rfl rfl rfl ?_
        refine Eo.val (x := (.v (.bool (decide (((p0.length : Nat) : Int) > 0))))) rfl rfl rfl rfl ?_
        refine Eo.nil ?_
        obtain ⟨x558, hv583, H⟩ := bind_some H
        refine Ec.cut (J := (fun (x558 : (List Int)) (x : X) (φ : Fr) (s : St) => x = .normal ∧ (∃ (a556 a559 : A), AddrOk a556 b248 ∧ BufIs a559 x558 ∧ Hp s (.blk b248 (.cells [a556, a559] 67) :: .app a559 5 :: R) ∧ Fl [(5, (.v (.bool x161))), (10, (.ptr b248 0))] φ)) x558) ?_ ?_
        · have H := hv583
          refine Ec.cond (t := (decide (((p0.length : Nat) : Int) > 0))) rfl (fun hc561 => ?_) (fun hc561 => ?_)
          · have H := cond_t hc561 H
            refine Ec.region ?_
            obtain ⟨l562, hvl562, H⟩ := bind_some H
            refine Eo.call rfl rfl rfl rfl (bld_WriteByte h445 h448 (Hp.front (Hp.front hp543 1) 1) hvl562) ?_
            rintro _ σ568 ⟨a563, a564, rfl, h565, h566, hp567⟩
            change Hp σ568 (.blk b248 (.cells [a563, a564] 67) :: .app a564 5 :: R) at hp567
            refine Eo.nil ?_
            obtain rfl := Option.some.inj H
            exact And.intro rfl ⟨a563, a564, h565, h566, (Hp.front (Hp.front hp567 1) 1), (.cons rfl (.cons rfl (.nil')))⟩
          · have H := cond_f hc561 H
            refine Ec.skip ?_
            obtain rfl := Option.some.inj H
            exact And.intro rfl ⟨a444, a447, h445, h448, (Hp.front (Hp.front hp543 1) 1), (.cons rfl (.cons rfl (.nil')))⟩
        · skip
          intro x φ571 σ570 hJ
          obtain ⟨rfl, a556, a559, h557, h560, hp569, hf572⟩ := hJ
          refine Ec.of (F := [(5, (.v (.bool x161))), (10, (.ptr b248 0))]) hf572 ?_
          refine Ec.seq ?_
          refine Ec.seq ?_
          refine Ec.region ?_
          refine Eo.val (x := (.v (.bool x161))) rfl rfl rfl rfl ?_
          refine Eo.val (x := (.v (.bool x161))) rfl rfl rfl rfl ?_
          refine Eo.cutF 3 [(10, (.ptr b248 0)), (112, (.v (.bool (x161 || (decide (((x558.length : Nat) : Int) > 262144))))))] ?_ ?_
          · skip
            cases hc575 : x161
            · skip
              refine Eo.call rfl rfl rfl rfl (bld_Len h560 hp569 0 rfl) ?_
              rintro _ _ ⟨rfl, rfl⟩
              refine Eo.val (x := (.v (.bool (decide (((x558.length : Nat) : Int) > 262144))))) rfl rfl rfl rfl ?_
              refine Eo.val (x := (.v (.bool (decide (((x558.length : Nat) : Int) > 262144))))) rfl rfl rfl rfl ?_
              exact Eo.nil (And.intro rfl (And.intro rfl (.cons rfl (.cons rfl (.nil')))))
            · skip
              refine Eo.off rfl rfl rfl ?_
              refine Eo.off rfl rfl rfl ?_
              refine Eo.val (x := (.v (.bool true))) rfl rfl rfl rfl ?_
              exact Eo.nil (And.intro rfl (And.intro rfl (.cons rfl (.cons rfl (.nil')))))
          · skip
            refine Eo.nil ?_
            refine Ec.cond (t := (x161 || (decide (((x558.length : Nat) : Int) > 262144)))) rfl (fun hc578 => ?_) (fun hc578 => ?_)
            · have H := cond_t hc578 H
              refine Ec.seq ?_
              refine Ec.region ?_
              refine Eo.val (x := (.v (.string (ByteArray.mk #[])))) rfl rfl rfl rfl ?_
              refine Eo.val (x := (.v (.int .i64 133))) rfl rfl rfl rfl ?_
              refine Eo.nil ?_
              obtain rfl := Option.some.inj H
              refine Ec.ret ?_
              refine Ret.mk rfl ?_
              exact ⟨rfl, (Hp.drop (Hp.drop hp569 0) 0)⟩
            · have H := cond_f hc578 H
              refine Ec.skip ?_
              refine Ec.seq ?_
              refine Ec.region ?_
              obtain ⟨s579, hvs579, H⟩ := bind_some H
              refine Eo.call rfl rfl rfl rfl (bld_String h557 h560 (Hp.front (Hp.front hp569 1) 1) hvs579) ?_
              rintro _ σ581 ⟨rfl, hp580⟩
              change Hp σ581 (.blk b248 (.cells [a556, a559] 67) :: .app a559 5 :: R) at hp580
              refine Eo.val (x := (.v (.string s579))) rfl rfl rfl rfl ?_
              refine Eo.val (x := (.v (.int .i64 0))) rfl rfl rfl rfl ?_
              refine Eo.nil ?_
              obtain rfl := Option.some.inj H
              refine Ec.ret ?_
              refine Ret.mk rfl ?_
              exact ⟨rfl, (Hp.drop (Hp.drop hp580 0) 0)⟩
    · intro x φ585 σ586 hJ
      obtain rfl := Option.some.inj H
      obtain ⟨rfl, hr⟩ := hJ
      exact hr

def gdovetaillaw13_AsmtextTwice (n : Nat) (p0 : ByteArray) : Option (Bool) := ((gdovetaillaw13_asmtextAlive n ).bind fun r1 => (cond (!r1) (some false) (((gasmtext_Parse n p0).bind fun v => match v with | (r6, r7, r8) => (cond (r8 != 0) (some (((r6.length : Nat) : Int) == 0)) (((gasmtext_Print n r6).bind fun v => match v with | (r15, r16) => (cond (r16 != 0) (some (r16 == 133)) (((gasmtext_Parse n r15).bind fun v => match v with | (r21, r22, r23) => (((cond (r23 == 0) (((gdovetailref13_Same n r21 r6).bind fun r34 => some r34)) (some false)) : Option (Bool)).bind fun x32 => some x32)))))))))))

def gdovetaillaw13_AsmtextTwice_post (R : List Res) (r : Bool) (x : A) (s : St) : Prop := x = (.v (.bool r)) ∧ Hp s (R)

theorem gdovetaillaw13_AsmtextTwice_ok {n : Nat} {p0 : ByteArray} {R : List Res} {σ : St} (hp : Hp σ R) {r : Bool} (H : gdovetaillaw13_AsmtextTwice n p0 = some r) : Ca cfg 7 [(.v (.string p0))] σ (gdovetaillaw13_AsmtextTwice_post R r) := by
  unfold gdovetaillaw13_AsmtextTwice at H
  refine Ca.enterL (G := [(0, (.v (.string p0)))]) Tryd.func7 rfl rfl rfl rfl ?_
  refine Ec.seq ?_
  refine Ec.region ?_
  refine Eo.val (x := (.v (.bool false))) rfl rfl rfl rfl ?_
  refine Eo.nil ?_
  refine Ec.seq ?_
  refine Ec.seq ?_
  refine Ec.region ?_
  obtain ⟨r1, hvr1, H⟩ := bind_some H
  refine Eo.call rfl rfl rfl rfl (gdovetaillaw13_asmtextAlive_ok hp hvr1) ?_
  rintro _ σ3 ⟨rfl, hp2⟩
  refine Eo.val (x := (.v (.bool (!r1)))) rfl rfl rfl rfl ?_
  refine Eo.nil ?_
  refine Ec.cond (t := (!r1)) rfl (fun hc4 => ?_) (fun hc4 => ?_)
  · have H := cond_t hc4 H
    refine Ec.seq ?_
    refine Ec.region ?_
    refine Eo.val (x := (.v (.bool false))) rfl rfl rfl rfl ?_
    refine Eo.nil ?_
    obtain rfl := Option.some.inj H
    refine Ec.ret ?_
    refine Ret.mk rfl ?_
    exact ⟨rfl, hp2⟩
  · have H := cond_f hc4 H
    refine Ec.skip ?_
    refine Ec.seq ?_
    refine Ec.region ?_
    refine Eo.val (x := (.v (.string p0))) rfl rfl rfl rfl ?_
    obtain ⟨r5, hvr5, H⟩ := bind_some H
    refine Eo.call rfl rfl rfl rfl (gasmtext_Parse_ok hp2 hvr5) ?_
    obtain ⟨r6, r7, r8⟩ := r5
    rintro _ σ12 ⟨a9, rfl, h10, hp11⟩
    change Hp σ12 (.app a9 46 :: R) at hp11
    refine Eo.val (x := (.tup [a9, (.v (.int .i64 r7)), (.v (.int .i64 r8))])) rfl rfl rfl rfl ?_
    refine Eo.val (x := a9) rfl rfl rfl rfl ?_
    refine Eo.val (x := (.v (.int .i64 r7))) rfl rfl rfl rfl ?_
    refine Eo.val (x := (.v (.int .i64 r8))) rfl rfl rfl rfl ?_
    refine Eo.val (x := a9) rfl rfl rfl rfl ?_
    refine Eo.val (x := (.v (.int .i64 r7))) rfl rfl rfl rfl ?_
    refine Eo.val (x := (.v (.int .i64 r8))) rfl rfl rfl rfl ?_
    refine Eo.nil ?_
    refine Ec.seq ?_
    refine Ec.seq ?_
    refine Ec.region ?_
    refine Eo.val (x := (.v (.int .i64 r8))) rfl rfl rfl rfl ?_
    refine Eo.val (x := (.v (.bool (r8 != 0)))) rfl rfl rfl rfl ?_
    refine Eo.nil ?_
    refine Ec.cond (t := (r8 != 0)) rfl (fun hc13 => ?_) (fun hc13 => ?_)
    · have H := cond_t hc13 H
      refine Ec.seq ?_
      refine Ec.region ?_
      refine Eo.val (x := a9) rfl rfl rfl rfl ?_
      refine Eo.val (x := (.v (.int .i64 ((r6.length : Nat) : Int)))) (op_lenL h10 rfl rfl rfl rfl rfl Tryd.underlying23) rfl rfl rfl ?_
      refine Eo.val (x := (.v (.bool (((r6.length : Nat) : Int) == 0)))) rfl rfl rfl rfl ?_
      refine Eo.val (x := (.v (.bool (((r6.length : Nat) : Int) == 0)))) rfl rfl rfl rfl ?_
      refine Eo.nil ?_
      obtain rfl := Option.some.inj H
      refine Ec.ret ?_
      refine Ret.mk rfl ?_
      exact ⟨rfl, (Hp.drop hp11 0)⟩
    · have H := cond_f hc13 H
      refine Ec.skip ?_
      refine Ec.seq ?_
      refine Ec.region ?_
      refine Eo.val (x := a9) rfl rfl rfl rfl ?_
      obtain ⟨r14, hvr14, H⟩ := bind_some H
      refine Eo.call rfl rfl rfl rfl (gasmtext_Print_ok h10 hp11 hvr14) ?_
      obtain ⟨r15, r16⟩ := r14
      rintro _ σ18 ⟨rfl, hp17⟩
      refine Eo.val (x := (.tup [(.v (.string r15)), (.v (.int .i64 r16))])) rfl rfl rfl rfl ?_
      refine Eo.val (x := (.v (.string r15))) rfl rfl rfl rfl ?_
      refine Eo.val (x := (.v (.int .i64 r16))) rfl rfl rfl rfl ?_
      refine Eo.val (x := (.v (.string r15))) rfl rfl rfl rfl ?_
      refine Eo.val (x := (.v (.int .i64 r16))) rfl rfl rfl rfl ?_
      refine Eo.nil ?_
      refine Ec.seq ?_
      refine Ec.seq ?_
      refine Ec.region ?_
      refine Eo.val (x := (.v (.int .i64 r16))) rfl rfl rfl rfl ?_
      refine Eo.val (x := (.v (.bool (r16 != 0)))) rfl rfl rfl rfl ?_
      refine Eo.nil ?_
      refine Ec.cond (t := (r16 != 0)) rfl (fun hc19 => ?_) (fun hc19 => ?_)
      · have H := cond_t hc19 H
        refine Ec.seq ?_
        refine Ec.region ?_
        refine Eo.val (x := (.v (.int .i64 r16))) rfl rfl rfl rfl ?_
        refine Eo.val (x := (.v (.bool (r16 == 133)))) rfl rfl rfl rfl ?_
        refine Eo.val (x := (.v (.bool (r16 == 133)))) rfl rfl rfl rfl ?_
        refine Eo.nil ?_
        obtain rfl := Option.some.inj H
        refine Ec.ret ?_
        refine Ret.mk rfl ?_
        exact ⟨rfl, (Hp.drop hp17 0)⟩
      · have H := cond_f hc19 H
        refine Ec.skip ?_
        refine Ec.seq ?_
        refine Ec.region ?_
        refine Eo.val (x := (.v (.string r15))) rfl rfl rfl rfl ?_
        obtain ⟨r20, hvr20, H⟩ := bind_some H
        refine Eo.call rfl rfl rfl rfl (gasmtext_Parse_ok hp17 hvr20) ?_
        obtain ⟨r21, r22, r23⟩ := r20
        rintro _ σ27 ⟨a24, rfl, h25, hp26⟩
        change Hp σ27 (.app a24 46 :: .app a9 46 :: R) at hp26
        refine Eo.val (x := (.tup [a24, (.v (.int .i64 r22)), (.v (.int .i64 r23))])) rfl rfl rfl rfl ?_
        refine Eo.val (x := a24) rfl rfl rfl rfl ?_
        refine Eo.val (x := (.v (.int .i64 r22))) rfl rfl rfl rfl ?_
        refine Eo.val (x := (.v (.int .i64 r23))) rfl rfl rfl rfl ?_
        refine Eo.val (x := a24) rfl rfl rfl rfl ?_
        refine Eo.val (x := (.v (.int .i64 r22))) rfl rfl rfl rfl ?_
        refine Eo.val (x := (.v (.int .i64 r23))) rfl rfl rfl rfl ?_
        refine Eo.nil ?_
        refine Ec.seq ?_
        refine Ec.region ?_
        refine Eo.val (x := (.v (.int .i64 r23))) rfl rfl rfl rfl ?_
        refine Eo.val (x := (.v (.bool (r23 == 0)))) rfl rfl rfl rfl ?_
        refine Eo.val (x := (.v (.bool (r23 == 0)))) rfl rfl rfl rfl ?_
        obtain ⟨x32, hv42, H⟩ := bind_some H
        refine Eo.cutN 4 (J := (fun (x32 : Bool) (x : X) (φ : Fr) (s : St) => x = .normal ∧ (Hp s (R) ∧ Fl [(2, (.v (.bool false))), (45, (.v (.bool x32)))] φ)) x32) ?_ ?_
        · have H := hv42
          cases hc33 : (r23 == 0)
          · have H := cond_f hc33 H
            refine Eo.off rfl rfl rfl ?_
            refine Eo.off rfl rfl rfl ?_
            refine Eo.off rfl rfl rfl ?_
            refine Eo.val (x := (.v (.bool false))) rfl rfl rfl rfl ?_
            refine Eo.nil ?_
            obtain rfl := Option.some.inj H
            exact And.intro rfl ⟨(Hp.drop (Hp.drop hp26 0) 0), (.cons rfl (.cons rfl (.nil')))⟩
          · have H := cond_t hc33 H
            refine Eo.val (x := a24) rfl rfl rfl rfl ?_
            refine Eo.val (x := a9) rfl rfl rfl rfl ?_
            obtain ⟨r34, hvr34, H⟩ := bind_some H
            refine Eo.call rfl rfl rfl rfl (gdovetailref13_Same_ok h25 h10 hp26 hvr34) ?_
            rintro _ σ36 ⟨rfl, hp35⟩
            refine Eo.val (x := (.v (.bool r34))) rfl rfl rfl rfl ?_
            refine Eo.nil ?_
            obtain rfl := Option.some.inj H
            exact And.intro rfl ⟨(Hp.drop (Hp.drop hp35 0) 0), (.cons rfl (.cons rfl (.nil')))⟩
        · skip
          intro x φ39 σ38 hJ
          obtain ⟨rfl, hp37, hf40⟩ := hJ
          refine ⟨rfl, Eo.of (F := [(2, (.v (.bool false))), (45, (.v (.bool x32)))]) hf40 ?_⟩
          refine Eo.val (x := (.v (.bool x32))) rfl rfl rfl rfl ?_
          refine Eo.nil ?_
          obtain rfl := Option.some.inj H
          refine Ec.ret ?_
          refine Ret.mk rfl ?_
          exact ⟨rfl, hp37⟩

end Go.DM
