/- Typed functions of the program's functions, and the walks that show that the calls come to them. No condition. -/
import Derived.Test.YtamnkpmfnphjlaaDoorDmF
import Derived.Test.YtamnkpmfnphjlaaDoorWalk2
namespace Go.DM
open Go Go.Proofs
set_option maxRecDepth 100000
set_option maxHeartbeats 1000000

def gasmtext_quote_L1 (N : Nat) (p0 : ByteArray) : Nat → Int → (List Int) → Option ((List Int))
  | 0, _, _ => none
  | m + 1, y140, y144 => (cond (decide (y140 < ((p0.size : Nat) : Int))) (((((atS p0 y140).bind fun b347 => (cond ((((decide (b347 < 32)) || (decide (b347 > 126))) || (b347 == 34)) || (b347 == 92)) (((((subS (ByteArray.mk #[48, 49, 50, 51, 52, 53, 54, 55, 56, 57, 97, 98, 99, 100, 101, 102]) (Int.fdiv b347 (2 ^ 4)) (IntKind.wrap .u8 ((Int.fdiv b347 (2 ^ 4)) + 1))).bind fun s381 => ((catS (ByteArray.mk #[92, 120]) s381).bind fun s382 => ((subS (ByteArray.mk #[48, 49, 50, 51, 52, 53, 54, 55, 56, 57, 97, 98, 99, 100, 101, 102]) (IntKind.wrap .u8 ((BitVec.ofInt 8 b347 &&& BitVec.ofInt 8 15).toNat : Nat)) (IntKind.wrap .u8 ((IntKind.wrap .u8 ((BitVec.ofInt 8 b347 &&& BitVec.ofInt 8 15).toNat : Nat)) + 1))).bind fun s383 => ((catS s382 s383).bind fun s384 => ((appL 1 y144 (bs s384)).bind fun l385 => some l385))))) : Option ((List Int))).bind fun x378 => some x378)) (((appL 1 y144 ([b347] : List Int)).bind fun l398 => some l398)))) : Option ((List Int))).bind fun x344 => gasmtext_quote_L1 N p0 m (IntKind.wrap .i64 (y140 + 1)) x344)) (some y144))

def gasmtext_quote (n : Nat) (p0 : ByteArray) : Option (ByteArray) := ((appL 1 ([] : List Int) ([34] : List Int)).bind fun l4 => ((gasmtext_quote_L1 n p0 n 0 l4).bind fun x279 => ((appL 1 x279 ([34] : List Int)).bind fun l417 => ((strT l417).bind fun s424 => some s424))))

def gasmtext_quote_post (R : List Res) (r : ByteArray) (x : A) (s : St) : Prop := x = (.v (.string r)) ∧ Hp s (R)

theorem gasmtext_quote_ok {n : Nat} {p0 : ByteArray} {R : List Res} {σ : St} (hp : Hp σ R) {r : ByteArray} (H : gasmtext_quote n p0 = some r) : Ca cfg 31 [(.v (.string p0))] σ (gasmtext_quote_post R r) := by
  unfold gasmtext_quote at H
  refine Ca.enterL (G := [(0, (.v (.string p0)))]) Tryd.func31 rfl rfl rfl rfl ?_
  refine Ec.seq ?_
  refine Ec.region ?_
  refine Eo.val (x := (.v (.string (ByteArray.mk #[])))) rfl rfl rfl rfl ?_
  refine Eo.nil ?_
  refine Ec.seq ?_
  refine Ec.region ?_
  refine Eo.alloc (z := [(.v (.pointer none)), nilS]) hp rfl rfl rfl rfl rfl ?_
  intro b1 σ3 hp2
  refine Eo.nil ?_
  refine Ec.seq ?_
  refine Ec.region ?_
  obtain ⟨l4, hvl4, H⟩ := bind_some H
  refine Eo.call rfl rfl rfl rfl (bld_WriteByte (.inl rfl) BufIs.nil (Hp.front (Hp.appNil hp2 5) 1) hvl4) ?_
  rintro _ σ10 ⟨a5, a6, rfl, h7, h8, hp9⟩
  change Hp σ10 (.blk b1 (.cells [a5, a6] 67) :: .app a6 5 :: R) at hp9
  refine Eo.nil ?_
  refine Ec.seq ?_
  refine Ec.seq ?_
  refine Ec.region ?_
  refine Eo.val (x := (.v (.string p0))) rfl rfl rfl rfl ?_
  refine Eo.val (x := (.v (.int .i64 ((p0.size : Nat) : Int)))) (op_len rfl rfl rfl rfl rfl Tryd.underlying9) rfl rfl rfl ?_
  refine Eo.val (x := (.v (.int .i64 0))) rfl rfl rfl rfl ?_
  refine Eo.nil ?_
  refine Ec.block ?_
  obtain ⟨x279, hv412, H⟩ := bind_some H
  refine Ec.cut (J := (fun (x279 : (List Int)) (x : X) (φ : Fr) (s : St) => x = (.exit 0) ∧ (∃ (a277 a280 : A), AddrOk a277 b1 ∧ BufIs a280 x279 ∧ Hp s (.blk b1 (.cells [a277, a280] 67) :: .app a280 5 :: R) ∧ Fl [(3, (.ptr b1 0))] φ)) x279) (Ec.weak (.cons rfl (.cons rfl (.cons rfl (.cons rfl (.nil'))))) (Ec.loopF (f := (fun m (i : (Int × (List Int)) × (A × A)) => gasmtext_quote_L1 n p0 m i.1.1 i.1.2)) (G := (fun (i : (Int × (List Int)) × (A × A)) => ([(0, (.v (.string p0))), (3, (.ptr b1 0)), (8, (.v (.int .i64 ((p0.size : Nat) : Int)))), (9, (.v (.int .i64 i.1.1)))] : List (Nat × A)))) (I := (fun (i : (Int × (List Int)) × (A × A)) (s : St) => AddrOk i.2.1 b1 ∧ BufIs i.2.2 i.1.2 ∧ Hp s (.blk b1 (.cells [i.2.1, i.2.2] 67) :: .app i.2.2 5 :: R))) (J := (fun (x279 : (List Int)) (x : X) (φ : Fr) (s : St) => x = (.exit 0) ∧ (∃ (a277 a280 : A), AddrOk a277 b1 ∧ BufIs a280 x279 ∧ Hp s (.blk b1 (.cells [a277, a280] 67) :: .app a280 5 :: R) ∧ Fl [(3, (.ptr b1 0))] φ))) (fun _ => rfl) ?_ n ((0, l4), (a5, a6)) _ x279 ⟨h7, h8, (Hp.front (Hp.front hp9 1) 1)⟩ hv412)) ?_
  · rintro m ⟨⟨y140, y144⟩, ⟨a142, a145⟩⟩ σ0 v ⟨h143, h146, hp0⟩ H ih
    change gasmtext_quote_L1 n p0 (m + 1) y140 y144 = some v at H
    rw [gasmtext_quote_L1] at H
    change Ec _ _ _ [(0, (.v (.string p0))), (3, (.ptr b1 0)), (8, (.v (.int .i64 ((p0.size : Nat) : Int)))), (9, (.v (.int .i64 y140)))] σ0 _
    refine Ec.seq ?_
    refine Ec.region ?_
    refine Eo.val (x := (.v (.bool (decide (y140 < ((p0.size : Nat) : Int)))))) rfl rfl rfl rfl ?_
    refine Eo.nil ?_
    refine Ec.seq ?_
    refine Ec.cond (t := (decide (y140 < ((p0.size : Nat) : Int)))) rfl (fun hc282 => ?_) (fun hc282 => ?_)
    · have H := cond_t hc282 H
      refine Ec.skip ?_
      refine Ec.seq ?_
      obtain ⟨x344, hv410, H⟩ := bind_some H
      refine Ec.cut (J := (fun (x344 : (List Int)) (x : X) (φ : Fr) (s : St) => x = .normal ∧ (∃ (a342 a345 : A), AddrOk a342 b1 ∧ BufIs a345 x344 ∧ Hp s (.blk b1 (.cells [a342, a345] 67) :: .app a345 5 :: R) ∧ Fl [(0, (.v (.string p0))), (3, (.ptr b1 0)), (8, (.v (.int .i64 ((p0.size : Nat) : Int)))), (9, (.v (.int .i64 y140)))] φ)) x344) ?_ ?_
      · have H := hv410
        refine Ec.block ?_
        refine Ec.seq ?_
        refine Ec.region ?_
        refine Eo.val (x := (.v (.int .i64 y140))) rfl rfl rfl rfl ?_
        refine Eo.val (x := (.v (.int .i64 y140))) rfl rfl rfl rfl ?_
        refine Eo.nil ?_
        refine Ec.seq ?_
        refine Ec.region ?_
        refine Eo.val (x := (.v (.string p0))) rfl rfl rfl rfl ?_
        refine Eo.val (x := (.v (.int .i64 y140))) rfl rfl rfl rfl ?_
        obtain ⟨b347, hvb347, H⟩ := bind_some H
        refine Eo.val (op_byteS hvb347 rfl rfl rfl Tryd.underlying9) rfl rfl rfl ?_
        refine Eo.val (x := (.v (.int .u8 b347))) rfl rfl rfl rfl ?_
        refine Eo.nil ?_
        refine Ec.seq ?_
        refine Ec.region ?_
        refine Eo.val (x := (.v (.int .u8 b347))) rfl rfl rfl rfl ?_
        refine Eo.val (x := (.v (.bool (decide (b347 < 32))))) rfl rfl rfl rfl ?_
        refine Eo.val (x := (.v (.bool (decide (b347 < 32))))) rfl rfl rfl rfl ?_
        refine Eo.cutF 3 [(0, (.v (.string p0))), (3, (.ptr b1 0)), (8, (.v (.int .i64 ((p0.size : Nat) : Int)))), (9, (.v (.int .i64 y140))), (5, (.v (.int .u8 b347))), (20, (.v (.bool ((decide (b347 < 32)) || (decide (b347 > 126))))))] ?_ ?_
        · skip
          cases hc350 : (decide (b347 < 32))
          · skip
            refine Eo.val (x := (.v (.int .u8 b347))) rfl rfl rfl rfl ?_
            refine Eo.val (x := (.v (.bool (decide (b347 > 126))))) rfl rfl rfl rfl ?_
            refine Eo.val (x := (.v (.bool (decide (b347 > 126))))) rfl rfl rfl rfl ?_
            exact Eo.nil (And.intro rfl (And.intro rfl (.cons rfl (.cons rfl (.cons rfl (.cons rfl (.cons rfl (.cons rfl (.nil')))))))))
          · skip
            refine Eo.off rfl rfl rfl ?_
            refine Eo.off rfl rfl rfl ?_
            refine Eo.val (x := (.v (.bool true))) rfl rfl rfl rfl ?_
            exact Eo.nil (And.intro rfl (And.intro rfl (.cons rfl (.cons rfl (.cons rfl (.cons rfl (.cons rfl (.cons rfl (.nil')))))))))
        · skip
          refine Eo.val (x := (.v (.bool ((decide (b347 < 32)) || (decide (b347 > 126)))))) rfl rfl rfl rfl ?_
          refine Eo.cutF 3 [(0, (.v (.string p0))), (3, (.ptr b1 0)), (8, (.v (.int .i64 ((p0.size : Nat) : Int)))), (9, (.v (.int .i64 y140))), (5, (.v (.int .u8 b347))), (24, (.v (.bool (((decide (b347 < 32)) || (decide (b347 > 126))) || (b347 == 34)))))] ?_ ?_
          · skip
            cases hc355 : ((decide (b347 < 32)) || (decide (b347 > 126)))
            · skip
              refine Eo.val (x := (.v (.int .u8 b347))) rfl rfl rfl rfl ?_
              refine Eo.val (x := (.v (.bool (b347 == 34)))) rfl rfl rfl rfl ?_
              refine Eo.val (x := (.v (.bool (b347 == 34)))) rfl rfl rfl rfl ?_
              exact Eo.nil (And.intro rfl (And.intro rfl (.cons rfl (.cons rfl (.cons rfl (.cons rfl (.cons rfl (.cons rfl (.nil')))))))))
            · skip
              refine Eo.off rfl rfl rfl ?_
              refine Eo.off rfl rfl rfl ?_
              refine Eo.val (x := (.v (.bool true))) rfl rfl rfl rfl ?_
              exact Eo.nil (And.intro rfl (And.intro rfl (.cons rfl (.cons rfl (.cons rfl (.cons rfl (.cons rfl (.cons rfl (.nil')))))))))
          · skip
            refine Eo.val (x := (.v (.bool (((decide (b347 < 32)) || (decide (b347 > 126))) || (b347 == 34))))) rfl rfl rfl rfl ?_
            refine Eo.cutF 3 [(0, (.v (.string p0))), (3, (.ptr b1 0)), (8, (.v (.int .i64 ((p0.size : Nat) : Int)))), (9, (.v (.int .i64 y140))), (5, (.v (.int .u8 b347))), (28, (.v (.bool ((((decide (b347 < 32)) || (decide (b347 > 126))) || (b347 == 34)) || (b347 == 92)))))] ?_ ?_
            · skip
              cases hc360 : (((decide (b347 < 32)) || (decide (b347 > 126))) || (b347 == 34))
              · skip
                refine Eo.val (x := (.v (.int .u8 b347))) rfl rfl rfl rfl ?_
                refine Eo.val (x := (.v (.bool (b347 == 92)))) rfl rfl rfl rfl ?_
                refine Eo.val (x := (.v (.bool (b347 == 92)))) rfl rfl rfl rfl ?_
                exact Eo.nil (And.intro rfl (And.intro rfl (.cons rfl (.cons rfl (.cons rfl (.cons rfl (.cons rfl (.cons rfl (.nil')))))))))
              · skip
                refine Eo.off rfl rfl rfl ?_
                refine Eo.off rfl rfl rfl ?_
                refine Eo.val (x := (.v (.bool true))) rfl rfl rfl rfl ?_
                exact Eo.nil (And.intro rfl (And.intro rfl (.cons rfl (.cons rfl (.cons rfl (.cons rfl (.cons rfl (.cons rfl (.nil')))))))))
            · skip
              refine Eo.nil ?_
              refine Ec.cond (t := ((((decide (b347 < 32)) || (decide (b347 > 126))) || (b347 == 34)) || (b347 == 92))) rfl (fun hc363 => ?_) (fun hc363 => ?_)
              · have H := cond_t hc363 H
                obtain ⟨x378, hv397, H⟩ := bind_some H
                refine Ec.cut (J := (fun (x378 : (List Int)) (x : X) (φ : Fr) (s : St) => x = .normal ∧ (∃ (a376 a379 : A), AddrOk a376 b1 ∧ BufIs a379 x378 ∧ Hp s (.blk b1 (.cells [a376, a379] 67) :: .app a379 5 :: R) ∧ Fl [(0, (.v (.string p0))), (3, (.ptr b1 0)), (8, (.v (.int .i64 ((p0.size : Nat) : Int)))), (9, (.v (.int .i64 y140)))] φ)) x378) ?_ ?_
                · have H := hv397
                  refine Ec.drawn (by kernel_rfl) ?_
                  refine Eo.val (x := (.v (.int .u8 b347))) rfl rfl rfl rfl ?_
                  refine Eo.val (x := (.v (.int .u8 (Int.fdiv b347 (2 ^ 4))))) rfl rfl rfl rfl ?_
                  refine Eo.val (x := (.v (.int .u8 b347))) rfl rfl rfl rfl ?_
                  refine Eo.val (x := (.v (.int .u8 (Int.fdiv b347 (2 ^ 4))))) rfl rfl rfl rfl ?_
                  refine Eo.val (x := (.v (.int .u8 (IntKind.wrap .u8 ((Int.fdiv b347 (2 ^ 4)) + 1))))) rfl rfl rfl rfl ?_
                  obtain ⟨s381, hvs381, H⟩ := bind_some H
                  refine Eo.val (op_partS hvs381 rfl rfl Tryd.underlying9 (.inr ⟨_, _, rfl, rfl⟩) (.inr ⟨_, _, rfl, rfl⟩)) rfl rfl rfl ?_
                  obtain ⟨s382, hvs382, H⟩ := bind_some H
                  refine Eo.val (op_catS hvs382 rfl rfl rfl) rfl rfl rfl ?_
                  refine Eo.val (x := (.v (.int .u8 b347))) rfl rfl rfl rfl ?_
                  refine Eo.val (x := (.v (.int .u8 (IntKind.wrap .u8 ((BitVec.ofInt 8 b347 &&& BitVec.ofInt 8 15).toNat : Nat))))) rfl rfl rfl rfl ?_
                  refine Eo.val (x := (.v (.int .u8 b347))) rfl rfl rfl rfl ?_
                  refine Eo.val (x := (.v (.int .u8 (IntKind.wrap .u8 ((BitVec.ofInt 8 b347 &&& BitVec.ofInt 8 15).toNat : Nat))))) rfl rfl rfl rfl ?_
                  refine Eo.val (x := (.v (.int .u8 (IntKind.wrap .u8 ((IntKind.wrap .u8 ((BitVec.ofInt 8 b347 &&& BitVec.ofInt 8 15).toNat : Nat)) + 1))))) rfl rfl rfl rfl ?_
                  obtain ⟨s383, hvs383, H⟩ := bind_some H
                  refine Eo.val (op_partS hvs383 rfl rfl Tryd.underlying9 (.inr ⟨_, _, rfl, rfl⟩) (.inr ⟨_, _, rfl, rfl⟩)) rfl rfl rfl ?_
                  obtain ⟨s384, hvs384, H⟩ := bind_some H
                  refine Eo.val (op_catS hvs384 rfl rfl rfl) rfl rfl rfl ?_
                  obtain ⟨l385, hvl385, H⟩ := bind_some H
                  refine Eo.call rfl rfl rfl rfl (bld_WriteString h143 h146 (Hp.front (Hp.front hp0 1) 1) hvl385) ?_
                  rintro _ σ391 ⟨a386, a387, rfl, h388, h389, hp390⟩
                  change Hp σ391 (.blk b1 (.cells [a386, a387] 67) :: .app a387 5 :: R) at hp390
                  refine Eo.nil ?_
                  obtain rfl := Option.some.inj H
                  exact And.intro rfl (And.intro rfl ⟨a386, a387, h388, h389, (Hp.front (Hp.front hp390 1) 1), (.cons rfl (.cons rfl (.cons rfl (.cons rfl (.nil')))))⟩)
                · skip
                  intro x φ394 σ393 hJ
                  obtain ⟨rfl, a376, a379, h377, h380, hp392, hf395⟩ := hJ
                  obtain rfl := Option.some.inj H
                  exact And.intro rfl ⟨a376, a379, h377, h380, (Hp.front (Hp.front hp392 1) 1), (Fl.trans (G := [(0, (.v (.string p0))), (3, (.ptr b1 0)), (8, (.v (.int .i64 ((p0.size : Nat) : Int)))), (9, (.v (.int .i64 y140)))]) (.cons rfl (.cons rfl (.cons rfl (.cons rfl (.nil'))))) hf395)⟩
              · have H := cond_f hc363 H
                refine Ec.region ?_
                refine Eo.val (x := (.v (.int .u8 b347))) rfl rfl rfl rfl ?_
                obtain ⟨l398, hvl398, H⟩ := bind_some H
                refine Eo.call rfl rfl rfl rfl (bld_WriteByte h143 h146 (Hp.front (Hp.front hp0 1) 1) hvl398) ?_
                rintro _ σ404 ⟨a399, a400, rfl, h401, h402, hp403⟩
                change Hp σ404 (.blk b1 (.cells [a399, a400] 67) :: .app a400 5 :: R) at hp403
                refine Eo.nil ?_
                obtain rfl := Option.some.inj H
                exact And.intro rfl ⟨a399, a400, h401, h402, (Hp.front (Hp.front hp403 1) 1), (.cons rfl (.cons rfl (.cons rfl (.cons rfl (.nil')))))⟩
      · skip
        intro x φ407 σ406 hJ
        obtain ⟨rfl, a342, a345, h343, h346, hp405, hf408⟩ := hJ
        refine Ec.of (F := [(0, (.v (.string p0))), (3, (.ptr b1 0)), (8, (.v (.int .i64 ((p0.size : Nat) : Int)))), (9, (.v (.int .i64 y140)))]) hf408 ?_
        refine Ec.region ?_
        refine Eo.val (x := (.v (.int .i64 (IntKind.wrap .i64 (y140 + 1))))) rfl rfl rfl rfl ?_
        refine Eo.val (x := (.v (.int .i64 (IntKind.wrap .i64 (y140 + 1))))) rfl rfl rfl rfl ?_
        refine Eo.nil ?_
        exact Ec.of (.cons rfl (.cons rfl (.cons rfl (.cons rfl (.nil'))))) (ih (((IntKind.wrap .i64 (y140 + 1)), x344), (a342, a345)) _ ⟨h343, h346, (Hp.front (Hp.front hp405 1) 1)⟩ H)
    · have H := cond_f hc282 H
      refine Ec.exit ?_
      obtain rfl := Option.some.inj H
      exact And.intro rfl ⟨a142, a145, h143, h146, (Hp.front (Hp.front hp0 1) 1), (.cons rfl (.nil'))⟩
  · skip
    intro x φ415 σ414 hJ
    obtain ⟨rfl, a277, a280, h278, h281, hp413, hf416⟩ := hJ
    refine Ec.of (F := [(3, (.ptr b1 0))]) hf416 ?_
    refine Ec.seq ?_
    refine Ec.region ?_
    obtain ⟨l417, hvl417, H⟩ := bind_some H
    refine Eo.call rfl rfl rfl rfl (bld_WriteByte h278 h281 (Hp.front (Hp.front hp413 1) 1) hvl417) ?_
    rintro _ σ423 ⟨a418, a419, rfl, h420, h421, hp422⟩
    change Hp σ423 (.blk b1 (.cells [a418, a419] 67) :: .app a419 5 :: R) at hp422
    refine Eo.nil ?_
    refine Ec.seq ?_
    refine Ec.region ?_
    obtain ⟨s424, hvs424, H⟩ := bind_some H
    refine Eo.call rfl rfl rfl rfl (bld_String h420 h421 (Hp.front (Hp.front hp422 1) 1) hvs424) ?_
    rintro _ σ426 ⟨rfl, hp425⟩
    change Hp σ426 (.blk b1 (.cells [a418, a419] 67) :: .app a419 5 :: R) at hp425
    refine Eo.val (x := (.v (.string s424))) rfl rfl rfl rfl ?_
    refine Eo.nil ?_
    obtain rfl := Option.some.inj H
    refine Ec.ret ?_
    refine Ret.mk rfl ?_
    exact ⟨rfl, (Hp.drop (Hp.drop hp425 0) 0)⟩

def gasmtext_Join_L1 (N : Nat) (p0 : (List TTok)) : Nat → (List ByteArray) → Int → Option ((List ByteArray))
  | 0, _, _ => none
  | m + 1, y75, y78 => (cond (decide (y78 < ((p0.length : Nat) : Int))) (((((atL p0 y78).bind fun x189 => (cond (x189.f_Kind == 3) (((gasmtext_quote N x189.f_Text).bind fun r199 => ((appL 16 y75 ([r199] : List ByteArray)).bind fun l206 => some l206))) (((appL 16 y75 ([x189.f_Text] : List ByteArray)).bind fun l215 => some l215)))) : Option ((List ByteArray))).bind fun x186 => gasmtext_Join_L1 N p0 m x186 (IntKind.wrap .i64 (y78 + 1)))) (some y75))

def gasmtext_Join (n : Nat) (p0 : (List TTok)) : Option (ByteArray) := ((gasmtext_Join_L1 n p0 n ([] : List ByteArray) 0).bind fun x151 => ((joinT x151 (ByteArray.mk #[32])).bind fun r232 => some r232))

def gasmtext_Join_post (R : List Res) (r : ByteArray) (x : A) (s : St) : Prop := x = (.v (.string r)) ∧ Hp s (R)

theorem gasmtext_Join_ok {n : Nat} {p0 : (List TTok)} {a1 : A} {R : List Res} {σ : St} (h2 : Sl rTTok a1 p0) (hp : Hp σ R) {r : ByteArray} (H : gasmtext_Join n p0 = some r) : Ca cfg 15 [a1] σ (gasmtext_Join_post R r) := by
  unfold gasmtext_Join at H
  refine Ca.enterL (G := [(0, a1)]) Tryd.func15 rfl rfl rfl rfl ?_
  refine Ec.seq ?_
  refine Ec.region ?_
  refine Eo.val (x := (.v (.string (ByteArray.mk #[])))) rfl rfl rfl rfl ?_
  refine Eo.nil ?_
  refine Ec.seq ?_
  refine Ec.region ?_
  refine Eo.val (x := nilS) rfl rfl rfl rfl ?_
  refine Eo.nil ?_
  refine Ec.seq ?_
  refine Ec.seq ?_
  refine Ec.region ?_
  refine Eo.val (x := a1) rfl rfl rfl rfl ?_
  refine Eo.val (x := (.v (.int .i64 ((p0.length : Nat) : Int)))) (op_lenL h2 rfl rfl rfl rfl rfl Tryd.underlying31) rfl rfl rfl ?_
  refine Eo.val (x := (.v (.int .i64 0))) rfl rfl rfl rfl ?_
  refine Eo.nil ?_
  refine Ec.block ?_
  obtain ⟨x151, hv227, H⟩ := bind_some H
  refine Ec.cut (J := (fun (x151 : (List ByteArray)) (x : X) (φ : Fr) (s : St) => x = (.exit 0) ∧ (∃ (a152 : A), Sl rS a152 x151 ∧ Hp s (.app a152 9 :: R) ∧ Fl [(3, a152)] φ)) x151) (Ec.weak (.cons rfl (.cons rfl (.cons rfl (.cons rfl (.nil'))))) (Ec.loopF (f := (fun m (i : ((List ByteArray) × Int) × A) => gasmtext_Join_L1 n p0 m i.1.1 i.1.2)) (G := (fun (i : ((List ByteArray) × Int) × A) => ([(3, i.2), (6, a1), (7, (.v (.int .i64 ((p0.length : Nat) : Int)))), (8, (.v (.int .i64 i.1.2)))] : List (Nat × A)))) (I := (fun (i : ((List ByteArray) × Int) × A) (s : St) => Sl rS i.2 i.1.1 ∧ Hp s (.app i.2 9 :: R))) (J := (fun (x151 : (List ByteArray)) (x : X) (φ : Fr) (s : St) => x = (.exit 0) ∧ (∃ (a152 : A), Sl rS a152 x151 ∧ Hp s (.app a152 9 :: R) ∧ Fl [(3, a152)] φ))) (fun _ => rfl) ?_ n ((([] : List ByteArray), 0), nilS) _ x151 ⟨Sl.nil, (Hp.appNil hp 9)⟩ hv227)) ?_
  · rintro m ⟨⟨y75, y78⟩, a76⟩ σ0 v ⟨h77, hp0⟩ H ih
    change gasmtext_Join_L1 n p0 (m + 1) y75 y78 = some v at H
    rw [gasmtext_Join_L1] at H
    change Ec _ _ _ [(3, a76), (6, a1), (7, (.v (.int .i64 ((p0.length : Nat) : Int)))), (8, (.v (.int .i64 y78)))] σ0 _
    refine Ec.seq ?_
    refine Ec.region ?_
    refine Eo.val (x := (.v (.bool (decide (y78 < ((p0.length : Nat) : Int)))))) rfl rfl rfl rfl ?_
    refine Eo.nil ?_
    refine Ec.seq ?_
    refine Ec.cond (t := (decide (y78 < ((p0.length : Nat) : Int)))) rfl (fun hc154 => ?_) (fun hc154 => ?_)
    · have H := cond_t hc154 H
      refine Ec.skip ?_
      refine Ec.seq ?_
      obtain ⟨x186, hv225, H⟩ := bind_some H
      refine Ec.cut (J := (fun (x186 : (List ByteArray)) (x : X) (φ : Fr) (s : St) => x = .normal ∧ (∃ (a187 : A), Sl rS a187 x186 ∧ Hp s (.app a187 9 :: R) ∧ Fl [(3, a187), (6, a1), (7, (.v (.int .i64 ((p0.length : Nat) : Int)))), (8, (.v (.int .i64 y78)))] φ)) x186) ?_ ?_
      · have H := hv225
        refine Ec.block ?_
        refine Ec.seq ?_
        refine Ec.region ?_
        obtain ⟨x189, hvx189, H⟩ := bind_some H
        refine Eo.idx h2 hvx189 rfl rfl rfl Tryd.underlying31 rfl rfl rfl rfl ?_
        rintro cs190 p191 _ hat192 rfl
        refine Eo.val (x := (.agg [(.v (.int .i64 x189.f_Kind)), (.v (.string x189.f_Text))])) (op_loadSpAgg hat192 0 rfl rfl rfl rfl rfl rfl) rfl rfl rfl ?_
        refine Eo.alloc (z := [(.v (.int .i64 0)), (.v (.string (ByteArray.mk #[])))]) hp0 rfl rfl rfl rfl rfl ?_
        intro b193 σ195 hp194
        refine Eo.store hp194 0 rfl (storeCells_mk rfl rfl rfl rfl rfl rfl) rfl rfl rfl rfl rfl ?_
        intro σ197 hp196
        change Hp σ197 (.blk b193 (.cells [(.v (.int .i64 x189.f_Kind)), (.v (.string x189.f_Text))] 48) :: .app a76 9 :: R) at hp196
        refine Eo.nil ?_
        refine Ec.seq ?_
        refine Ec.region ?_
        refine Eo.val (x := (.ptr b193 0)) rfl rfl rfl rfl ?_
        refine Eo.val (x := (.v (.int .i64 x189.f_Kind))) (op_loadB hp196 0 rfl rfl rfl rfl) rfl rfl rfl ?_
        refine Eo.val (x := (.v (.bool (x189.f_Kind == 3)))) rfl rfl rfl rfl ?_
        refine Eo.nil ?_
        refine Ec.cond (t := (x189.f_Kind == 3)) rfl (fun hc198 => ?_) (fun hc198 => ?_)
        · have H := cond_t hc198 H
          refine Ec.region ?_
          refine Eo.val (x := a76) rfl rfl rfl rfl ?_
          refine Eo.val (x := (.ptr b193 1)) rfl rfl rfl rfl ?_
          refine Eo.val (x := (.v (.string x189.f_Text))) (op_loadB hp196 0 rfl rfl rfl rfl) rfl rfl rfl ?_
          obtain ⟨r199, hvr199, H⟩ := bind_some H
          refine Eo.call rfl rfl rfl rfl (gasmtext_quote_ok hp196 hvr199) ?_
          rintro _ σ201 ⟨rfl, hp200⟩
          refine Eo.val (x := (.sl 1 [(.v (.string r199))] .ex)) (op_buildS (lay_cons rfl rfl rfl rfl rfl lay_nil) rfl (parts_cons rfl rfl rfl) Tryd.underlying44 rfl rfl rfl rfl (by decide) rfl) rfl rfl rfl ?_
          have h205 : Sl rS (.sl 1 [(.v (.string r199))] .ex) ([r199] : List ByteArray) := .inr ⟨_, _, rfl, (.cons (c := [(.v (.string r199))]) rfl .nil)⟩
          have hp204 := Hp.appEx hp200 9 1 [(.v (.string r199))]
          obtain ⟨l206, hvl206, H⟩ := bind_some H
          refine Eo.append hp204 2 rfl h77 (New.of h205) hvl206 rfl rfl rfl rfl rfl rfl rfl Tryd.underlying44 rfl Tryd.underlying44 rfl rfl rfl rfl rfl rfl rfl rfl ?_
          intro a207 σ210 h208 hp209
          change Hp σ210 (.app (.sl 1 [(.v (.string r199))] .ex) 9 :: .blk b193 (.cells [(.v (.int .i64 x189.f_Kind)), (.v (.string x189.f_Text))] 48) :: .app a207 9 :: R) at hp209
          refine Eo.val (x := a207) rfl rfl rfl rfl ?_
          refine Eo.nil ?_
          obtain rfl := Option.some.inj H
          exact And.intro rfl ⟨a207, h208, (Hp.drop (Hp.drop hp209 0) 0), (.cons rfl (.cons rfl (.cons rfl (.cons rfl (.nil')))))⟩
        · have H := cond_f hc198 H
          refine Ec.region ?_
          refine Eo.val (x := a76) rfl rfl rfl rfl ?_
          refine Eo.val (x := (.ptr b193 1)) rfl rfl rfl rfl ?_
          refine Eo.val (x := (.v (.string x189.f_Text))) (op_loadB hp196 0 rfl rfl rfl rfl) rfl rfl rfl ?_
          refine Eo.val (x := (.sl 1 [(.v (.string x189.f_Text))] .ex)) (op_buildS (lay_cons rfl rfl rfl rfl rfl lay_nil) rfl (parts_cons rfl rfl rfl) Tryd.underlying44 rfl rfl rfl rfl (by decide) rfl) rfl rfl rfl ?_
          have h214 : Sl rS (.sl 1 [(.v (.string x189.f_Text))] .ex) ([x189.f_Text] : List ByteArray) := .inr ⟨_, _, rfl, (.cons (c := [(.v (.string x189.f_Text))]) rfl .nil)⟩
          have hp213 := Hp.appEx hp196 9 1 [(.v (.string x189.f_Text))]
          obtain ⟨l215, hvl215, H⟩ := bind_some H
          refine Eo.append hp213 2 rfl h77 (New.of h214) hvl215 rfl rfl rfl rfl rfl rfl rfl Tryd.underlying44 rfl Tryd.underlying44 rfl rfl rfl rfl rfl rfl rfl rfl ?_
          intro a216 σ219 h217 hp218
          change Hp σ219 (.app (.sl 1 [(.v (.string x189.f_Text))] .ex) 9 :: .blk b193 (.cells [(.v (.int .i64 x189.f_Kind)), (.v (.string x189.f_Text))] 48) :: .app a216 9 :: R) at hp218
          refine Eo.val (x := a216) rfl rfl rfl rfl ?_
          refine Eo.nil ?_
          obtain rfl := Option.some.inj H
          exact And.intro rfl ⟨a216, h217, (Hp.drop (Hp.drop hp218 0) 0), (.cons rfl (.cons rfl (.cons rfl (.cons rfl (.nil')))))⟩
      · skip
        intro x φ222 σ221 hJ
        obtain ⟨rfl, a187, h188, hp220, hf223⟩ := hJ
        refine Ec.of (F := [(3, a187), (6, a1), (7, (.v (.int .i64 ((p0.length : Nat) : Int)))), (8, (.v (.int .i64 y78)))]) hf223 ?_
        refine Ec.region ?_
        refine Eo.val (x := (.v (.int .i64 (IntKind.wrap .i64 (y78 + 1))))) rfl rfl rfl rfl ?_
        refine Eo.val (x := (.v (.int .i64 (IntKind.wrap .i64 (y78 + 1))))) rfl rfl rfl rfl ?_
        refine Eo.nil ?_
        exact Ec.of (.cons rfl (.cons rfl (.cons rfl (.cons rfl (.nil'))))) (ih ((x186, (IntKind.wrap .i64 (y78 + 1))), a187) _ ⟨h188, hp220⟩ H)
    · have H := cond_f hc154 H
      refine Ec.exit ?_
      obtain rfl := Option.some.inj H
      exact And.intro rfl ⟨a76, h77, hp0, (.cons rfl (.nil'))⟩
  · skip
    intro x φ230 σ229 hJ
    obtain ⟨rfl, a152, h153, hp228, hf231⟩ := hJ
    refine Ec.of (F := [(3, a152)]) hf231 ?_
    refine Ec.seq ?_
    refine Ec.region ?_
    refine Eo.val (x := a152) rfl rfl rfl rfl ?_
    obtain ⟨r232, hvr232, H⟩ := bind_some H
    refine Eo.call rfl rfl rfl rfl (prim32_ok h153 hp228 hvr232) ?_
    rintro _ σ234 ⟨rfl, hp233⟩
    refine Eo.val (x := (.v (.string r232))) rfl rfl rfl rfl ?_
    refine Eo.nil ?_
    obtain rfl := Option.some.inj H
    refine Ec.ret ?_
    refine Ret.mk rfl ?_
    exact ⟨rfl, (Hp.drop hp233 0)⟩

def gdovetailref13_Join_L2 (N : Nat) (x2272 : TTok) : Nat → (List Int) → Int → Option ((List Int))
  | 0, _, _ => none
  | m + 1, y2447, y2450 => (cond (decide (y2450 < ((x2272.f_Text.size : Nat) : Int))) (((((atS x2272.f_Text y2450).bind fun b2639 => (cond ((((decide (b2639 < 32)) || (decide (b2639 > 126))) || (b2639 == 34)) || (b2639 == 92)) (((((atS (ByteArray.mk #[48, 49, 50, 51, 52, 53, 54, 55, 56, 57, 97, 98, 99, 100, 101, 102]) (IntKind.wrap .u8 (Int.tdiv b2639 16))).bind fun b2670 => ((atS (ByteArray.mk #[48, 49, 50, 51, 52, 53, 54, 55, 56, 57, 97, 98, 99, 100, 101, 102]) (Int.tmod b2639 16)).bind fun b2671 => ((appL 1 y2447 ([92, 120, b2670, b2671] : List Int)).bind fun l2676 => some l2676))) : Option ((List Int))).bind fun x2667 => some x2667)) (((appL 1 y2447 ([b2639] : List Int)).bind fun l2691 => some l2691)))) : Option ((List Int))).bind fun x2636 => gdovetailref13_Join_L2 N x2272 m x2636 (IntKind.wrap .i64 (y2450 + 1)))) (some y2447))

def gdovetailref13_Join_L1 (N : Nat) (p0 : (List TTok)) : Nat → (List Int) → Int → Option ((List Int))
  | 0, _, _ => none
  | m + 1, y910, y913 => (cond (decide (y913 < ((p0.length : Nat) : Int))) (((((atL p0 y913).bind fun x2272 => (((cond (decide (y913 > 0)) (((appL 1 y910 ([32] : List Int)).bind fun l2299 => some l2299)) (some y910)) : Option ((List Int))).bind fun x2291 => (cond (x2272.f_Kind != 3) (((appL 1 x2291 (bs x2272.f_Text)).bind fun l2309 => some l2309)) (((appL 1 x2291 ([34] : List Int)).bind fun l2318 => ((gdovetailref13_Join_L2 N x2272 N l2318 0).bind fun x2575 => ((appL 1 x2575 ([34] : List Int)).bind fun l2712 => some l2712))))))) : Option ((List Int))).bind fun x2269 => gdovetailref13_Join_L1 N p0 m x2269 (IntKind.wrap .i64 (y913 + 1)))) (some y910))

def gdovetailref13_Join (n : Nat) (p0 : (List TTok)) : Option (ByteArray) := ((gdovetailref13_Join_L1 n p0 n ([] : List Int) 0).bind fun x1818 => some (ofB x1818))

def gdovetailref13_Join_post (R : List Res) (r : ByteArray) (x : A) (s : St) : Prop := x = (.v (.string r)) ∧ Hp s (R)

theorem gdovetailref13_Join_ok {n : Nat} {p0 : (List TTok)} {a1 : A} {R : List Res} {σ : St} (h2 : Sl rTTok a1 p0) (hp : Hp σ R) {r : ByteArray} (H : gdovetailref13_Join n p0 = some r) : Ca cfg 16 [a1] σ (gdovetailref13_Join_post R r) := by
  unfold gdovetailref13_Join at H
  refine Ca.enterL (G := [(0, a1)]) Tryd.func16 rfl rfl rfl rfl ?_
  refine Ec.seq ?_
  refine Ec.region ?_
  refine Eo.val (x := (.v (.string (ByteArray.mk #[])))) rfl rfl rfl rfl ?_
  refine Eo.nil ?_
  refine Ec.seq ?_
  refine Ec.region ?_
  refine Eo.val (x := (.v (.string (ByteArray.mk #[48, 49, 50, 51, 52, 53, 54, 55, 56, 57, 97, 98, 99, 100, 101, 102])))) rfl rfl rfl rfl ?_
  refine Eo.nil ?_
  refine Ec.seq ?_
  refine Ec.region ?_
  refine Eo.val (x := (.sl 1 [] .ex)) rfl rfl rfl rfl ?_
  have hp5 := Hp.appEx hp 5 1 []
  refine Eo.val (x := (.sl 1 [] .ex)) rfl rfl rfl rfl ?_
  refine Eo.nil ?_
  refine Ec.seq ?_
  refine Ec.seq ?_
  refine Ec.region ?_
  refine Eo.val (x := a1) rfl rfl rfl rfl ?_
  refine Eo.val (x := (.v (.int .i64 ((p0.length : Nat) : Int)))) (op_lenL h2 rfl rfl rfl rfl rfl Tryd.underlying31) rfl rfl rfl ?_
  refine Eo.val (x := (.v (.int .i64 0))) rfl rfl rfl rfl ?_
  refine Eo.nil ?_
  refine Ec.block ?_
  obtain ⟨x1818, hv2726, H⟩ := bind_some H
  refine Ec.cut (J := (fun (x1818 : (List Int)) (x : X) (φ : Fr) (s : St) => x = (.exit 0) ∧ (∃ (a1819 : A), Sl (rI .u8) a1819 x1818 ∧ Hp s (.app a1819 5 :: R) ∧ Fl [(4, a1819)] φ)) x1818) (Ec.weak (.cons rfl (.cons rfl (.cons rfl (.cons rfl (.cons rfl (.nil')))))) (Ec.loopF (f := (fun m (i : ((List Int) × Int) × A) => gdovetailref13_Join_L1 n p0 m i.1.1 i.1.2)) (G := (fun (i : ((List Int) × Int) × A) => ([(3, (.v (.string (ByteArray.mk #[48, 49, 50, 51, 52, 53, 54, 55, 56, 57, 97, 98, 99, 100, 101, 102])))), (4, i.2), (10, a1), (11, (.v (.int .i64 ((p0.length : Nat) : Int)))), (12, (.v (.int .i64 i.1.2)))] : List (Nat × A)))) (I := (fun (i : ((List Int) × Int) × A) (s : St) => Sl (rI .u8) i.2 i.1.1 ∧ Hp s (.app i.2 5 :: R))) (J := (fun (x1818 : (List Int)) (x : X) (φ : Fr) (s : St) => x = (.exit 0) ∧ (∃ (a1819 : A), Sl (rI .u8) a1819 x1818 ∧ Hp s (.app a1819 5 :: R) ∧ Fl [(4, a1819)] φ))) (fun _ => rfl) ?_ n ((([] : List Int), 0), (.sl 1 [] .ex)) _ x1818 ⟨(.inr ⟨_, _, rfl, .nil⟩ : Sl (rI .u8) (.sl 1 [] .ex) ([] : List Int)), hp5⟩ hv2726)) ?_
  · rintro m ⟨⟨y910, y913⟩, a911⟩ σ0 v ⟨h912, hp0⟩ H ih
    change gdovetailref13_Join_L1 n p0 (m + 1) y910 y913 = some v at H
    rw [gdovetailref13_Join_L1] at H
    change Ec _ _ _ [(3, (.v (.string (ByteArray.mk #[48, 49, 50, 51, 52, 53, 54, 55, 56, 57, 97, 98, 99, 100, 101, 102])))), (4, a911), (10, a1), (11, (.v (.int .i64 ((p0.length : Nat) : Int)))), (12, (.v (.int .i64 y913)))] σ0 _
    refine Ec.seq ?_
    refine Ec.region ?_
    refine Eo.val (x := (.v (.bool (decide (y913 < ((p0.length : Nat) : Int)))))) rfl rfl rfl rfl ?_
    refine Eo.nil ?_
    refine Ec.seq ?_
    refine Ec.cond (t := (decide (y913 < ((p0.length : Nat) : Int)))) rfl (fun hc1821 => ?_) (fun hc1821 => ?_)
    · have H := cond_t hc1821 H
      refine Ec.skip ?_
      refine Ec.seq ?_
      obtain ⟨x2269, hv2724, H⟩ := bind_some H
      refine Ec.cut (J := (fun (x2269 : (List Int)) (x : X) (φ : Fr) (s : St) => x = .normal ∧ (∃ (a2270 : A), Sl (rI .u8) a2270 x2269 ∧ Hp s (.app a2270 5 :: R) ∧ Fl [(3, (.v (.string (ByteArray.mk #[48, 49, 50, 51, 52, 53, 54, 55, 56, 57, 97, 98, 99, 100, 101, 102])))), (4, a2270), (10, a1), (11, (.v (.int .i64 ((p0.length : Nat) : Int)))), (12, (.v (.int .i64 y913)))] φ)) x2269) ?_ ?_
      · have H := hv2724
        refine Ec.block ?_
        refine Ec.seq ?_
        refine Ec.region ?_
        refine Eo.val (x := (.v (.int .i64 y913))) rfl rfl rfl rfl ?_
        obtain ⟨x2272, hvx2272, H⟩ := bind_some H
        refine Eo.idx h2 hvx2272 rfl rfl rfl Tryd.underlying31 rfl rfl rfl rfl ?_
        rintro cs2273 p2274 _ hat2275 rfl
        refine Eo.val (x := (.agg [(.v (.int .i64 x2272.f_Kind)), (.v (.string x2272.f_Text))])) (op_loadSpAgg hat2275 0 rfl rfl rfl rfl rfl rfl) rfl rfl rfl ?_
        refine Eo.alloc (z := [(.v (.int .i64 0)), (.v (.string (ByteArray.mk #[])))]) hp0 rfl rfl rfl rfl rfl ?_
        intro b2276 σ2278 hp2277
        refine Eo.val (x := (.v (.int .i64 y913))) rfl rfl rfl rfl ?_
        refine Eo.store hp2277 0 rfl (storeCells_mk rfl rfl rfl rfl rfl rfl) rfl rfl rfl rfl rfl ?_
        intro σ2280 hp2279
        change Hp σ2280 (.blk b2276 (.cells [(.v (.int .i64 x2272.f_Kind)), (.v (.string x2272.f_Text))] 48) :: .app a911 5 :: R) at hp2279
        refine Eo.nil ?_
        refine Ec.seq ?_
        refine Ec.seq ?_
        refine Ec.region ?_
        refine Eo.val (x := (.v (.int .i64 y913))) rfl rfl rfl rfl ?_
        refine Eo.val (x := (.v (.bool (decide (y913 > 0))))) rfl rfl rfl rfl ?_
        refine Eo.nil ?_
        obtain ⟨x2291, hv2718, H⟩ := bind_some H
        refine Ec.cut (J := (fun (x2291 : (List Int)) (x : X) (φ : Fr) (s : St) => x = .normal ∧ (∃ (a2292 : A), Sl (rI .u8) a2292 x2291 ∧ Hp s (.blk b2276 (.cells [(.v (.int .i64 x2272.f_Kind)), (.v (.string x2272.f_Text))] 48) :: .app a2292 5 :: R) ∧ Fl [(3, (.v (.string (ByteArray.mk #[48, 49, 50, 51, 52, 53, 54, 55, 56, 57, 97, 98, 99, 100, 101, 102])))), (4, a2292), (6, (.ptr b2276 0)), (10, a1), (11, (.v (.int .i64 ((p0.length : Nat) : Int)))), (12, (.v (.int .i64 y913)))] φ)) x2291) ?_ ?_
        · have H := hv2718
          refine Ec.cond (t := (decide (y913 > 0))) rfl (fun hc2294 => ?_) (fun hc2294 => ?_)
          · have H := cond_t hc2294 H
            refine Ec.region ?_
            refine Eo.val (x := a911) rfl rfl rfl rfl ?_
            refine Eo.val (x := (.sl 1 [(.v (.int .u8 32))] .ex)) (op_buildS (lay_cons rfl rfl rfl rfl rfl lay_nil) rfl (parts_cons rfl rfl rfl) Tryd.underlying61 rfl rfl rfl rfl (by decide) rfl) rfl rfl rfl ?_
            have h2298 : Sl (rI .u8) (.sl 1 [(.v (.int .u8 32))] .ex) ([32] : List Int) := .inr ⟨_, _, rfl, (.cons (c := [(.v (.int .u8 32))]) rfl .nil)⟩
            have hp2297 := Hp.appEx hp2279 5 1 [(.v (.int .u8 32))]
            obtain ⟨l2299, hvl2299, H⟩ := bind_some H
            refine Eo.append hp2297 2 rfl h912 (New.of h2298) hvl2299 rfl rfl rfl rfl rfl rfl rfl Tryd.underlying61 rfl Tryd.underlying61 rfl rfl rfl rfl rfl rfl rfl rfl ?_
            intro a2300 σ2303 h2301 hp2302
            change Hp σ2303 (.app (.sl 1 [(.v (.int .u8 32))] .ex) 5 :: .blk b2276 (.cells [(.v (.int .i64 x2272.f_Kind)), (.v (.string x2272.f_Text))] 48) :: .app a2300 5 :: R) at hp2302
            refine Eo.val (x := a2300) rfl rfl rfl rfl ?_
            refine Eo.nil ?_
            obtain rfl := Option.some.inj H
            exact And.intro rfl ⟨a2300, h2301, (Hp.front (Hp.front (Hp.drop hp2302 0) 1) 1), (.cons rfl (.cons rfl (.cons rfl (.cons rfl (.cons rfl (.cons rfl (.nil')))))))⟩
          · have H := cond_f hc2294 H
            refine Ec.skip ?_
            obtain rfl := Option.some.inj H
            exact And.intro rfl ⟨a911, h912, (Hp.front (Hp.front hp2279 1) 1), (.cons rfl (.cons rfl (.cons rfl (.cons rfl (.cons rfl (.cons rfl (.nil')))))))⟩
        · skip
          intro x φ2306 σ2305 hJ
          obtain ⟨rfl, a2292, h2293, hp2304, hf2307⟩ := hJ
          refine Ec.of (F := [(3, (.v (.string (ByteArray.mk #[48, 49, 50, 51, 52, 53, 54, 55, 56, 57, 97, 98, 99, 100, 101, 102])))), (4, a2292), (6, (.ptr b2276 0)), (10, a1), (11, (.v (.int .i64 ((p0.length : Nat) : Int)))), (12, (.v (.int .i64 y913)))]) hf2307 ?_
          refine Ec.seq ?_
          refine Ec.seq ?_
          refine Ec.region ?_
          refine Eo.val (x := (.ptr b2276 0)) rfl rfl rfl rfl ?_
          refine Eo.val (x := (.v (.int .i64 x2272.f_Kind))) (op_loadB hp2304 0 rfl rfl rfl rfl) rfl rfl rfl ?_
          refine Eo.val (x := (.v (.bool (x2272.f_Kind != 3)))) rfl rfl rfl rfl ?_
          refine Eo.nil ?_
          refine Ec.cond (t := (x2272.f_Kind != 3)) rfl (fun hc2308 => ?_) (fun hc2308 => ?_)
          · have H := cond_t hc2308 H
            refine Ec.seq ?_
            refine Ec.region ?_
            refine Eo.val (x := a2292) rfl rfl rfl rfl ?_
            refine Eo.val (x := (.ptr b2276 1)) rfl rfl rfl rfl ?_
            refine Eo.val (x := (.v (.string x2272.f_Text))) (op_loadB hp2304 0 rfl rfl rfl rfl) rfl rfl rfl ?_
            obtain ⟨l2309, hvl2309, H⟩ := bind_some H
            refine Eo.append hp2304 1 rfl h2293 New.str hvl2309 rfl rfl rfl rfl rfl rfl rfl Tryd.underlying9 rfl Tryd.underlying61 rfl rfl rfl rfl rfl rfl rfl rfl ?_
            intro a2310 σ2313 h2311 hp2312
            change Hp σ2313 (.blk b2276 (.cells [(.v (.int .i64 x2272.f_Kind)), (.v (.string x2272.f_Text))] 48) :: .app a2310 5 :: R) at hp2312
            refine Eo.val (x := a2310) rfl rfl rfl rfl ?_
            refine Eo.nil ?_
            refine Ec.exit ?_
            obtain rfl := Option.some.inj H
            exact And.intro rfl ⟨a2310, h2311, (Hp.drop hp2312 0), (.cons rfl (.cons rfl (.cons rfl (.cons rfl (.cons rfl (.nil'))))))⟩
          · have H := cond_f hc2308 H
            refine Ec.skip ?_
            refine Ec.seq ?_
            refine Ec.region ?_
            refine Eo.val (x := a2292) rfl rfl rfl rfl ?_
            refine Eo.val (x := (.sl 1 [(.v (.int .u8 34))] .ex)) (op_buildS (lay_cons rfl rfl rfl rfl rfl lay_nil) rfl (parts_cons rfl rfl rfl) Tryd.underlying61 rfl rfl rfl rfl (by decide) rfl) rfl rfl rfl ?_
            have h2317 : Sl (rI .u8) (.sl 1 [(.v (.int .u8 34))] .ex) ([34] : List Int) := .inr ⟨_, _, rfl, (.cons (c := [(.v (.int .u8 34))]) rfl .nil)⟩
            have hp2316 := Hp.appEx hp2304 5 1 [(.v (.int .u8 34))]
            obtain ⟨l2318, hvl2318, H⟩ := bind_some H
            refine Eo.append hp2316 2 rfl h2293 (New.of h2317) hvl2318 rfl rfl rfl rfl rfl rfl rfl Tryd.underlying61 rfl Tryd.underlying61 rfl rfl rfl rfl rfl rfl rfl rfl ?_
            intro a2319 σ2322 h2320 hp2321
            change Hp σ2322 (.app (.sl 1 [(.v (.int .u8 34))] .ex) 5 :: .blk b2276 (.cells [(.v (.int .i64 x2272.f_Kind)), (.v (.string x2272.f_Text))] 48) :: .app a2319 5 :: R) at hp2321
            refine Eo.val (x := a2319) rfl rfl rfl rfl ?_
            refine Eo.nil ?_
            refine Ec.seq ?_
            refine Ec.seq ?_
            refine Ec.region ?_
            refine Eo.val (x := (.v (.int .i64 0))) rfl rfl rfl rfl ?_
            refine Eo.nil ?_
            refine Ec.block ?_
            obtain ⟨x2575, hv2703, H⟩ := bind_some H
            refine Ec.cut (J := (fun (x2575 : (List Int)) (x : X) (φ : Fr) (s : St) => x = (.exit 2) ∧ (∃ (a2576 : A), Sl (rI .u8) a2576 x2575 ∧ Hp s (.app a2576 5 :: R) ∧ Fl [(3, (.v (.string (ByteArray.mk #[48, 49, 50, 51, 52, 53, 54, 55, 56, 57, 97, 98, 99, 100, 101, 102])))), (4, a2576), (10, a1), (11, (.v (.int .i64 ((p0.length : Nat) : Int)))), (12, (.v (.int .i64 y913)))] φ)) x2575) (Ec.weak (.cons rfl (.cons rfl (.cons rfl (.cons rfl (.cons rfl (.cons rfl (.cons rfl (.nil')))))))) (Ec.loopF (f := (fun m (i : ((List Int) × Int) × A) => gdovetailref13_Join_L2 n x2272 m i.1.1 i.1.2)) (G := (fun (i : ((List Int) × Int) × A) => ([(3, (.v (.string (ByteArray.mk #[48, 49, 50, 51, 52, 53, 54, 55, 56, 57, 97, 98, 99, 100, 101, 102])))), (4, i.2), (6, (.ptr b2276 0)), (7, (.v (.int .i64 i.1.2))), (10, a1), (11, (.v (.int .i64 ((p0.length : Nat) : Int)))), (12, (.v (.int .i64 y913)))] : List (Nat × A)))) (I := (fun (i : ((List Int) × Int) × A) (s : St) => Sl (rI .u8) i.2 i.1.1 ∧ Hp s (.blk b2276 (.cells [(.v (.int .i64 x2272.f_Kind)), (.v (.string x2272.f_Text))] 48) :: .app i.2 5 :: R))) (J := (fun (x2575 : (List Int)) (x : X) (φ : Fr) (s : St) => x = (.exit 2) ∧ (∃ (a2576 : A), Sl (rI .u8) a2576 x2575 ∧ Hp s (.app a2576 5 :: R) ∧ Fl [(3, (.v (.string (ByteArray.mk #[48, 49, 50, 51, 52, 53, 54, 55, 56, 57, 97, 98, 99, 100, 101, 102])))), (4, a2576), (10, a1), (11, (.v (.int .i64 ((p0.length : Nat) : Int)))), (12, (.v (.int .i64 y913)))] φ))) (fun _ => rfl) ?_ n ((l2318, 0), a2319) _ x2575 ⟨h2320, (Hp.front (Hp.front (Hp.drop hp2321 0) 1) 1)⟩ hv2703)) ?_
            · rintro m ⟨⟨y2447, y2450⟩, a2448⟩ σ0 v ⟨h2449, hp0⟩ H ih
              change gdovetailref13_Join_L2 n x2272 (m + 1) y2447 y2450 = some v at H
              rw [gdovetailref13_Join_L2] at H
              change Ec _ _ _ [(3, (.v (.string (ByteArray.mk #[48, 49, 50, 51, 52, 53, 54, 55, 56, 57, 97, 98, 99, 100, 101, 102])))), (4, a2448), (6, (.ptr b2276 0)), (7, (.v (.int .i64 y2450))), (10, a1), (11, (.v (.int .i64 ((p0.length : Nat) : Int)))), (12, (.v (.int .i64 y913)))] σ0 _
              refine Ec.seq ?_
              refine Ec.seq ?_
              refine Ec.region ?_
              refine Eo.val (x := (.v (.int .i64 y2450))) rfl rfl rfl rfl ?_
              refine Eo.val (x := (.ptr b2276 1)) rfl rfl rfl rfl ?_
              refine Eo.val (x := (.v (.string x2272.f_Text))) (op_loadB hp0 0 rfl rfl rfl rfl) rfl rfl rfl ?_
              refine Eo.val (x := (.v (.int .i64 ((x2272.f_Text.size : Nat) : Int)))) (op_len rfl rfl rfl rfl rfl Tryd.underlying9) rfl rfl rfl ?_
              refine Eo.val (x := (.v (.bool (decide (y2450 < ((x2272.f_Text.size : Nat) : Int)))))) rfl rfl rfl rfl ?_
              refine Eo.nil ?_
              refine Ec.cond (t := (decide (y2450 < ((x2272.f_Text.size : Nat) : Int)))) rfl (fun hc2578 => ?_) (fun hc2578 => ?_)
              · have H := cond_t hc2578 H
                refine Ec.skip ?_
                refine Ec.seq ?_
                obtain ⟨x2636, hv2701, H⟩ := bind_some H
                refine Ec.cut (J := (fun (x2636 : (List Int)) (x : X) (φ : Fr) (s : St) => x = .normal ∧ (∃ (a2637 : A), Sl (rI .u8) a2637 x2636 ∧ Hp s (.blk b2276 (.cells [(.v (.int .i64 x2272.f_Kind)), (.v (.string x2272.f_Text))] 48) :: .app a2637 5 :: R) ∧ Fl [(3, (.v (.string (ByteArray.mk #[48, 49, 50, 51, 52, 53, 54, 55, 56, 57, 97, 98, 99, 100, 101, 102])))), (4, a2637), (6, (.ptr b2276 0)), (7, (.v (.int .i64 y2450))), (10, a1), (11, (.v (.int .i64 ((p0.length : Nat) : Int)))), (12, (.v (.int .i64 y913)))] φ)) x2636) ?_ ?_
                · have H := hv2701
                  refine Ec.block ?_
                  refine Ec.seq ?_
                  refine Ec.region ?_
                  refine Eo.val (x := (.ptr b2276 1)) rfl rfl rfl rfl ?_
                  refine Eo.val (x := (.v (.string x2272.f_Text))) (op_loadB hp0 0 rfl rfl rfl rfl) rfl rfl rfl ?_
                  refine Eo.val (x := (.v (.int .i64 y2450))) rfl rfl rfl rfl ?_
                  obtain ⟨b2639, hvb2639, H⟩ := bind_some H
                  refine Eo.val (op_byteS hvb2639 rfl rfl rfl Tryd.underlying9) rfl rfl rfl ?_
                  refine Eo.val (x := (.v (.int .u8 b2639))) rfl rfl rfl rfl ?_
                  refine Eo.nil ?_
                  refine Ec.seq ?_
                  refine Ec.region ?_
                  refine Eo.val (x := (.v (.int .u8 b2639))) rfl rfl rfl rfl ?_
                  refine Eo.val (x := (.v (.bool (decide (b2639 < 32))))) rfl rfl rfl rfl ?_
                  refine Eo.val (x := (.v (.bool (decide (b2639 < 32))))) rfl rfl rfl rfl ?_
                  refine Eo.cutF 3 [(3, (.v (.string (ByteArray.mk #[48, 49, 50, 51, 52, 53, 54, 55, 56, 57, 97, 98, 99, 100, 101, 102])))), (4, a2448), (6, (.ptr b2276 0)), (7, (.v (.int .i64 y2450))), (10, a1), (11, (.v (.int .i64 ((p0.length : Nat) : Int)))), (12, (.v (.int .i64 y913))), (8, (.v (.int .u8 b2639))), (48, (.v (.bool ((decide (b2639 < 32)) || (decide (b2639 > 126))))))] ?_ ?_
                  · skip
                    cases hc2642 : (decide (b2639 < 32))
                    · skip
                      refine Eo.val (x := (.v (.int .u8 b2639))) rfl rfl rfl rfl ?_
                      refine Eo.val (x := (.v (.bool (decide (b2639 > 126))))) rfl rfl rfl rfl ?_
                      refine Eo.val (x := (.v (.bool (decide (b2639 > 126))))) rfl rfl rfl rfl ?_
                      exact Eo.nil (And.intro rfl (And.intro rfl (.cons rfl (.cons rfl (.cons rfl (.cons rfl (.cons rfl (.cons rfl (.cons rfl (.cons rfl (.cons rfl (.nil'))))))))))))
                    · skip
                      refine Eo.off rfl rfl rfl ?_
                      refine Eo.off rfl rfl rfl ?_
                      refine Eo.val (x := (.v (.bool true))) rfl rfl rfl rfl ?_
                      exact Eo.nil (And.intro rfl (And.intro rfl (.cons rfl (.cons rfl (.cons rfl (.cons rfl (.cons rfl (.cons rfl (.cons rfl (.cons rfl (.cons rfl (.nil'))))))))))))
                  · skip
                    refine Eo.val (x := (.v (.bool ((decide (b2639 < 32)) || (decide (b2639 > 126)))))) rfl rfl rfl rfl ?_
                    refine Eo.cutF 3 [(3, (.v (.string (ByteArray.mk #[48, 49, 50, 51, 52, 53, 54, 55, 56, 57, 97, 98, 99, 100, 101, 102])))), (4, a2448), (6, (.ptr b2276 0)), (7, (.v (.int .i64 y2450))), (10, a1), (11, (.v (.int .i64 ((p0.length : Nat) : Int)))), (12, (.v (.int .i64 y913))), (8, (.v (.int .u8 b2639))), (52, (.v (.bool (((decide (b2639 < 32)) || (decide (b2639 > 126))) || (b2639 == 34)))))] ?_ ?_
                    · skip
                      cases hc2647 : ((decide (b2639 < 32)) || (decide (b2639 > 126)))
                      · skip
                        refine Eo.val (x := (.v (.int .u8 b2639))) rfl rfl rfl rfl ?_
                        refine Eo.val (x := (.v (.bool (b2639 == 34)))) rfl rfl rfl rfl ?_
                        refine Eo.val (x := (.v (.bool (b2639 == 34)))) rfl rfl rfl rfl ?_
                        exact Eo.nil (And.intro rfl (And.intro rfl (.cons rfl (.cons rfl (.cons rfl (.cons rfl (.cons rfl (.cons rfl (.cons rfl (.cons rfl (.cons rfl (.nil'))))))))))))
                      · skip
                        refine Eo.off rfl rfl rfl ?_
                        refine Eo.off rfl rfl rfl ?_
                        refine Eo.val (x := (.v (.bool true))) rfl rfl rfl rfl ?_
                        exact Eo.nil (And.intro rfl (And.intro rfl (.cons rfl (.cons rfl (.cons rfl (.cons rfl (.cons rfl (.cons rfl (.cons rfl (.cons rfl (.cons rfl (.nil'))))))))))))
                    · skip
                      refine Eo.val (x := (.v (.bool (((decide (b2639 < 32)) || (decide (b2639 > 126))) || (b2639 == 34))))) rfl rfl rfl rfl ?_
                      refine Eo.cutF 3 [(3, (.v (.string (ByteArray.mk #[48, 49, 50, 51, 52, 53, 54, 55, 56, 57, 97, 98, 99, 100, 101, 102])))), (4, a2448), (6, (.ptr b2276 0)), (7, (.v (.int .i64 y2450))), (10, a1), (11, (.v (.int .i64 ((p0.length : Nat) : Int)))), (12, (.v (.int .i64 y913))), (8, (.v (.int .u8 b2639))), (56, (.v (.bool ((((decide (b2639 < 32)) || (decide (b2639 > 126))) || (b2639 == 34)) || (b2639 == 92)))))] ?_ ?_
                      · skip
                        cases hc2652 : (((decide (b2639 < 32)) || (decide (b2639 > 126))) || (b2639 == 34))
                        · skip
                          refine Eo.val (x := (.v (.int .u8 b2639))) rfl rfl rfl rfl ?_
                          refine Eo.val (x := (.v (.bool (b2639 == 92)))) rfl rfl rfl rfl ?_
                          refine Eo.val (x := (.v (.bool (b2639 == 92)))) rfl rfl rfl rfl ?_
                          exact Eo.nil (And.intro rfl (And.intro rfl (.cons rfl (.cons rfl (.cons rfl (.cons rfl (.cons rfl (.cons rfl (.cons rfl (.cons rfl (.cons rfl (.nil'))))))))))))
                        · skip
                          refine Eo.off rfl rfl rfl ?_
                          refine Eo.off rfl rfl rfl ?_
                          refine Eo.val (x := (.v (.bool true))) rfl rfl rfl rfl ?_
                          exact Eo.nil (And.intro rfl (And.intro rfl (.cons rfl (.cons rfl (.cons rfl (.cons rfl (.cons rfl (.cons rfl (.cons rfl (.cons rfl (.cons rfl (.nil'))))))))))))
                      · skip
                        refine Eo.nil ?_
                        refine Ec.cond (t := ((((decide (b2639 < 32)) || (decide (b2639 > 126))) || (b2639 == 34)) || (b2639 == 92))) rfl (fun hc2655 => ?_) (fun hc2655 => ?_)
                        · have H := cond_t hc2655 H
                          obtain ⟨x2667, hv2686, H⟩ := bind_some H
                          refine Ec.cut (J := (fun (x2667 : (List Int)) (x : X) (φ : Fr) (s : St) => x = .normal ∧ (∃ (a2668 : A), Sl (rI .u8) a2668 x2667 ∧ Hp s (.blk b2276 (.cells [(.v (.int .i64 x2272.f_Kind)), (.v (.string x2272.f_Text))] 48) :: .app a2668 5 :: R) ∧ Fl [(3, (.v (.string (ByteArray.mk #[48, 49, 50, 51, 52, 53, 54, 55, 56, 57, 97, 98, 99, 100, 101, 102])))), (4, a2668), (6, (.ptr b2276 0)), (7, (.v (.int .i64 y2450))), (10, a1), (11, (.v (.int .i64 ((p0.length : Nat) : Int)))), (12, (.v (.int .i64 y913)))] φ)) x2667) ?_ ?_
                          · have H := hv2686
                            refine Ec.drawn (by kernel_rfl) ?_
                            refine Eo.val (x := a2448) rfl rfl rfl rfl ?_
                            refine Eo.val (x := (.v (.string (ByteArray.mk #[48, 49, 50, 51, 52, 53, 54, 55, 56, 57, 97, 98, 99, 100, 101, 102])))) rfl rfl rfl rfl ?_
                            refine Eo.val (x := (.v (.int .u8 b2639))) rfl rfl rfl rfl ?_
                            refine Eo.val (x := (.v (.int .u8 (IntKind.wrap .u8 (Int.tdiv b2639 16))))) rfl rfl rfl rfl ?_
                            obtain ⟨b2670, hvb2670, H⟩ := bind_some H
                            refine Eo.val (op_byteS hvb2670 rfl rfl rfl Tryd.underlying9) rfl rfl rfl ?_
                            refine Eo.val (x := (.v (.string (ByteArray.mk #[48, 49, 50, 51, 52, 53, 54, 55, 56, 57, 97, 98, 99, 100, 101, 102])))) rfl rfl rfl rfl ?_
                            refine Eo.val (x := (.v (.int .u8 b2639))) rfl rfl rfl rfl ?_
                            refine Eo.val (x := (.v (.int .u8 (Int.tmod b2639 16)))) rfl rfl rfl rfl ?_
                            obtain ⟨b2671, hvb2671, H⟩ := bind_some H
                            refine Eo.val (op_byteS hvb2671 rfl rfl rfl Tryd.underlying9) rfl rfl rfl ?_
                            refine Eo.val (x := (.sl 1 [(.v (.int .u8 92)), (.v (.int .u8 120)), (.v (.int .u8 b2670)), (.v (.int .u8 b2671))] .ex)) (op_buildS (lay_cons rfl rfl rfl rfl rfl (lay_cons rfl rfl rfl rfl rfl (lay_cons rfl rfl rfl rfl rfl (lay_cons rfl rfl rfl rfl rfl lay_nil)))) rfl (parts_cons rfl rfl (parts_cons rfl rfl (parts_cons rfl rfl (parts_cons rfl rfl rfl)))) Tryd.underlying61 rfl rfl rfl rfl (by decide) rfl) rfl rfl rfl ?_
                            have h2675 : Sl (rI .u8) (.sl 1 [(.v (.int .u8 92)), (.v (.int .u8 120)), (.v (.int .u8 b2670)), (.v (.int .u8 b2671))] .ex) ([92, 120, b2670, b2671] : List Int) := .inr ⟨_, _, rfl, (.cons (c := [(.v (.int .u8 92))]) rfl (.cons (c := [(.v (.int .u8 120))]) rfl (.cons (c := [(.v (.int .u8 b2670))]) rfl (.cons (c := [(.v (.int .u8 b2671))]) rfl .nil))))⟩
                            have hp2674 := Hp.appEx hp0 5 1 [(.v (.int .u8 92)), (.v (.int .u8 120)), (.v (.int .u8 b2670)), (.v (.int .u8 b2671))]
                            obtain ⟨l2676, hvl2676, H⟩ := bind_some H
                            refine Eo.append hp2674 2 rfl h2449 (New.of h2675) hvl2676 rfl rfl rfl rfl rfl rfl rfl Tryd.underlying61 rfl Tryd.underlying61 rfl rfl rfl rfl rfl rfl rfl rfl ?_
                            intro a2677 σ2680 h2678 hp2679
                            change Hp σ2680 (.app (.sl 1 [(.v (.int .u8 92)), (.v (.int .u8 120)), (.v (.int .u8 b2670)), (.v (.int .u8 b2671))] .ex) 5 :: .blk b2276 (.cells [(.v (.int .i64 x2272.f_Kind)), (.v (.string x2272.f_Text))] 48) :: .app a2677 5 :: R) at hp2679
                            refine Eo.val (x := a2677) rfl rfl rfl rfl ?_
                            refine Eo.nil ?_
                            obtain rfl := Option.some.inj H
                            exact And.intro rfl (And.intro rfl ⟨a2677, h2678, (Hp.front (Hp.front (Hp.drop hp2679 0) 1) 1), (.cons rfl (.cons rfl (.cons rfl (.cons rfl (.cons rfl (.cons rfl (.cons rfl (.nil'))))))))⟩)
                          · skip
                            intro x φ2683 σ2682 hJ
                            obtain ⟨rfl, a2668, h2669, hp2681, hf2684⟩ := hJ
                            obtain rfl := Option.some.inj H
                            exact And.intro rfl ⟨a2668, h2669, (Hp.front (Hp.front hp2681 1) 1), (Fl.trans (G := [(3, (.v (.string (ByteArray.mk #[48, 49, 50, 51, 52, 53, 54, 55, 56, 57, 97, 98, 99, 100, 101, 102])))), (4, a2668), (6, (.ptr b2276 0)), (7, (.v (.int .i64 y2450))), (10, a1), (11, (.v (.int .i64 ((p0.length : Nat) : Int)))), (12, (.v (.int .i64 y913)))]) (.cons rfl (.cons rfl (.cons rfl (.cons rfl (.cons rfl (.cons rfl (.cons rfl (.nil')))))))) hf2684)⟩
                        · have H := cond_f hc2655 H
                          refine Ec.region ?_
                          refine Eo.val (x := a2448) rfl rfl rfl rfl ?_
                          refine Eo.val (x := (.v (.int .u8 b2639))) rfl rfl rfl rfl ?_
                          refine Eo.val (x := (.sl 1 [(.v (.int .u8 b2639))] .ex)) (op_buildS (lay_cons rfl rfl rfl rfl rfl lay_nil) rfl (parts_cons rfl rfl rfl) Tryd.underlying61 rfl rfl rfl rfl (by decide) rfl) rfl rfl rfl ?_
                          have h2690 : Sl (rI .u8) (.sl 1 [(.v (.int .u8 b2639))] .ex) ([b2639] : List Int) := .inr ⟨_, _, rfl, (.cons (c := [(.v (.int .u8 b2639))]) rfl .nil)⟩
                          have hp2689 := Hp.appEx hp0 5 1 [(.v (.int .u8 b2639))]
                          obtain ⟨l2691, hvl2691, H⟩ := bind_some H
                          refine Eo.append hp2689 2 rfl h2449 (New.of h2690) hvl2691 rfl rfl rfl rfl rfl rfl rfl Tryd.underlying61 rfl Tryd.underlying61 rfl rfl rfl rfl rfl rfl rfl rfl ?_
                          intro a2692 σ2695 h2693 hp2694
                          change Hp σ2695 (.app (.sl 1 [(.v (.int .u8 b2639))] .ex) 5 :: .blk b2276 (.cells [(.v (.int .i64 x2272.f_Kind)), (.v (.string x2272.f_Text))] 48) :: .app a2692 5 :: R) at hp2694
                          refine Eo.val (x := a2692) rfl rfl rfl rfl ?_
                          refine Eo.nil ?_
                          obtain rfl := Option.some.inj H
                          exact And.intro rfl ⟨a2692, h2693, (Hp.front (Hp.front (Hp.drop hp2694 0) 1) 1), (.cons rfl (.cons rfl (.cons rfl (.cons rfl (.cons rfl (.cons rfl (.cons rfl (.nil'))))))))⟩
                · skip
                  intro x φ2698 σ2697 hJ
                  obtain ⟨rfl, a2637, h2638, hp2696, hf2699⟩ := hJ
                  refine Ec.of (F := [(3, (.v (.string (ByteArray.mk #[48, 49, 50, 51, 52, 53, 54, 55, 56, 57, 97, 98, 99, 100, 101, 102])))), (4, a2637), (6, (.ptr b2276 0)), (7, (.v (.int .i64 y2450))), (10, a1), (11, (.v (.int .i64 ((p0.length : Nat) : Int)))), (12, (.v (.int .i64 y913)))]) hf2699 ?_
                  refine Ec.region ?_
                  refine Eo.val (x := (.v (.int .i64 y2450))) rfl rfl rfl rfl ?_
                  refine Eo.val (x := (.v (.int .i64 (IntKind.wrap .i64 (y2450 + 1))))) rfl rfl rfl rfl ?_
                  refine Eo.val (x := (.v (.int .i64 (IntKind.wrap .i64 (y2450 + 1))))) rfl rfl rfl rfl ?_
                  refine Eo.nil ?_
                  exact Ec.of (.cons rfl (.cons rfl (.cons rfl (.cons rfl (.cons rfl (.cons rfl (.cons rfl (.nil')))))))) (ih ((x2636, (IntKind.wrap .i64 (y2450 + 1))), a2637) _ ⟨h2638, (Hp.front (Hp.front hp2696 1) 1)⟩ H)
              · have H := cond_f hc2578 H
                refine Ec.exit ?_
                obtain rfl := Option.some.inj H
                exact And.intro rfl ⟨a2448, h2449, (Hp.drop hp0 0), (.cons rfl (.cons rfl (.cons rfl (.cons rfl (.cons rfl (.nil'))))))⟩
            · skip
              intro x φ2706 σ2705 hJ
              obtain ⟨rfl, a2576, h2577, hp2704, hf2707⟩ := hJ
              refine Ec.of (F := [(3, (.v (.string (ByteArray.mk #[48, 49, 50, 51, 52, 53, 54, 55, 56, 57, 97, 98, 99, 100, 101, 102])))), (4, a2576), (10, a1), (11, (.v (.int .i64 ((p0.length : Nat) : Int)))), (12, (.v (.int .i64 y913)))]) hf2707 ?_
              refine Ec.region ?_
              refine Eo.val (x := a2576) rfl rfl rfl rfl ?_
              refine Eo.val (x := (.sl 1 [(.v (.int .u8 34))] .ex)) (op_buildS (lay_cons rfl rfl rfl rfl rfl lay_nil) rfl (parts_cons rfl rfl rfl) Tryd.underlying61 rfl rfl rfl rfl (by decide) rfl) rfl rfl rfl ?_
              have h2711 : Sl (rI .u8) (.sl 1 [(.v (.int .u8 34))] .ex) ([34] : List Int) := .inr ⟨_, _, rfl, (.cons (c := [(.v (.int .u8 34))]) rfl .nil)⟩
              have hp2710 := Hp.appEx hp2704 5 1 [(.v (.int .u8 34))]
              obtain ⟨l2712, hvl2712, H⟩ := bind_some H
              refine Eo.append hp2710 1 rfl h2577 (New.of h2711) hvl2712 rfl rfl rfl rfl rfl rfl rfl Tryd.underlying61 rfl Tryd.underlying61 rfl rfl rfl rfl rfl rfl rfl rfl ?_
              intro a2713 σ2716 h2714 hp2715
              change Hp σ2716 (.app (.sl 1 [(.v (.int .u8 34))] .ex) 5 :: .app a2713 5 :: R) at hp2715
              refine Eo.val (x := a2713) rfl rfl rfl rfl ?_
              refine Eo.nil ?_
              obtain rfl := Option.some.inj H
              exact And.intro rfl ⟨a2713, h2714, (Hp.drop hp2715 0), (.cons rfl (.cons rfl (.cons rfl (.cons rfl (.cons rfl (.nil'))))))⟩
      · skip
        intro x φ2721 σ2720 hJ
        obtain ⟨rfl, a2270, h2271, hp2719, hf2722⟩ := hJ
        refine Ec.of (F := [(3, (.v (.string (ByteArray.mk #[48, 49, 50, 51, 52, 53, 54, 55, 56, 57, 97, 98, 99, 100, 101, 102])))), (4, a2270), (10, a1), (11, (.v (.int .i64 ((p0.length : Nat) : Int)))), (12, (.v (.int .i64 y913)))]) hf2722 ?_
        refine Ec.region ?_
        refine Eo.val (x := (.v (.int .i64 (IntKind.wrap .i64 (y913 + 1))))) rfl rfl rfl rfl ?_
        refine Eo.val (x := (.v (.int .i64 (IntKind.wrap .i64 (y913 + 1))))) rfl rfl rfl rfl ?_
        refine Eo.nil ?_
        exact Ec.of (.cons rfl (.cons rfl (.cons rfl (.cons rfl (.cons rfl (.nil')))))) (ih ((x2269, (IntKind.wrap .i64 (y913 + 1))), a2270) _ ⟨h2271, hp2719⟩ H)
    · have H := cond_f hc1821 H
      refine Ec.exit ?_
      obtain rfl := Option.some.inj H
      exact And.intro rfl ⟨a911, h912, hp0, (.cons rfl (.nil'))⟩
  · skip
    intro x φ2729 σ2728 hJ
    obtain ⟨rfl, a1819, h1820, hp2727, hf2730⟩ := hJ
    refine Ec.of (F := [(4, a1819)]) hf2730 ?_
    refine Ec.seq ?_
    refine Ec.region ?_
    refine Eo.val (x := a1819) rfl rfl rfl rfl ?_
    refine Eo.val (op_b2s h1820 rfl rfl Tryd.underlying61 Tryd.underlying9 Tryd.underlying5 (fun h => by subst h; rfl)) rfl rfl rfl ?_
    refine Eo.val (x := (.v (.string (ofB x1818)))) rfl rfl rfl rfl ?_
    refine Eo.nil ?_
    obtain rfl := Option.some.inj H
    refine Ec.ret ?_
    refine Ret.mk rfl ?_
    exact ⟨rfl, (Hp.drop hp2727 0)⟩

def gdovetaillaw13_AsmtextWords (n : Nat) (p0 : ByteArray) : Option (Bool) := ((gdovetaillaw13_asmtextAlive n ).bind fun r1 => (cond (!r1) (some false) (((gdovetailref13_Words n p0).bind fun v => match v with | (r6, r7) => ((gasmtext_Words n p0).bind fun v => match v with | (r13, r14) => (((cond (r14 != r7) (some true) (((gdovetailref13_SameToks n r13 r6).bind fun r25 => some (!r25)))) : Option (Bool)).bind fun x23 => (cond x23 (some false) ((cond (r14 != 0) (some true) (((gasmtext_Join n r13).bind fun r34 => ((gasmtext_Words n r34).bind fun v => match v with | (r38, r39) => ((gasmtext_Join n r13).bind fun r44 => ((gdovetailref13_Join n r13).bind fun r47 => (((cond ((decide (r44 = r47)) && (r39 == 0)) (((gdovetailref13_SameToks n r38 r13).bind fun r61 => some r61)) (some false)) : Option (Bool)).bind fun x59 => some x59)))))))))))))))

def gdovetaillaw13_AsmtextWords_post (R : List Res) (r : Bool) (x : A) (s : St) : Prop := x = (.v (.bool r)) ∧ Hp s (R)

theorem gdovetaillaw13_AsmtextWords_ok {n : Nat} {p0 : ByteArray} {R : List Res} {σ : St} (hp : Hp σ R) {r : Bool} (H : gdovetaillaw13_AsmtextWords n p0 = some r) : Ca cfg 5 [(.v (.string p0))] σ (gdovetaillaw13_AsmtextWords_post R r) := by
  unfold gdovetaillaw13_AsmtextWords at H
  refine Ca.enterL (G := [(0, (.v (.string p0)))]) Tryd.func5 rfl rfl rfl rfl ?_
  refine Ec.seq ?_
  refine Ec.region ?_
  refine Eo.val (x := (.v (.bool false))) rfl rfl rfl rfl ?_
  refine Eo.nil ?_
  refine Ec.seq ?_
  refine Ec.seq ?_
  refine Ec.region ?_
  obtain ⟨r1, hvr1, H⟩ := bind_some H
  refine Eo.call rfl rfl rfl rfl (gdovetaillaw13_asmtextAlive_ok hp hvr1) ?_
  rintro _ σ3 ⟨rfl, hp2⟩
  refine Eo.val (x := (.v (.bool (!r1)))) rfl rfl rfl rfl ?_
  refine Eo.nil ?_
  refine Ec.cond (t := (!r1)) rfl (fun hc4 => ?_) (fun hc4 => ?_)
  · have H := cond_t hc4 H
    refine Ec.seq ?_
    refine Ec.region ?_
    refine Eo.val (x := (.v (.bool false))) rfl rfl rfl rfl ?_
    refine Eo.nil ?_
    obtain rfl := Option.some.inj H
    refine Ec.ret ?_
    refine Ret.mk rfl ?_
    exact ⟨rfl, hp2⟩
  · have H := cond_f hc4 H
    refine Ec.skip ?_
    refine Ec.seq ?_
    refine Ec.region ?_
    refine Eo.val (x := (.v (.string p0))) rfl rfl rfl rfl ?_
    obtain ⟨r5, hvr5, H⟩ := bind_some H
    refine Eo.call rfl rfl rfl rfl (gdovetailref13_Words_ok hp2 hvr5) ?_
    obtain ⟨r6, r7⟩ := r5
    rintro _ σ11 ⟨a8, rfl, h9, hp10⟩
    change Hp σ11 (.app a8 48 :: R) at hp10
    refine Eo.val (x := (.tup [a8, (.v (.int .i64 r7))])) rfl rfl rfl rfl ?_
    refine Eo.val (x := a8) rfl rfl rfl rfl ?_
    refine Eo.val (x := (.v (.int .i64 r7))) rfl rfl rfl rfl ?_
    refine Eo.val (x := a8) rfl rfl rfl rfl ?_
    refine Eo.val (x := (.v (.int .i64 r7))) rfl rfl rfl rfl ?_
    refine Eo.nil ?_
    refine Ec.seq ?_
    refine Ec.region ?_
    refine Eo.val (x := (.v (.string p0))) rfl rfl rfl rfl ?_
    obtain ⟨r12, hvr12, H⟩ := bind_some H
    refine Eo.call rfl rfl rfl rfl (gasmtext_Words_ok hp10 hvr12) ?_
    obtain ⟨r13, r14⟩ := r12
    rintro _ σ18 ⟨a15, rfl, h16, hp17⟩
    change Hp σ18 (.app a15 48 :: .app a8 48 :: R) at hp17
    refine Eo.val (x := (.tup [a15, (.v (.int .i64 r14))])) rfl rfl rfl rfl ?_
    refine Eo.val (x := a15) rfl rfl rfl rfl ?_
    refine Eo.val (x := (.v (.int .i64 r14))) rfl rfl rfl rfl ?_
    refine Eo.val (x := a15) rfl rfl rfl rfl ?_
    refine Eo.val (x := (.v (.int .i64 r14))) rfl rfl rfl rfl ?_
    refine Eo.nil ?_
    refine Ec.seq ?_
    refine Ec.seq ?_
    refine Ec.region ?_
    refine Eo.val (x := (.v (.int .i64 r14))) rfl rfl rfl rfl ?_
    refine Eo.val (x := (.v (.int .i64 r7))) rfl rfl rfl rfl ?_
    refine Eo.val (x := (.v (.bool (r14 != r7)))) rfl rfl rfl rfl ?_
    refine Eo.val (x := (.v (.bool (r14 != r7)))) rfl rfl rfl rfl ?_
    obtain ⟨x23, hv71, H⟩ := bind_some H
    refine Eo.cutN 5 (J := (fun (x23 : Bool) (x : X) (φ : Fr) (s : St) => x = .normal ∧ (Hp s (.app a15 48 :: R) ∧ Fl [(5, a15), (6, (.v (.int .i64 r14))), (29, (.v (.bool x23)))] φ)) x23) ?_ ?_
    · have H := hv71
      cases hc24 : (r14 != r7)
      · have H := cond_f hc24 H
        refine Eo.val (x := a15) rfl rfl rfl rfl ?_
        refine Eo.val (x := a8) rfl rfl rfl rfl ?_
        obtain ⟨r25, hvr25, H⟩ := bind_some H
        refine Eo.call rfl rfl rfl rfl (gdovetailref13_SameToks_ok h16 h9 hp17 hvr25) ?_
        rintro _ σ27 ⟨rfl, hp26⟩
        refine Eo.val (x := (.v (.bool (!r25)))) rfl rfl rfl rfl ?_
        refine Eo.val (x := (.v (.bool (!r25)))) rfl rfl rfl rfl ?_
        refine Eo.nil ?_
        obtain rfl := Option.some.inj H
        exact And.intro rfl ⟨(Hp.drop hp26 1), (.cons rfl (.cons rfl (.cons rfl (.nil'))))⟩
      · have H := cond_t hc24 H
        refine Eo.off rfl rfl rfl ?_
        refine Eo.off rfl rfl rfl ?_
        refine Eo.off rfl rfl rfl ?_
        refine Eo.off rfl rfl rfl ?_
        refine Eo.val (x := (.v (.bool true))) rfl rfl rfl rfl ?_
        refine Eo.nil ?_
        obtain rfl := Option.some.inj H
        exact And.intro rfl ⟨(Hp.drop hp17 1), (.cons rfl (.cons rfl (.cons rfl (.nil'))))⟩
    · skip
      intro x φ30 σ29 hJ
      obtain ⟨rfl, hp28, hf31⟩ := hJ
      refine ⟨rfl, Eo.of (F := [(5, a15), (6, (.v (.int .i64 r14))), (29, (.v (.bool x23)))]) hf31 ?_⟩
      refine Eo.nil ?_
      refine Ec.cond (t := x23) rfl (fun hc32 => ?_) (fun hc32 => ?_)
      · have H := cond_t hc32 H
        refine Ec.seq ?_
        refine Ec.region ?_
        refine Eo.val (x := (.v (.bool false))) rfl rfl rfl rfl ?_
        refine Eo.nil ?_
        obtain rfl := Option.some.inj H
        refine Ec.ret ?_
        refine Ret.mk rfl ?_
        exact ⟨rfl, (Hp.drop hp28 0)⟩
      · have H := cond_f hc32 H
        refine Ec.skip ?_
        refine Ec.seq ?_
        refine Ec.seq ?_
        refine Ec.region ?_
        refine Eo.val (x := (.v (.int .i64 r14))) rfl rfl rfl rfl ?_
        refine Eo.val (x := (.v (.bool (r14 != 0)))) rfl rfl rfl rfl ?_
        refine Eo.nil ?_
        refine Ec.cond (t := (r14 != 0)) rfl (fun hc33 => ?_) (fun hc33 => ?_)
        · have H := cond_t hc33 H
          refine Ec.seq ?_
          refine Ec.region ?_
          refine Eo.val (x := (.v (.bool true))) rfl rfl rfl rfl ?_
          refine Eo.nil ?_
          obtain rfl := Option.some.inj H
          refine Ec.ret ?_
          refine Ret.mk rfl ?_
          exact ⟨rfl, (Hp.drop hp28 0)⟩
        · have H := cond_f hc33 H
          refine Ec.skip ?_
          refine Ec.seq ?_
          refine Ec.region ?_
          refine Eo.val (x := a15) rfl rfl rfl rfl ?_
          obtain ⟨r34, hvr34, H⟩ := bind_some H
          refine Eo.call rfl rfl rfl rfl (gasmtext_Join_ok h16 hp28 hvr34) ?_
          rintro _ σ36 ⟨rfl, hp35⟩
          obtain ⟨r37, hvr37, H⟩ := bind_some H
          refine Eo.call rfl rfl rfl rfl (gasmtext_Words_ok hp35 hvr37) ?_
          obtain ⟨r38, r39⟩ := r37
          rintro _ σ43 ⟨a40, rfl, h41, hp42⟩
          change Hp σ43 (.app a40 48 :: .app a15 48 :: R) at hp42
          refine Eo.val (x := (.tup [a40, (.v (.int .i64 r39))])) rfl rfl rfl rfl ?_
          refine Eo.val (x := a40) rfl rfl rfl rfl ?_
          refine Eo.val (x := (.v (.int .i64 r39))) rfl rfl rfl rfl ?_
          refine Eo.val (x := a40) rfl rfl rfl rfl ?_
          refine Eo.val (x := (.v (.int .i64 r39))) rfl rfl rfl rfl ?_
          refine Eo.nil ?_
          refine Ec.seq ?_
          refine Ec.region ?_
          refine Eo.val (x := a15) rfl rfl rfl rfl ?_
          obtain ⟨r44, hvr44, H⟩ := bind_some H
          refine Eo.call rfl rfl rfl rfl (gasmtext_Join_ok h16 hp42 hvr44) ?_
          rintro _ σ46 ⟨rfl, hp45⟩
          refine Eo.val (x := a15) rfl rfl rfl rfl ?_
          obtain ⟨r47, hvr47, H⟩ := bind_some H
          refine Eo.call rfl rfl rfl rfl (gdovetailref13_Join_ok h16 hp45 hvr47) ?_
          rintro _ σ49 ⟨rfl, hp48⟩
          refine Eo.val (x := (.v (.bool (decide (r44 = r47))))) (val_b rfl (seq_eq _ _)) rfl rfl rfl ?_
          refine Eo.val (x := (.v (.bool (decide (r44 = r47))))) rfl rfl rfl rfl ?_
          refine Eo.cutF 3 [(5, a15), (7, a40), (46, (.v (.bool ((decide (r44 = r47)) && (r39 == 0)))))] ?_ ?_
          · skip
            cases hc52 : (decide (r44 = r47))
            · skip
              refine Eo.off rfl rfl rfl ?_
              refine Eo.off rfl rfl rfl ?_
              refine Eo.val (x := (.v (.bool false))) rfl rfl rfl rfl ?_
              exact Eo.nil (And.intro rfl (And.intro rfl (.cons rfl (.cons rfl (.cons rfl (.nil'))))))
            · skip
              refine Eo.val (x := (.v (.int .i64 r39))) rfl rfl rfl rfl ?_
              refine Eo.val (x := (.v (.bool (r39 == 0)))) rfl rfl rfl rfl ?_
              refine Eo.val (x := (.v (.bool (r39 == 0)))) rfl rfl rfl rfl ?_
              exact Eo.nil (And.intro rfl (And.intro rfl (.cons rfl (.cons rfl (.cons rfl (.nil'))))))
          · skip
            refine Eo.val (x := (.v (.bool ((decide (r44 = r47)) && (r39 == 0))))) rfl rfl rfl rfl ?_
            obtain ⟨x59, hv69, H⟩ := bind_some H
            refine Eo.cutN 4 (J := (fun (x59 : Bool) (x : X) (φ : Fr) (s : St) => x = .normal ∧ (Hp s (R) ∧ Fl [(51, (.v (.bool x59)))] φ)) x59) ?_ ?_
            · have H := hv69
              cases hc60 : ((decide (r44 = r47)) && (r39 == 0))
              · have H := cond_f hc60 H
                refine Eo.off rfl rfl rfl ?_
                refine Eo.off rfl rfl rfl ?_
                refine Eo.off rfl rfl rfl ?_
                refine Eo.val (x := (.v (.bool false))) rfl rfl rfl rfl ?_
                refine Eo.nil ?_
                obtain rfl := Option.some.inj H
                exact And.intro rfl ⟨(Hp.drop (Hp.drop hp48 0) 0), (.cons rfl (.nil'))⟩
              · have H := cond_t hc60 H
                refine Eo.val (x := a40) rfl rfl rfl rfl ?_
                refine Eo.val (x := a15) rfl rfl rfl rfl ?_
                obtain ⟨r61, hvr61, H⟩ := bind_some H
                refine Eo.call rfl rfl rfl rfl (gdovetailref13_SameToks_ok h41 h16 hp48 hvr61) ?_
                rintro _ σ63 ⟨rfl, hp62⟩
                refine Eo.val (x := (.v (.bool r61))) rfl rfl rfl rfl ?_
                refine Eo.nil ?_
                obtain rfl := Option.some.inj H
                exact And.intro rfl ⟨(Hp.drop (Hp.drop hp62 0) 0), (.cons rfl (.nil'))⟩
            · skip
              intro x φ66 σ65 hJ
              obtain ⟨rfl, hp64, hf67⟩ := hJ
              refine ⟨rfl, Eo.of (F := [(51, (.v (.bool x59)))]) hf67 ?_⟩
              refine Eo.val (x := (.v (.bool x59))) rfl rfl rfl rfl ?_
              refine Eo.nil ?_
              obtain rfl := Option.some.inj H
              refine Ec.ret ?_
              refine Ret.mk rfl ?_
              exact ⟨rfl, hp64⟩

end Go.DM
