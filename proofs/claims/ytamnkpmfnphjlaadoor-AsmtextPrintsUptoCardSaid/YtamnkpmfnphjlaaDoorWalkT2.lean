/- Typed functions of the program's functions, and the walks that show that the calls come to them. No condition. -/
import Derived.Test.YtamnkpmfnphjlaaDoorWalkT1
namespace Go.DM
open Go Go.Proofs
set_option maxRecDepth 100000
set_option maxHeartbeats 1000000
theorem gdovetailref12_Digit_ok {n : Nat} {p0 : Int} {R : List Res} {σ : St} (hp : Hp σ R) {r : Bool} (H : gdovetailref12_Digit n p0 = some r) : Ca cfg 50 [(.v (.int .u8 p0))] σ (gdovetailref12_Digit_post R r) := by
  unfold gdovetailref12_Digit at H
  refine Ca.enterL (G := [(0, (.v (.int .u8 p0)))]) Tryd.func50 rfl rfl rfl rfl ?_
  refine Ec.seq ?_
  refine Ec.region ?_
  refine Eo.val (x := (.v (.bool false))) rfl rfl rfl rfl ?_
  refine Eo.nil ?_
  refine Ec.seq ?_
  refine Ec.region ?_
  refine Eo.val (x := (.v (.int .u8 p0))) rfl rfl rfl rfl ?_
  refine Eo.val (x := (.v (.bool (decide (p0 ≥ 48))))) rfl rfl rfl rfl ?_
  refine Eo.val (x := (.v (.bool (decide (p0 ≥ 48))))) rfl rfl rfl rfl ?_
  refine Eo.cutF 3 [(2, (.v (.bool false))), (8, (.v (.bool ((decide (p0 ≥ 48)) && (decide (p0 ≤ 57))))))] ?_ ?_
  · skip
    cases hc3 : (decide (p0 ≥ 48))
    · skip
      refine Eo.off rfl rfl rfl ?_
      refine Eo.off rfl rfl rfl ?_
      refine Eo.val (x := (.v (.bool false))) rfl rfl rfl rfl ?_
      exact Eo.nil (And.intro rfl (And.intro rfl (.cons rfl (.cons rfl (.nil')))))
    · skip
      refine Eo.val (x := (.v (.int .u8 p0))) rfl rfl rfl rfl ?_
      refine Eo.val (x := (.v (.bool (decide (p0 ≤ 57))))) rfl rfl rfl rfl ?_
      refine Eo.val (x := (.v (.bool (decide (p0 ≤ 57))))) rfl rfl rfl rfl ?_
      exact Eo.nil (And.intro rfl (And.intro rfl (.cons rfl (.cons rfl (.nil')))))
  · skip
    refine Eo.val (x := (.v (.bool ((decide (p0 ≥ 48)) && (decide (p0 ≤ 57)))))) rfl rfl rfl rfl ?_
    refine Eo.nil ?_
    obtain rfl := Option.some.inj H
    refine Ec.ret ?_
    refine Ret.mk rfl ?_
    exact ⟨rfl, hp⟩

def gdovetailref13_InWord (n : Nat) (p0 : Int) : Option (Bool) := ((gdovetailref12_Letter n p0).bind fun r1 => (((cond r1 (some true) (((gdovetailref12_Digit n p0).bind fun r10 => some r10))) : Option (Bool)).bind fun x8 => some x8))

def gdovetailref13_InWord_post (R : List Res) (r : Bool) (x : A) (s : St) : Prop := x = (.v (.bool r)) ∧ Hp s (R)

theorem gdovetailref13_InWord_ok {n : Nat} {p0 : Int} {R : List Res} {σ : St} (hp : Hp σ R) {r : Bool} (H : gdovetailref13_InWord n p0 = some r) : Ca cfg 27 [(.v (.int .u8 p0))] σ (gdovetailref13_InWord_post R r) := by
  unfold gdovetailref13_InWord at H
  refine Ca.enterL (G := [(0, (.v (.int .u8 p0)))]) Tryd.func27 rfl rfl rfl rfl ?_
  refine Ec.seq ?_
  refine Ec.region ?_
  refine Eo.val (x := (.v (.bool false))) rfl rfl rfl rfl ?_
  refine Eo.nil ?_
  refine Ec.seq ?_
  refine Ec.region ?_
  refine Eo.val (x := (.v (.int .u8 p0))) rfl rfl rfl rfl ?_
  obtain ⟨r1, hvr1, H⟩ := bind_some H
  refine Eo.call rfl rfl rfl rfl (gdovetailref12_Letter_ok hp hvr1) ?_
  rintro _ σ3 ⟨rfl, hp2⟩
  refine Eo.val (x := (.v (.bool r1))) rfl rfl rfl rfl ?_
  obtain ⟨x8, hv18, H⟩ := bind_some H
  refine Eo.cutN 3 (J := (fun (x8 : Bool) (x : X) (φ : Fr) (s : St) => x = .normal ∧ (Hp s (R) ∧ Fl [(2, (.v (.bool false))), (8, (.v (.bool x8)))] φ)) x8) ?_ ?_
  · have H := hv18
    cases hc9 : r1
    · have H := cond_f hc9 H
      refine Eo.val (x := (.v (.int .u8 p0))) rfl rfl rfl rfl ?_
      obtain ⟨r10, hvr10, H⟩ := bind_some H
      refine Eo.call rfl rfl rfl rfl (gdovetailref12_Digit_ok hp2 hvr10) ?_
      rintro _ σ12 ⟨rfl, hp11⟩
      refine Eo.val (x := (.v (.bool r10))) rfl rfl rfl rfl ?_
      refine Eo.nil ?_
      obtain rfl := Option.some.inj H
      exact And.intro rfl ⟨hp11, (.cons rfl (.cons rfl (.nil')))⟩
    · have H := cond_t hc9 H
      refine Eo.off rfl rfl rfl ?_
      refine Eo.off rfl rfl rfl ?_
      refine Eo.val (x := (.v (.bool true))) rfl rfl rfl rfl ?_
      refine Eo.nil ?_
      obtain rfl := Option.some.inj H
      exact And.intro rfl ⟨hp2, (.cons rfl (.cons rfl (.nil')))⟩
  · skip
    intro x φ15 σ14 hJ
    obtain ⟨rfl, hp13, hf16⟩ := hJ
    refine ⟨rfl, Eo.of (F := [(2, (.v (.bool false))), (8, (.v (.bool x8)))]) hf16 ?_⟩
    refine Eo.val (x := (.v (.bool x8))) rfl rfl rfl rfl ?_
    refine Eo.nil ?_
    obtain rfl := Option.some.inj H
    refine Ec.ret ?_
    refine Ret.mk rfl ?_
    exact ⟨rfl, hp13⟩

def gdovetailref13_Words_L1 (N : Nat) (p0 : ByteArray) : Nat → Int → Option (LR Unit ((List TTok) × Int))
  | 0, _ => none
  | m + 1, y6 => (cond (decide (y6 < ((p0.size : Nat) : Int))) (((atS p0 y6).bind fun b11 => (cond (b11 == 10) (some (.ret (([] : List TTok), 131))) (gdovetailref13_Words_L1 N p0 m (IntKind.wrap .i64 (y6 + 1)))))) (some (.out ())))

def gdovetailref13_Words_L3 (N : Nat) (p0 : ByteArray) : Nat → Int → Option (Int)
  | 0, _ => none
  | m + 1, y351 => (((cond (decide (y351 < ((p0.size : Nat) : Int))) (((atS p0 y351).bind fun b378 => ((gdovetailref13_InWord N b378).bind fun r379 => some r379))) (some false)) : Option (Bool)).bind fun x376 => (cond x376 (gdovetailref13_Words_L3 N p0 m (IntKind.wrap .i64 (y351 + 1))) (some y351)))

def gdovetailref13_Words_L2 (N : Nat) (p0 : ByteArray) : Nat → (List TTok) → Int → Option (LR (List TTok) ((List TTok) × Int))
  | 0, _, _ => none
  | m + 1, y148, y151 => (((cond (decide (y151 < ((p0.size : Nat) : Int))) (((atS p0 y151).bind fun b285 => some (b285 != 35))) (some false)) : Option (Bool)).bind fun x283 => (cond x283 (((atS p0 y151).bind fun b291 => (cond ((b291 == 32) || (b291 == 9)) (gdovetailref13_Words_L2 N p0 m y148 (IntKind.wrap .i64 (y151 + 1))) ((cond (b291 == 34) (((gdovetailref13_text N p0 y151).bind fun v => match v with | (r300, r301, r302) => (cond (!r302) (some (.ret (([] : List TTok), 131))) (((appL 24 y148 ([(TTok.mk 3 r300)] : List TTok)).bind fun l310 => gdovetailref13_Words_L2 N p0 m l310 r301))))) (((gdovetailref13_Sign N b291).bind fun r315 => (cond r315 (((subS p0 y151 (IntKind.wrap .i64 (y151 + 1))).bind fun s319 => ((appL 24 y148 ([(TTok.mk 2 s319)] : List TTok)).bind fun l324 => gdovetailref13_Words_L2 N p0 m l324 (IntKind.wrap .i64 (y151 + 1))))) (((gdovetailref13_InWord N b291).bind fun r329 => (cond r329 (((gdovetailref13_Words_L3 N p0 N y151).bind fun x370 => ((subS p0 y151 x370).bind fun s395 => ((appL 24 y148 ([(TTok.mk 1 s395)] : List TTok)).bind fun l400 => gdovetailref13_Words_L2 N p0 m l400 x370)))) (some (.ret (([] : List TTok), 131)))))))))))))) (some (.out y148))))

def gdovetailref13_Words (n : Nat) (p0 : ByteArray) : Option (((List TTok) × Int)) := ((gdovetailref13_Words_L1 n p0 n 0).bind fun v => match v with | .out _ => ((gdovetailref13_Words_L2 n p0 n ([] : List TTok) 0).bind fun v => match v with | .out x278 => (cond (decide (((x278.length : Nat) : Int) > 64)) (some (([] : List TTok), 133)) (some (x278, 0))) | .ret r414 => some r414) | .ret r417 => some r417)

def gdovetailref13_Words_post (R : List Res) (r : ((List TTok) × Int)) (x : A) (s : St) : Prop := ∃ (a1 : A), x = (.tup [a1, (.v (.int .i64 r.2))]) ∧ Sl rTTok a1 r.1 ∧ Hp s (.app a1 48 :: R)

theorem gdovetailref13_Words_ok {n : Nat} {p0 : ByteArray} {R : List Res} {σ : St} (hp : Hp σ R) {r : ((List TTok) × Int)} (H : gdovetailref13_Words n p0 = some r) : Ca cfg 12 [(.v (.string p0))] σ (gdovetailref13_Words_post R r) := by
  unfold gdovetailref13_Words at H
  refine Ca.enterL (G := [(0, (.v (.string p0)))]) Tryd.func12 rfl rfl rfl rfl ?_
  refine Ec.seq ?_
  refine Ec.region ?_
  refine Eo.val (x := nilS) rfl rfl rfl rfl ?_
  refine Eo.val (x := (.v (.int .i64 0))) rfl rfl rfl rfl ?_
  refine Eo.nil ?_
  refine Ec.seq ?_
  refine Ec.seq ?_
  refine Ec.region ?_
  refine Eo.val (x := (.v (.int .i64 0))) rfl rfl rfl rfl ?_
  refine Eo.nil ?_
  refine Ec.block ?_
  obtain ⟨v13, hv14, H⟩ := bind_some H
  refine Ec.cut (J := (fun (v : LR Unit ((List TTok) × Int)) (x : X) (φ : Fr) (s : St) => match v with | .out _ => x = (.exit 0) ∧ (Hp s (R) ∧ Fl [(0, (.v (.string p0)))] φ) | .ret r => x = .ret ∧ Ret cfg Tryd.f12 (gdovetailref13_Words_post R r) .ret φ s) v13) (Ec.weak (.cons rfl (.cons rfl (.nil'))) (Ec.loopF (f := (fun m (i : Int × Unit) => gdovetailref13_Words_L1 n p0 m i.1)) (G := (fun (i : Int × Unit) => ([(0, (.v (.string p0))), (4, (.v (.int .i64 i.1)))] : List (Nat × A)))) (I := (fun (i : Int × Unit) (s : St) => Hp s (R))) (J := (fun (v : LR Unit ((List TTok) × Int)) (x : X) (φ : Fr) (s : St) => match v with | .out _ => x = (.exit 0) ∧ (Hp s (R) ∧ Fl [(0, (.v (.string p0)))] φ) | .ret r => x = .ret ∧ Ret cfg Tryd.f12 (gdovetailref13_Words_post R r) .ret φ s)) (fun _ => rfl) ?_ n (0, ()) _ v13 hp hv14)) ?_
  · rintro m ⟨y6, _⟩ σ0 v hp0 H ih
    change gdovetailref13_Words_L1 n p0 (m + 1) y6 = some v at H
    rw [gdovetailref13_Words_L1] at H
    change Ec _ _ _ [(0, (.v (.string p0))), (4, (.v (.int .i64 y6)))] σ0 _
    refine Ec.seq ?_
    refine Ec.seq ?_
    refine Ec.region ?_
    refine Eo.val (x := (.v (.int .i64 y6))) rfl rfl rfl rfl ?_
    refine Eo.val (x := (.v (.string p0))) rfl rfl rfl rfl ?_
    refine Eo.val (x := (.v (.int .i64 ((p0.size : Nat) : Int)))) (op_len rfl rfl rfl rfl rfl Tryd.underlying9) rfl rfl rfl ?_
    refine Eo.val (x := (.v (.bool (decide (y6 < ((p0.size : Nat) : Int)))))) rfl rfl rfl rfl ?_
    refine Eo.nil ?_
    refine Ec.cond (t := (decide (y6 < ((p0.size : Nat) : Int)))) rfl (fun hc10 => ?_) (fun hc10 => ?_)
    · have H := cond_t hc10 H
      refine Ec.skip ?_
      refine Ec.seq ?_
      refine Ec.block ?_
      refine Ec.seq ?_
      refine Ec.region ?_
      refine Eo.val (x := (.v (.string p0))) rfl rfl rfl rfl ?_
      refine Eo.val (x := (.v (.int .i64 y6))) rfl rfl rfl rfl ?_
      obtain ⟨b11, hvb11, H⟩ := bind_some H
      refine Eo.val (op_byteS hvb11 rfl rfl rfl Tryd.underlying9) rfl rfl rfl ?_
      refine Eo.val (x := (.v (.bool (b11 == 10)))) rfl rfl rfl rfl ?_
      refine Eo.nil ?_
      refine Ec.cond (t := (b11 == 10)) rfl (fun hc12 => ?_) (fun hc12 => ?_)
      · have H := cond_t hc12 H
        refine Ec.seq ?_
        refine Ec.region ?_
        refine Eo.val (x := nilS) rfl rfl rfl rfl ?_
        refine Eo.val (x := (.v (.int .i64 131))) rfl rfl rfl rfl ?_
        refine Eo.nil ?_
        obtain rfl := Option.some.inj H
        refine Ec.ret ?_
        refine And.intro rfl (Ret.mk rfl ?_)
        exact ⟨nilS, rfl, Sl.nil, (Hp.appNil hp0 48)⟩
      · have H := cond_f hc12 H
        refine Ec.skip ?_
        refine Ec.region ?_
        refine Eo.val (x := (.v (.int .i64 y6))) rfl rfl rfl rfl ?_
        refine Eo.val (x := (.v (.int .i64 (IntKind.wrap .i64 (y6 + 1))))) rfl rfl rfl rfl ?_
        refine Eo.val (x := (.v (.int .i64 (IntKind.wrap .i64 (y6 + 1))))) rfl rfl rfl rfl ?_
        refine Eo.nil ?_
        exact Ec.of (.cons rfl (.cons rfl (.nil'))) (ih ((IntKind.wrap .i64 (y6 + 1)), ()) _ hp0 H)
    · have H := cond_f hc10 H
      refine Ec.exit ?_
      obtain rfl := Option.some.inj H
      exact And.intro rfl ⟨hp0, (.cons rfl (.nil'))⟩
  · rcases v13 with _ | r417
    · intro x φ17 σ16 hJ
      obtain ⟨rfl, hp15, hf18⟩ := hJ
      refine Ec.of (F := [(0, (.v (.string p0)))]) hf18 ?_
      refine Ec.seq ?_
      refine Ec.region ?_
      refine Eo.val (x := (.sl 2 [] .ex)) rfl rfl rfl rfl ?_
      have hp21 := Hp.appEx hp15 48 2 []
      refine Eo.val (x := (.sl 2 [] .ex)) rfl rfl rfl rfl ?_
      refine Eo.nil ?_
      refine Ec.seq ?_
      refine Ec.region ?_
      refine Eo.val (x := (.v (.int .i64 0))) rfl rfl rfl rfl ?_
      refine Eo.nil ?_
      refine Ec.seq ?_
      refine Ec.block ?_
      obtain ⟨v407, hv408, H⟩ := bind_some H
      refine Ec.cut (J := (fun (v : LR (List TTok) ((List TTok) × Int)) (x : X) (φ : Fr) (s : St) => match v with | .out x278 => x = (.exit 2) ∧ (∃ (a279 : A), Sl rTTok a279 x278 ∧ Hp s (.app a279 48 :: R) ∧ Fl [(5, a279)] φ) | .ret r => x = .ret ∧ Ret cfg Tryd.f12 (gdovetailref13_Words_post R r) .ret φ s) v407) (Ec.weak (.cons rfl (.cons rfl (.cons rfl (.nil')))) (Ec.loopF (f := (fun m (i : ((List TTok) × Int) × A) => gdovetailref13_Words_L2 n p0 m i.1.1 i.1.2)) (G := (fun (i : ((List TTok) × Int) × A) => ([(0, (.v (.string p0))), (5, i.2), (6, (.v (.int .i64 i.1.2)))] : List (Nat × A)))) (I := (fun (i : ((List TTok) × Int) × A) (s : St) => Sl rTTok i.2 i.1.1 ∧ Hp s (.app i.2 48 :: R))) (J := (fun (v : LR (List TTok) ((List TTok) × Int)) (x : X) (φ : Fr) (s : St) => match v with | .out x278 => x = (.exit 2) ∧ (∃ (a279 : A), Sl rTTok a279 x278 ∧ Hp s (.app a279 48 :: R) ∧ Fl [(5, a279)] φ) | .ret r => x = .ret ∧ Ret cfg Tryd.f12 (gdovetailref13_Words_post R r) .ret φ s)) (fun _ => rfl) ?_ n ((([] : List TTok), 0), (.sl 2 [] .ex)) _ v407 ⟨(.inr ⟨_, _, rfl, .nil⟩ : Sl rTTok (.sl 2 [] .ex) ([] : List TTok)), hp21⟩ hv408)) ?_
      · rintro m ⟨⟨y148, y151⟩, a149⟩ σ0 v ⟨h150, hp0⟩ H ih
        change gdovetailref13_Words_L2 n p0 (m + 1) y148 y151 = some v at H
        rw [gdovetailref13_Words_L2] at H
        change Ec _ _ _ [(0, (.v (.string p0))), (5, a149), (6, (.v (.int .i64 y151)))] σ0 _
        refine Ec.seq ?_
        refine Ec.seq ?_
        refine Ec.region ?_
        refine Eo.val (x := (.v (.int .i64 y151))) rfl rfl rfl rfl ?_
        refine Eo.val (x := (.v (.string p0))) rfl rfl rfl rfl ?_
        refine Eo.val (x := (.v (.int .i64 ((p0.size : Nat) : Int)))) (op_len rfl rfl rfl rfl rfl Tryd.underlying9) rfl rfl rfl ?_
        refine Eo.val (x := (.v (.bool (decide (y151 < ((p0.size : Nat) : Int)))))) rfl rfl rfl rfl ?_
        refine Eo.val (x := (.v (.bool (decide (y151 < ((p0.size : Nat) : Int)))))) rfl rfl rfl rfl ?_
        obtain ⟨x283, hv406, H⟩ := bind_some H
        refine Eo.cutN 5 (J := (fun (x283 : Bool) (x : X) (φ : Fr) (s : St) => x = .normal ∧ (Hp s (.app a149 48 :: R) ∧ Fl [(0, (.v (.string p0))), (5, a149), (6, (.v (.int .i64 y151))), (32, (.v (.bool x283)))] φ)) x283) ?_ ?_
        · have H := hv406
          cases hc284 : (decide (y151 < ((p0.size : Nat) : Int)))
          · have H := cond_f hc284 H
            refine Eo.off rfl rfl rfl ?_
            refine Eo.off rfl rfl rfl ?_
            refine Eo.off rfl rfl rfl ?_
            refine Eo.off rfl rfl rfl ?_
            refine Eo.val (x := (.v (.bool false))) rfl rfl rfl rfl ?_
            refine Eo.nil ?_
            obtain rfl := Option.some.inj H
            exact And.intro rfl ⟨hp0, (.cons rfl (.cons rfl (.cons rfl (.cons rfl (.nil')))))⟩
          · have H := cond_t hc284 H
            refine Eo.val (x := (.v (.string p0))) rfl rfl rfl rfl ?_
            refine Eo.val (x := (.v (.int .i64 y151))) rfl rfl rfl rfl ?_
            obtain ⟨b285, hvb285, H⟩ := bind_some H
            refine Eo.val (op_byteS hvb285 rfl rfl rfl Tryd.underlying9) rfl rfl rfl ?_
            refine Eo.val (x := (.v (.bool (b285 != 35)))) rfl rfl rfl rfl ?_
            refine Eo.val (x := (.v (.bool (b285 != 35)))) rfl rfl rfl rfl ?_
            refine Eo.nil ?_
            obtain rfl := Option.some.inj H
            exact And.intro rfl ⟨hp0, (.cons rfl (.cons rfl (.cons rfl (.cons rfl (.nil')))))⟩
        · skip
          intro x φ288 σ287 hJ
          obtain ⟨rfl, hp286, hf289⟩ := hJ
          refine ⟨rfl, Eo.of (F := [(0, (.v (.string p0))), (5, a149), (6, (.v (.int .i64 y151))), (32, (.v (.bool x283)))]) hf289 ?_⟩
          refine Eo.nil ?_
          refine Ec.cond (t := x283) rfl (fun hc290 => ?_) (fun hc290 => ?_)
          · have H := cond_t hc290 H
            refine Ec.skip ?_
            refine Ec.block ?_
            refine Ec.seq ?_
            refine Ec.region ?_
            refine Eo.val (x := (.v (.string p0))) rfl rfl rfl rfl ?_
            refine Eo.val (x := (.v (.int .i64 y151))) rfl rfl rfl rfl ?_
            obtain ⟨b291, hvb291, H⟩ := bind_some H
            refine Eo.val (op_byteS hvb291 rfl rfl rfl Tryd.underlying9) rfl rfl rfl ?_
            refine Eo.val (x := (.v (.int .u8 b291))) rfl rfl rfl rfl ?_
            refine Eo.nil ?_
            refine Ec.block ?_
            refine Ec.seq ?_
            refine Ec.region ?_
            refine Eo.val (x := (.v (.int .u8 b291))) rfl rfl rfl rfl ?_
            refine Eo.val (x := (.v (.bool (b291 == 32)))) rfl rfl rfl rfl ?_
            refine Eo.val (x := (.v (.bool (b291 == 32)))) rfl rfl rfl rfl ?_
            refine Eo.cutF 3 [(0, (.v (.string p0))), (5, a149), (6, (.v (.int .i64 y151))), (7, (.v (.int .u8 b291))), (42, (.v (.bool ((b291 == 32) || (b291 == 9)))))] ?_ ?_
            · skip
              cases hc294 : (b291 == 32)
              · skip
                refine Eo.val (x := (.v (.int .u8 b291))) rfl rfl rfl rfl ?_
                refine Eo.val (x := (.v (.bool (b291 == 9)))) rfl rfl rfl rfl ?_
                refine Eo.val (x := (.v (.bool (b291 == 9)))) rfl rfl rfl rfl ?_
                exact Eo.nil (And.intro rfl (And.intro rfl (.cons rfl (.cons rfl (.cons rfl (.cons rfl (.cons rfl (.nil'))))))))
              · skip
                refine Eo.off rfl rfl rfl ?_
                refine Eo.off rfl rfl rfl ?_
                refine Eo.val (x := (.v (.bool true))) rfl rfl rfl rfl ?_
                exact Eo.nil (And.intro rfl (And.intro rfl (.cons rfl (.cons rfl (.cons rfl (.cons rfl (.cons rfl (.nil'))))))))
            · skip
              refine Eo.val (x := (.v (.bool ((b291 == 32) || (b291 == 9))))) rfl rfl rfl rfl ?_
              refine Eo.nil ?_
              refine Ec.cond (t := ((b291 == 32) || (b291 == 9))) rfl (fun hc297 => ?_) (fun hc297 => ?_)
              · have H := cond_t hc297 H
                refine Ec.region ?_
                refine Eo.val (x := (.v (.int .i64 y151))) rfl rfl rfl rfl ?_
                refine Eo.val (x := (.v (.int .i64 (IntKind.wrap .i64 (y151 + 1))))) rfl rfl rfl rfl ?_
                refine Eo.val (x := (.v (.int .i64 (IntKind.wrap .i64 (y151 + 1))))) rfl rfl rfl rfl ?_
                refine Eo.nil ?_
                exact Ec.of (.cons rfl (.cons rfl (.cons rfl (.nil')))) (ih ((y148, (IntKind.wrap .i64 (y151 + 1))), a149) _ ⟨h150, hp286⟩ H)
              · have H := cond_f hc297 H
                refine Ec.seq ?_
                refine Ec.region ?_
                refine Eo.val (x := (.v (.int .u8 b291))) rfl rfl rfl rfl ?_
                refine Eo.val (x := (.v (.bool (b291 == 34)))) rfl rfl rfl rfl ?_
                refine Eo.val (x := (.v (.bool (b291 == 34)))) rfl rfl rfl rfl ?_
                refine Eo.nil ?_
                refine Ec.cond (t := (b291 == 34)) rfl (fun hc298 => ?_) (fun hc298 => ?_)
                · have H := cond_t hc298 H
                  refine Ec.seq ?_
                  refine Ec.region ?_
                  refine Eo.val (x := (.v (.string p0))) rfl rfl rfl rfl ?_
                  refine Eo.val (x := (.v (.int .i64 y151))) rfl rfl rfl rfl ?_
                  obtain ⟨r299, hvr299, H⟩ := bind_some H
                  refine Eo.call rfl rfl rfl rfl (gdovetailref13_text_ok hp286 hvr299) ?_
                  obtain ⟨r300, r301, r302⟩ := r299
                  rintro _ σ304 ⟨rfl, hp303⟩
                  refine Eo.val (x := (.tup [(.v (.string r300)), (.v (.int .i64 r301)), (.v (.bool r302))])) rfl rfl rfl rfl ?_
                  refine Eo.val (x := (.v (.string r300))) rfl rfl rfl rfl ?_
                  refine Eo.val (x := (.v (.int .i64 r301))) rfl rfl rfl rfl ?_
                  refine Eo.val (x := (.v (.bool r302))) rfl rfl rfl rfl ?_
                  refine Eo.val (x := (.v (.string r300))) rfl rfl rfl rfl ?_
                  refine Eo.val (x := (.v (.int .i64 r301))) rfl rfl rfl rfl ?_
                  refine Eo.val (x := (.v (.bool r302))) rfl rfl rfl rfl ?_
                  refine Eo.nil ?_
                  refine Ec.seq ?_
                  refine Ec.seq ?_
                  refine Ec.region ?_
                  refine Eo.val (x := (.v (.bool r302))) rfl rfl rfl rfl ?_
                  refine Eo.val (x := (.v (.bool (!r302)))) rfl rfl rfl rfl ?_
                  refine Eo.nil ?_
                  refine Ec.cond (t := (!r302)) rfl (fun hc305 => ?_) (fun hc305 => ?_)
                  · have H := cond_t hc305 H
                    refine Ec.seq ?_
                    refine Ec.region ?_
                    refine Eo.val (x := nilS) rfl rfl rfl rfl ?_
                    refine Eo.val (x := (.v (.int .i64 131))) rfl rfl rfl rfl ?_
                    refine Eo.nil ?_
                    obtain rfl := Option.some.inj H
                    refine Ec.ret ?_
                    refine And.intro rfl (Ret.mk rfl ?_)
                    exact ⟨nilS, rfl, Sl.nil, (Hp.appNil (Hp.drop hp303 0) 48)⟩
                  · have H := cond_f hc305 H
                    refine Ec.skip ?_
                    refine Ec.seq ?_
                    refine Ec.region ?_
                    refine Eo.val (x := a149) rfl rfl rfl rfl ?_
                    refine Eo.val (x := (.v (.string r300))) rfl rfl rfl rfl ?_
                    refine Eo.val (x := (.agg [(.v (.int .i64 3)), (.v (.string r300))])) (op_build (lay_cons rfl rfl rfl rfl rfl (lay_cons rfl rfl rfl rfl rfl lay_nil)) rfl (parts_cons rfl rfl (parts_cons rfl rfl rfl)) Tryd.underlying48 rfl rfl) rfl rfl rfl ?_
                    refine Eo.val (x := (.sl 2 [(.v (.int .i64 3)), (.v (.string r300))] .ex)) (op_buildS (lay_cons rfl rfl rfl rfl rfl lay_nil) rfl (parts_cons rfl rfl rfl) Tryd.underlying31 rfl rfl rfl rfl (by decide) rfl) rfl rfl rfl ?_
                    have h309 : Sl rTTok (.sl 2 [(.v (.int .i64 3)), (.v (.string r300))] .ex) ([(TTok.mk 3 r300)] : List TTok) := .inr ⟨_, _, rfl, (.cons (c := [(.v (.int .i64 3)), (.v (.string r300))]) rfl .nil)⟩
                    have hp308 := Hp.appEx hp303 48 2 [(.v (.int .i64 3)), (.v (.string r300))]
                    obtain ⟨l310, hvl310, H⟩ := bind_some H
                    refine Eo.append hp308 1 rfl h150 (New.of h309) hvl310 rfl rfl rfl rfl rfl rfl rfl Tryd.underlying31 rfl Tryd.underlying31 rfl rfl rfl rfl rfl rfl rfl rfl ?_
                    intro a311 σ314 h312 hp313
                    change Hp σ314 (.app (.sl 2 [(.v (.int .i64 3)), (.v (.string r300))] .ex) 48 :: .app a311 48 :: R) at hp313
                    refine Eo.val (x := a311) rfl rfl rfl rfl ?_
                    refine Eo.nil ?_
                    refine Ec.region ?_
                    refine Eo.val (x := (.v (.int .i64 r301))) rfl rfl rfl rfl ?_
                    refine Eo.val (x := (.v (.int .i64 r301))) rfl rfl rfl rfl ?_
                    refine Eo.nil ?_
                    exact Ec.of (.cons rfl (.cons rfl (.cons rfl (.nil')))) (ih ((l310, r301), a311) _ ⟨h312, (Hp.drop hp313 0)⟩ H)
                · have H := cond_f hc298 H
                  refine Ec.seq ?_
                  refine Ec.region ?_
                  refine Eo.val (x := (.v (.int .u8 b291))) rfl rfl rfl rfl ?_
                  obtain ⟨r315, hvr315, H⟩ := bind_some H
                  refine Eo.call rfl rfl rfl rfl (gdovetailref13_Sign_ok hp286 hvr315) ?_
                  rintro _ σ317 ⟨rfl, hp316⟩
                  refine Eo.val (x := (.v (.bool r315))) rfl rfl rfl rfl ?_
                  refine Eo.nil ?_
                  refine Ec.cond (t := r315) rfl (fun hc318 => ?_) (fun hc318 => ?_)
                  · have H := cond_t hc318 H
                    refine Ec.seq ?_
                    refine Ec.region ?_
                    refine Eo.val (x := a149) rfl rfl rfl rfl ?_
                    refine Eo.val (x := (.v (.string p0))) rfl rfl rfl rfl ?_
                    refine Eo.val (x := (.v (.int .i64 y151))) rfl rfl rfl rfl ?_
                    refine Eo.val (x := (.v (.int .i64 y151))) rfl rfl rfl rfl ?_
                    refine Eo.val (x := (.v (.int .i64 (IntKind.wrap .i64 (y151 + 1))))) rfl rfl rfl rfl ?_
                    obtain ⟨s319, hvs319, H⟩ := bind_some H
                    refine Eo.val (op_partS hvs319 rfl rfl Tryd.underlying9 (.inr ⟨_, _, rfl, rfl⟩) (.inr ⟨_, _, rfl, rfl⟩)) rfl rfl rfl ?_
                    refine Eo.val (x := (.agg [(.v (.int .i64 2)), (.v (.string s319))])) (op_build (lay_cons rfl rfl rfl rfl rfl (lay_cons rfl rfl rfl rfl rfl lay_nil)) rfl (parts_cons rfl rfl (parts_cons rfl rfl rfl)) Tryd.underlying48 rfl rfl) rfl rfl rfl ?_
                    refine Eo.val (x := (.sl 2 [(.v (.int .i64 2)), (.v (.string s319))] .ex)) (op_buildS (lay_cons rfl rfl rfl rfl rfl lay_nil) rfl (parts_cons rfl rfl rfl) Tryd.underlying31 rfl rfl rfl rfl (by decide) rfl) rfl rfl rfl ?_
                    have h323 : Sl rTTok (.sl 2 [(.v (.int .i64 2)), (.v (.string s319))] .ex) ([(TTok.mk 2 s319)] : List TTok) := .inr ⟨_, _, rfl, (.cons (c := [(.v (.int .i64 2)), (.v (.string s319))]) rfl .nil)⟩
                    have hp322 := Hp.appEx hp316 48 2 [(.v (.int .i64 2)), (.v (.string s319))]
                    obtain ⟨l324, hvl324, H⟩ := bind_some H
                    refine Eo.append hp322 1 rfl h150 (New.of h323) hvl324 rfl rfl rfl rfl rfl rfl rfl Tryd.underlying31 rfl Tryd.underlying31 rfl rfl rfl rfl rfl rfl rfl rfl ?_
                    intro a325 σ328 h326 hp327
                    change Hp σ328 (.app (.sl 2 [(.v (.int .i64 2)), (.v (.string s319))] .ex) 48 :: .app a325 48 :: R) at hp327
                    refine Eo.val (x := a325) rfl rfl rfl rfl ?_
                    refine Eo.nil ?_
                    refine Ec.region ?_
                    refine Eo.val (x := (.v (.int .i64 y151))) rfl rfl rfl rfl ?_
                    refine Eo.val (x := (.v (.int .i64 (IntKind.wrap .i64 (y151 + 1))))) rfl rfl rfl rfl ?_
                    refine Eo.val (x := (.v (.int .i64 (IntKind.wrap .i64 (y151 + 1))))) rfl rfl rfl rfl ?_
                    refine Eo.nil ?_
                    exact Ec.of (.cons rfl (.cons rfl (.cons rfl (.nil')))) (ih ((l324, (IntKind.wrap .i64 (y151 + 1))), a325) _ ⟨h326, (Hp.drop hp327 0)⟩ H)
                  · have H := cond_f hc318 H
                    refine Ec.seq ?_
                    refine Ec.region ?_
                    refine Eo.val (x := (.v (.int .u8 b291))) rfl rfl rfl rfl ?_
                    obtain ⟨r329, hvr329, H⟩ := bind_some H
                    refine Eo.call rfl rfl rfl rfl (gdovetailref13_InWord_ok hp316 hvr329) ?_
                    rintro _ σ331 ⟨rfl, hp330⟩
                    refine Eo.val (x := (.v (.bool r329))) rfl rfl rfl rfl ?_
                    refine Eo.nil ?_
                    refine Ec.cond (t := r329) rfl (fun hc332 => ?_) (fun hc332 => ?_)
                    · have H := cond_t hc332 H
                      refine Ec.seq ?_
                      refine Ec.region ?_
                      refine Eo.val (x := (.v (.int .i64 y151))) rfl rfl rfl rfl ?_
                      refine Eo.val (x := (.v (.int .i64 y151))) rfl rfl rfl rfl ?_
                      refine Eo.nil ?_
                      refine Ec.seq ?_
                      refine Ec.block ?_
                      obtain ⟨x370, hv390, H⟩ := bind_some H
                      refine Ec.cut (J := (fun (x370 : Int) (x : X) (φ : Fr) (s : St) => x = (.exit 5) ∧ (Hp s (.app a149 48 :: R) ∧ Fl [(0, (.v (.string p0))), (5, a149), (6, (.v (.int .i64 x370))), (11, (.v (.int .i64 y151)))] φ)) x370) (Ec.weak (.cons rfl (.cons rfl (.cons rfl (.cons rfl (.nil'))))) (Ec.loopF (f := (fun m (i : Int × Unit) => gdovetailref13_Words_L3 n p0 m i.1)) (G := (fun (i : Int × Unit) => ([(0, (.v (.string p0))), (5, a149), (6, (.v (.int .i64 i.1))), (11, (.v (.int .i64 y151)))] : List (Nat × A)))) (I := (fun (i : Int × Unit) (s : St) => Hp s (.app a149 48 :: R))) (J := (fun (x370 : Int) (x : X) (φ : Fr) (s : St) => x = (.exit 5) ∧ (Hp s (.app a149 48 :: R) ∧ Fl [(0, (.v (.string p0))), (5, a149), (6, (.v (.int .i64 x370))), (11, (.v (.int .i64 y151)))] φ))) (fun _ => rfl) ?_ n (y151, ()) _ x370 hp330 hv390)) ?_
                      · rintro m ⟨y351, _⟩ σ0 v hp0 H ih
                        change gdovetailref13_Words_L3 n p0 (m + 1) y351 = some v at H
                        rw [gdovetailref13_Words_L3] at H
                        change Ec _ _ _ [(0, (.v (.string p0))), (5, a149), (6, (.v (.int .i64 y351))), (11, (.v (.int .i64 y151)))] σ0 _
                        refine Ec.seq ?_
                        refine Ec.seq ?_
                        refine Ec.region ?_
                        refine Eo.val (x := (.v (.int .i64 y351))) rfl rfl rfl rfl ?_
                        refine Eo.val (x := (.v (.string p0))) rfl rfl rfl rfl ?_
                        refine Eo.val (x := (.v (.int .i64 ((p0.size : Nat) : Int)))) (op_len rfl rfl rfl rfl rfl Tryd.underlying9) rfl rfl rfl ?_
                        refine Eo.val (x := (.v (.bool (decide (y351 < ((p0.size : Nat) : Int)))))) rfl rfl rfl rfl ?_
                        refine Eo.val (x := (.v (.bool (decide (y351 < ((p0.size : Nat) : Int)))))) rfl rfl rfl rfl ?_
                        obtain ⟨x376, hv388, H⟩ := bind_some H
                        refine Eo.cutN 5 (J := (fun (x376 : Bool) (x : X) (φ : Fr) (s : St) => x = .normal ∧ (Hp s (.app a149 48 :: R) ∧ Fl [(0, (.v (.string p0))), (5, a149), (6, (.v (.int .i64 y351))), (11, (.v (.int .i64 y151))), (90, (.v (.bool x376)))] φ)) x376) ?_ ?_
                        · have H := hv388
                          cases hc377 : (decide (y351 < ((p0.size : Nat) : Int)))
                          · have H := cond_f hc377 H
                            refine Eo.off rfl rfl rfl ?_
                            refine Eo.off rfl rfl rfl ?_
                            refine Eo.off rfl rfl rfl ?_
                            refine Eo.off rfl rfl rfl ?_
                            refine Eo.val (x := (.v (.bool false))) rfl rfl rfl rfl ?_
                            refine Eo.nil ?_
                            obtain rfl := Option.some.inj H
                            exact And.intro rfl ⟨hp0, (.cons rfl (.cons rfl (.cons rfl (.cons rfl (.cons rfl (.nil'))))))⟩
                          · have H := cond_t hc377 H
                            refine Eo.val (x := (.v (.string p0))) rfl rfl rfl rfl ?_
                            refine Eo.val (x := (.v (.int .i64 y351))) rfl rfl rfl rfl ?_
                            obtain ⟨b378, hvb378, H⟩ := bind_some H
                            refine Eo.val (op_byteS hvb378 rfl rfl rfl Tryd.underlying9) rfl rfl rfl ?_
                            obtain ⟨r379, hvr379, H⟩ := bind_some H
                            refine Eo.call rfl rfl rfl rfl (gdovetailref13_InWord_ok hp0 hvr379) ?_
                            rintro _ σ381 ⟨rfl, hp380⟩
                            refine Eo.val (x := (.v (.bool r379))) rfl rfl rfl rfl ?_
                            refine Eo.nil ?_
                            obtain rfl := Option.some.inj H
                            exact And.intro rfl ⟨hp380, (.cons rfl (.cons rfl (.cons rfl (.cons rfl (.cons rfl (.nil'))))))⟩
                        · skip
                          intro x φ384 σ383 hJ
                          obtain ⟨rfl, hp382, hf385⟩ := hJ
                          refine ⟨rfl, Eo.of (F := [(0, (.v (.string p0))), (5, a149), (6, (.v (.int .i64 y351))), (11, (.v (.int .i64 y151))), (90, (.v (.bool x376)))]) hf385 ?_⟩
                          refine Eo.nil ?_
                          refine Ec.cond (t := x376) rfl (fun hc386 => ?_) (fun hc386 => ?_)
                          · have H := cond_t hc386 H
                            refine Ec.skip ?_
                            refine Ec.block ?_
                            refine Ec.region ?_
                            refine Eo.val (x := (.v (.int .i64 y351))) rfl rfl rfl rfl ?_
                            refine Eo.val (x := (.v (.int .i64 (IntKind.wrap .i64 (y351 + 1))))) rfl rfl rfl rfl ?_
                            refine Eo.val (x := (.v (.int .i64 (IntKind.wrap .i64 (y351 + 1))))) rfl rfl rfl rfl ?_
                            refine Eo.nil ?_
                            exact Ec.of (.cons rfl (.cons rfl (.cons rfl (.cons rfl (.nil'))))) (ih ((IntKind.wrap .i64 (y351 + 1)), ()) _ hp382 H)
                          · have H := cond_f hc386 H
                            refine Ec.exit ?_
                            obtain rfl := Option.some.inj H
                            exact And.intro rfl ⟨hp382, (.cons rfl (.cons rfl (.cons rfl (.cons rfl (.nil')))))⟩
                      · skip
                        intro x φ393 σ392 hJ
                        obtain ⟨rfl, hp391, hf394⟩ := hJ
                        refine Ec.of (F := [(0, (.v (.string p0))), (5, a149), (6, (.v (.int .i64 x370))), (11, (.v (.int .i64 y151)))]) hf394 ?_
                        refine Ec.region ?_
                        refine Eo.val (x := a149) rfl rfl rfl rfl ?_
                        refine Eo.val (x := (.v (.string p0))) rfl rfl rfl rfl ?_
                        refine Eo.val (x := (.v (.int .i64 y151))) rfl rfl rfl rfl ?_
                        refine Eo.val (x := (.v (.int .i64 x370))) rfl rfl rfl rfl ?_
                        obtain ⟨s395, hvs395, H⟩ := bind_some H
                        refine Eo.val (op_partS hvs395 rfl rfl Tryd.underlying9 (.inr ⟨_, _, rfl, rfl⟩) (.inr ⟨_, _, rfl, rfl⟩)) rfl rfl rfl ?_
                        refine Eo.val (x := (.agg [(.v (.int .i64 1)), (.v (.string s395))])) (op_build (lay_cons rfl rfl rfl rfl rfl (lay_cons rfl rfl rfl rfl rfl lay_nil)) rfl (parts_cons rfl rfl (parts_cons rfl rfl rfl)) Tryd.underlying48 rfl rfl) rfl rfl rfl ?_
                        refine Eo.val (x := (.sl 2 [(.v (.int .i64 1)), (.v (.string s395))] .ex)) (op_buildS (lay_cons rfl rfl rfl rfl rfl lay_nil) rfl (parts_cons rfl rfl rfl) Tryd.underlying31 rfl rfl rfl rfl (by decide) rfl) rfl rfl rfl ?_
                        have h399 : Sl rTTok (.sl 2 [(.v (.int .i64 1)), (.v (.string s395))] .ex) ([(TTok.mk 1 s395)] : List TTok) := .inr ⟨_, _, rfl, (.cons (c := [(.v (.int .i64 1)), (.v (.string s395))]) rfl .nil)⟩
                        have hp398 := Hp.appEx hp391 48 2 [(.v (.int .i64 1)), (.v (.string s395))]
                        obtain ⟨l400, hvl400, H⟩ := bind_some H
                        refine Eo.append hp398 1 rfl h150 (New.of h399) hvl400 rfl rfl rfl rfl rfl rfl rfl Tryd.underlying31 rfl Tryd.underlying31 rfl rfl rfl rfl rfl rfl rfl rfl ?_
                        intro a401 σ404 h402 hp403
                        change Hp σ404 (.app (.sl 2 [(.v (.int .i64 1)), (.v (.string s395))] .ex) 48 :: .app a401 48 :: R) at hp403
                        refine Eo.val (x := a401) rfl rfl rfl rfl ?_
                        refine Eo.nil ?_
                        exact Ec.of (.cons rfl (.cons rfl (.cons rfl (.nil')))) (ih ((l400, x370), a401) _ ⟨h402, (Hp.drop hp403 0)⟩ H)
                    · have H := cond_f hc332 H
                      refine Ec.seq ?_
                      refine Ec.region ?_
                      refine Eo.val (x := nilS) rfl rfl rfl rfl ?_
                      refine Eo.val (x := (.v (.int .i64 131))) rfl rfl rfl rfl ?_
                      refine Eo.nil ?_
                      obtain rfl := Option.some.inj H
                      refine Ec.ret ?_
                      refine And.intro rfl (Ret.mk rfl ?_)
                      exact ⟨nilS, rfl, Sl.nil, (Hp.appNil (Hp.drop hp330 0) 48)⟩
          · have H := cond_f hc290 H
            refine Ec.exit ?_
            obtain rfl := Option.some.inj H
            exact And.intro rfl ⟨a149, h150, hp286, (.cons rfl (.nil'))⟩
      · rcases v407 with x278 | r414
        · intro x φ411 σ410 hJ
          obtain ⟨rfl, a279, h280, hp409, hf412⟩ := hJ
          refine Ec.of (F := [(5, a279)]) hf412 ?_
          refine Ec.seq ?_
          refine Ec.seq ?_
          refine Ec.region ?_
          refine Eo.val (x := a279) rfl rfl rfl rfl ?_
          refine Eo.val (x := (.v (.int .i64 ((x278.length : Nat) : Int)))) (op_lenL h280 rfl rfl rfl rfl rfl Tryd.underlying31) rfl rfl rfl ?_
          refine Eo.val (x := (.v (.bool (decide (((x278.length : Nat) : Int) > 64))))) rfl rfl rfl rfl ?_
          refine Eo.nil ?_
          refine Ec.cond (t := (decide (((x278.length : Nat) : Int) > 64))) rfl (fun hc413 => ?_) (fun hc413 => ?_)
          · have H := cond_t hc413 H
            refine Ec.seq ?_
            refine Ec.region ?_
            refine Eo.val (x := nilS) rfl rfl rfl rfl ?_
            refine Eo.val (x := (.v (.int .i64 133))) rfl rfl rfl rfl ?_
            refine Eo.nil ?_
            obtain rfl := Option.some.inj H
            refine Ec.ret ?_
            refine Ret.mk rfl ?_
            exact ⟨nilS, rfl, Sl.nil, (Hp.appNil (Hp.drop hp409 0) 48)⟩
          · have H := cond_f hc413 H
            refine Ec.skip ?_
            refine Ec.seq ?_
            refine Ec.region ?_
            refine Eo.val (x := a279) rfl rfl rfl rfl ?_
            refine Eo.val (x := a279) rfl rfl rfl rfl ?_
            refine Eo.val (x := (.v (.int .i64 0))) rfl rfl rfl rfl ?_
            refine Eo.nil ?_
            obtain rfl := Option.some.inj H
            refine Ec.ret ?_
            refine Ret.mk rfl ?_
            exact ⟨a279, rfl, h280, hp409⟩
        · intro x φ415 σ416 hJ
          obtain rfl := Option.some.inj H
          obtain ⟨rfl, hr⟩ := hJ
          exact hr
    · intro x φ418 σ419 hJ
      obtain rfl := Option.some.inj H
      obtain ⟨rfl, hr⟩ := hJ
      exact hr

def gdovetailref12_Name_L1 (N : Nat) (p0 : ByteArray) : Nat → Int → Option (LR Unit Bool)
  | 0, _ => none
  | m + 1, y40 => (cond (decide (y40 < ((p0.size : Nat) : Int))) (((atS p0 y40).bind fun b65 => ((gdovetailref12_Letter N b65).bind fun r66 => (((cond (!r66) (((atS p0 y40).bind fun b76 => ((gdovetailref12_Digit N b76).bind fun r77 => some (!r77)))) (some false)) : Option (Bool)).bind fun x74 => (cond x74 (some (.ret false)) (gdovetailref12_Name_L1 N p0 m (IntKind.wrap .i64 (y40 + 1)))))))) (some (.out ())))

def gdovetailref12_Name (n : Nat) (p0 : ByteArray) : Option (Bool) := (((cond (decide (p0 = (ByteArray.mk #[]))) (some true) (((atS p0 0).bind fun b8 => ((gdovetailref12_Letter n b8).bind fun r9 => some (!r9))))) : Option (Bool)).bind fun x6 => (cond x6 (some false) (((gdovetailref12_Name_L1 n p0 n 1).bind fun v => match v with | .out _ => some true | .ret r93 => some r93))))

def gdovetailref12_Name_post (R : List Res) (r : Bool) (x : A) (s : St) : Prop := x = (.v (.bool r)) ∧ Hp s (R)

theorem gdovetailref12_Name_ok {n : Nat} {p0 : ByteArray} {R : List Res} {σ : St} (hp : Hp σ R) {r : Bool} (H : gdovetailref12_Name n p0 = some r) : Ca cfg 46 [(.v (.string p0))] σ (gdovetailref12_Name_post R r) := by
  unfold gdovetailref12_Name at H
  refine Ca.enterL (G := [(0, (.v (.string p0)))]) Tryd.func46 rfl rfl rfl rfl ?_
  refine Ec.seq ?_
  refine Ec.region ?_
  refine Eo.val (x := (.v (.bool false))) rfl rfl rfl rfl ?_
  refine Eo.nil ?_
  refine Ec.seq ?_
  refine Ec.seq ?_
  refine Ec.region ?_
  refine Eo.val (x := (.v (.string p0))) rfl rfl rfl rfl ?_
  refine Eo.val (x := (.v (.bool (decide (p0 = (ByteArray.mk #[])))))) (val_b rfl (seq_eq _ _)) rfl rfl rfl ?_
  refine Eo.val (x := (.v (.bool (decide (p0 = (ByteArray.mk #[])))))) rfl rfl rfl rfl ?_
  obtain ⟨x6, hv97, H⟩ := bind_some H
  refine Eo.cutN 5 (J := (fun (x6 : Bool) (x : X) (φ : Fr) (s : St) => x = .normal ∧ (Hp s (R) ∧ Fl [(0, (.v (.string p0))), (11, (.v (.bool x6)))] φ)) x6) ?_ ?_
  · have H := hv97
    cases hc7 : (decide (p0 = (ByteArray.mk #[])))
    · have H := cond_f hc7 H
      refine Eo.val (x := (.v (.string p0))) rfl rfl rfl rfl ?_
      obtain ⟨b8, hvb8, H⟩ := bind_some H
      refine Eo.val (op_byteS hvb8 rfl rfl rfl Tryd.underlying9) rfl rfl rfl ?_
      obtain ⟨r9, hvr9, H⟩ := bind_some H
      refine Eo.call rfl rfl rfl rfl (gdovetailref12_Letter_ok hp hvr9) ?_
      rintro _ σ11 ⟨rfl, hp10⟩
      refine Eo.val (x := (.v (.bool (!r9)))) rfl rfl rfl rfl ?_
      refine Eo.val (x := (.v (.bool (!r9)))) rfl rfl rfl rfl ?_
      refine Eo.nil ?_
      obtain rfl := Option.some.inj H
      exact And.intro rfl ⟨hp10, (.cons rfl (.cons rfl (.nil')))⟩
    · have H := cond_t hc7 H
      refine Eo.off rfl rfl rfl ?_
      refine Eo.off rfl rfl rfl ?_
      refine Eo.off rfl rfl rfl ?_
      refine Eo.off rfl rfl rfl ?_
      refine Eo.val (x := (.v (.bool true))) rfl rfl rfl rfl ?_
      refine Eo.nil ?_
      obtain rfl := Option.some.inj H
      exact And.intro rfl ⟨hp, (.cons rfl (.cons rfl (.nil')))⟩
  · skip
    intro x φ14 σ13 hJ
    obtain ⟨rfl, hp12, hf15⟩ := hJ
    refine ⟨rfl, Eo.of (F := [(0, (.v (.string p0))), (11, (.v (.bool x6)))]) hf15 ?_⟩
    refine Eo.nil ?_
    refine Ec.cond (t := x6) rfl (fun hc16 => ?_) (fun hc16 => ?_)
    · have H := cond_t hc16 H
      refine Ec.seq ?_
      refine Ec.region ?_
      refine Eo.val (x := (.v (.bool false))) rfl rfl rfl rfl ?_
      refine Eo.nil ?_
      obtain rfl := Option.some.inj H
      refine Ec.ret ?_
      refine Ret.mk rfl ?_
      exact ⟨rfl, hp12⟩
    · have H := cond_f hc16 H
      refine Ec.skip ?_
      refine Ec.seq ?_
      refine Ec.seq ?_
      refine Ec.region ?_
      refine Eo.val (x := (.v (.int .i64 1))) rfl rfl rfl rfl ?_
      refine Eo.nil ?_
      refine Ec.block ?_
      obtain ⟨v87, hv88, H⟩ := bind_some H
      refine Ec.cut (J := (fun (v : LR Unit Bool) (x : X) (φ : Fr) (s : St) => match v with | .out _ => x = (.exit 0) ∧ (Hp s (R) ∧ Fl [] φ) | .ret r => x = .ret ∧ Ret cfg Tryd.f46 (gdovetailref12_Name_post R r) .ret φ s) v87) (Ec.weak (.cons rfl (.cons rfl (.nil'))) (Ec.loopF (f := (fun m (i : Int × Unit) => gdovetailref12_Name_L1 n p0 m i.1)) (G := (fun (i : Int × Unit) => ([(0, (.v (.string p0))), (3, (.v (.int .i64 i.1)))] : List (Nat × A)))) (I := (fun (i : Int × Unit) (s : St) => Hp s (R))) (J := (fun (v : LR Unit Bool) (x : X) (φ : Fr) (s : St) => match v with | .out _ => x = (.exit 0) ∧ (Hp s (R) ∧ Fl [] φ) | .ret r => x = .ret ∧ Ret cfg Tryd.f46 (gdovetailref12_Name_post R r) .ret φ s)) (fun _ => rfl) ?_ n (1, ()) _ v87 hp12 hv88)) ?_
      · rintro m ⟨y40, _⟩ σ0 v hp0 H ih
        change gdovetailref12_Name_L1 n p0 (m + 1) y40 = some v at H
        rw [gdovetailref12_Name_L1] at H
        change Ec _ _ _ [(0, (.v (.string p0))), (3, (.v (.int .i64 y40)))] σ0 _
        refine Ec.seq ?_
        refine Ec.seq ?_
        refine Ec.region ?_
        refine Eo.val (x := (.v (.int .i64 y40))) rfl rfl rfl rfl ?_
        refine Eo.val (x := (.v (.string p0))) rfl rfl rfl rfl ?_
        refine Eo.val (x := (.v (.int .i64 ((p0.size : Nat) : Int)))) (op_len rfl rfl rfl rfl rfl Tryd.underlying9) rfl rfl rfl ?_
        refine Eo.val (x := (.v (.bool (decide (y40 < ((p0.size : Nat) : Int)))))) rfl rfl rfl rfl ?_
        refine Eo.nil ?_
        refine Ec.cond (t := (decide (y40 < ((p0.size : Nat) : Int)))) rfl (fun hc64 => ?_) (fun hc64 => ?_)
        · have H := cond_t hc64 H
          refine Ec.skip ?_
          refine Ec.seq ?_
          refine Ec.block ?_
          refine Ec.seq ?_
          refine Ec.region ?_
          refine Eo.val (x := (.v (.string p0))) rfl rfl rfl rfl ?_
          refine Eo.val (x := (.v (.int .i64 y40))) rfl rfl rfl rfl ?_
          obtain ⟨b65, hvb65, H⟩ := bind_some H
          refine Eo.val (op_byteS hvb65 rfl rfl rfl Tryd.underlying9) rfl rfl rfl ?_
          obtain ⟨r66, hvr66, H⟩ := bind_some H
          refine Eo.call rfl rfl rfl rfl (gdovetailref12_Letter_ok hp0 hvr66) ?_
          rintro _ σ68 ⟨rfl, hp67⟩
          refine Eo.val (x := (.v (.bool (!r66)))) rfl rfl rfl rfl ?_
          refine Eo.val (x := (.v (.bool (!r66)))) rfl rfl rfl rfl ?_
          obtain ⟨x74, hv86, H⟩ := bind_some H
          refine Eo.cutN 6 (J := (fun (x74 : Bool) (x : X) (φ : Fr) (s : St) => x = .normal ∧ (Hp s (R) ∧ Fl [(0, (.v (.string p0))), (3, (.v (.int .i64 y40))), (29, (.v (.bool x74)))] φ)) x74) ?_ ?_
          · have H := hv86
            cases hc75 : (!r66)
            · have H := cond_f hc75 H
              refine Eo.off rfl rfl rfl ?_
              refine Eo.off rfl rfl rfl ?_
              refine Eo.off rfl rfl rfl ?_
              refine Eo.off rfl rfl rfl ?_
              refine Eo.off rfl rfl rfl ?_
              refine Eo.val (x := (.v (.bool false))) rfl rfl rfl rfl ?_
              refine Eo.nil ?_
              obtain rfl := Option.some.inj H
              exact And.intro rfl ⟨hp67, (.cons rfl (.cons rfl (.cons rfl (.nil'))))⟩
            · have H := cond_t hc75 H
              refine Eo.val (x := (.v (.string p0))) rfl rfl rfl rfl ?_
              refine Eo.val (x := (.v (.int .i64 y40))) rfl rfl rfl rfl ?_
              obtain ⟨b76, hvb76, H⟩ := bind_some H
              refine Eo.val (op_byteS hvb76 rfl rfl rfl Tryd.underlying9) rfl rfl rfl ?_
              obtain ⟨r77, hvr77, H⟩ := bind_some H
              refine Eo.call rfl rfl rfl rfl (gdovetailref12_Digit_ok hp67 hvr77) ?_
              rintro _ σ79 ⟨rfl, hp78⟩
              refine Eo.val (x := (.v (.bool (!r77)))) rfl rfl rfl rfl ?_
              refine Eo.val (x := (.v (.bool (!r77)))) rfl rfl rfl rfl ?_
              refine Eo.nil ?_
              obtain rfl := Option.some.inj H
              exact And.intro rfl ⟨hp78, (.cons rfl (.cons rfl (.cons rfl (.nil'))))⟩
          · skip
            intro x φ82 σ81 hJ
            obtain ⟨rfl, hp80, hf83⟩ := hJ
            refine ⟨rfl, Eo.of (F := [(0, (.v (.string p0))), (3, (.v (.int .i64 y40))), (29, (.v (.bool x74)))]) hf83 ?_⟩
            refine Eo.nil ?_
            refine Ec.cond (t := x74) rfl (fun hc84 => ?_) (fun hc84 => ?_)
            · have H := cond_t hc84 H
              refine Ec.seq ?_
              refine Ec.region ?_
              refine Eo.val (x := (.v (.bool false))) rfl rfl rfl rfl ?_
              refine Eo.nil ?_
              obtain rfl := Option.some.inj H
              refine Ec.ret ?_
              refine And.intro rfl (Ret.mk rfl ?_)
              exact ⟨rfl, hp80⟩
            · have H := cond_f hc84 H
              refine Ec.skip ?_
              refine Ec.region ?_
              refine Eo.val (x := (.v (.int .i64 y40))) rfl rfl rfl rfl ?_
              refine Eo.val (x := (.v (.int .i64 (IntKind.wrap .i64 (y40 + 1))))) rfl rfl rfl rfl ?_
              refine Eo.val (x := (.v (.int .i64 (IntKind.wrap .i64 (y40 + 1))))) rfl rfl rfl rfl ?_
              refine Eo.nil ?_
              exact Ec.of (.cons rfl (.cons rfl (.nil'))) (ih ((IntKind.wrap .i64 (y40 + 1)), ()) _ hp80 H)
        · have H := cond_f hc64 H
          refine Ec.exit ?_
          obtain rfl := Option.some.inj H
          exact And.intro rfl ⟨hp0, (.nil')⟩
      · rcases v87 with _ | r93
        · intro x φ91 σ90 hJ
          obtain ⟨rfl, hp89, hf92⟩ := hJ
          refine Ec.of (F := []) hf92 ?_
          refine Ec.seq ?_
          refine Ec.region ?_
          refine Eo.val (x := (.v (.bool true))) rfl rfl rfl rfl ?_
          refine Eo.nil ?_
          obtain rfl := Option.some.inj H
          refine Ec.ret ?_
          refine Ret.mk rfl ?_
          exact ⟨rfl, hp89⟩
        · intro x φ94 σ95 hJ
          obtain rfl := Option.some.inj H
          obtain ⟨rfl, hr⟩ := hJ
          exact hr

def gdovetailref13_Labelled (n : Nat) (p0 : (List TTok)) : Option (Bool) := (((cond (decide (((p0.length : Nat) : Int) ≥ 2)) (((atL p0 0).bind fun x10 => some (x10.f_Kind == 1))) (some false)) : Option (Bool)).bind fun x8 => (((cond x8 (((atL p0 0).bind fun x28 => ((gdovetailref12_Name n x28.f_Text).bind fun r32 => some r32))) (some false)) : Option (Bool)).bind fun x26 => (((cond x26 (((atL p0 1).bind fun x46 => some (x46.f_Kind == 2))) (some false)) : Option (Bool)).bind fun x44 => (((cond x44 (((atL p0 1).bind fun x61 => some (decide (x61.f_Text = (ByteArray.mk #[58]))))) (some false)) : Option (Bool)).bind fun x59 => some x59))))

def gdovetailref13_Labelled_post (R : List Res) (r : Bool) (x : A) (s : St) : Prop := x = (.v (.bool r)) ∧ Hp s (R)

theorem gdovetailref13_Labelled_ok {n : Nat} {p0 : (List TTok)} {a1 : A} {R : List Res} {σ : St} (h2 : Sl rTTok a1 p0) (hp : Hp σ R) {r : Bool} (H : gdovetailref13_Labelled n p0 = some r) : Ca cfg 21 [a1] σ (gdovetailref13_Labelled_post R r) := by
  unfold gdovetailref13_Labelled at H
  refine Ca.enterL (G := [(0, a1)]) Tryd.func21 rfl rfl rfl rfl ?_
  refine Ec.seq ?_
  refine Ec.region ?_
  refine Eo.val (x := (.v (.bool false))) rfl rfl rfl rfl ?_
  refine Eo.nil ?_
  refine Ec.seq ?_
  refine Ec.region ?_
  refine Eo.val (x := a1) rfl rfl rfl rfl ?_
  refine Eo.val (x := (.v (.int .i64 ((p0.length : Nat) : Int)))) (op_lenL h2 rfl rfl rfl rfl rfl Tryd.underlying31) rfl rfl rfl ?_
  refine Eo.val (x := (.v (.bool (decide (((p0.length : Nat) : Int) ≥ 2))))) rfl rfl rfl rfl ?_
  refine Eo.val (x := (.v (.bool (decide (((p0.length : Nat) : Int) ≥ 2))))) rfl rfl rfl rfl ?_
  obtain ⟨x8, hv76, H⟩ := bind_some H
  refine Eo.cutN 6 (J := (fun (x8 : Bool) (x : X) (φ : Fr) (s : St) => x = .normal ∧ (Hp s (R) ∧ Fl [(0, a1), (2, (.v (.bool false))), (12, (.v (.bool x8)))] φ)) x8) ?_ ?_
  · have H := hv76
    cases hc9 : (decide (((p0.length : Nat) : Int) ≥ 2))
    · have H := cond_f hc9 H
      refine Eo.off rfl rfl rfl ?_
      refine Eo.off rfl rfl rfl ?_
      refine Eo.off rfl rfl rfl ?_
      refine Eo.off rfl rfl rfl ?_
      refine Eo.off rfl rfl rfl ?_
      refine Eo.val (x := (.v (.bool false))) rfl rfl rfl rfl ?_
      refine Eo.nil ?_
      obtain rfl := Option.some.inj H
      exact And.intro rfl ⟨hp, (.cons rfl (.cons rfl (.cons rfl (.nil'))))⟩
    · have H := cond_t hc9 H
      refine Eo.val (x := a1) rfl rfl rfl rfl ?_
      obtain ⟨x10, hvx10, H⟩ := bind_some H
      refine Eo.idx h2 hvx10 rfl rfl rfl Tryd.underlying31 rfl rfl rfl rfl ?_
      rintro cs11 p12 _ hat13 rfl
      refine Eo.val (x := (.sp cs11 p12 .no)) rfl rfl rfl rfl ?_
      refine Eo.val (x := (.v (.int .i64 x10.f_Kind))) (op_loadSp hat13 0 rfl rfl rfl rfl rfl) rfl rfl rfl ?_
      refine Eo.val (x := (.v (.bool (x10.f_Kind == 1)))) rfl rfl rfl rfl ?_
      refine Eo.val (x := (.v (.bool (x10.f_Kind == 1)))) rfl rfl rfl rfl ?_
      refine Eo.nil ?_
      obtain rfl := Option.some.inj H
      exact And.intro rfl ⟨hp, (.cons rfl (.cons rfl (.cons rfl (.nil'))))⟩
  · skip
    intro x φ16 σ15 hJ
    obtain ⟨rfl, hp14, hf17⟩ := hJ
    refine ⟨rfl, Eo.of (F := [(0, a1), (2, (.v (.bool false))), (12, (.v (.bool x8)))]) hf17 ?_⟩
    refine Eo.val (x := (.v (.bool x8))) rfl rfl rfl rfl ?_
    obtain ⟨x26, hv74, H⟩ := bind_some H
    refine Eo.cutN 6 (J := (fun (x26 : Bool) (x : X) (φ : Fr) (s : St) => x = .normal ∧ (Hp s (R) ∧ Fl [(0, a1), (2, (.v (.bool false))), (19, (.v (.bool x26)))] φ)) x26) ?_ ?_
    · have H := hv74
      cases hc27 : x8
      · have H := cond_f hc27 H
        refine Eo.off rfl rfl rfl ?_
        refine Eo.off rfl rfl rfl ?_
        refine Eo.off rfl rfl rfl ?_
        refine Eo.off rfl rfl rfl ?_
        refine Eo.off rfl rfl rfl ?_
        refine Eo.val (x := (.v (.bool false))) rfl rfl rfl rfl ?_
        refine Eo.nil ?_
        obtain rfl := Option.some.inj H
        exact And.intro rfl ⟨hp14, (.cons rfl (.cons rfl (.cons rfl (.nil'))))⟩
      · have H := cond_t hc27 H
        refine Eo.val (x := a1) rfl rfl rfl rfl ?_
        obtain ⟨x28, hvx28, H⟩ := bind_some H
        refine Eo.idx h2 hvx28 rfl rfl rfl Tryd.underlying31 rfl rfl rfl rfl ?_
        rintro cs29 p30 _ hat31 rfl
        refine Eo.val (x := (.sp cs29 (p30 + 1) .no)) rfl rfl rfl rfl ?_
        refine Eo.val (x := (.v (.string x28.f_Text))) (op_loadSp hat31 1 rfl rfl rfl rfl rfl) rfl rfl rfl ?_
        obtain ⟨r32, hvr32, H⟩ := bind_some H
        refine Eo.call rfl rfl rfl rfl (gdovetailref12_Name_ok hp14 hvr32) ?_
        rintro _ σ34 ⟨rfl, hp33⟩
        refine Eo.val (x := (.v (.bool r32))) rfl rfl rfl rfl ?_
        refine Eo.nil ?_
        obtain rfl := Option.some.inj H
        exact And.intro rfl ⟨hp33, (.cons rfl (.cons rfl (.cons rfl (.nil'))))⟩
    · skip
      intro x φ37 σ36 hJ
      obtain ⟨rfl, hp35, hf38⟩ := hJ
      refine ⟨rfl, Eo.of (F := [(0, a1), (2, (.v (.bool false))), (19, (.v (.bool x26)))]) hf38 ?_⟩
      refine Eo.val (x := (.v (.bool x26))) rfl rfl rfl rfl ?_
      obtain ⟨x44, hv72, H⟩ := bind_some H
      refine Eo.cutN 6 (J := (fun (x44 : Bool) (x : X) (φ : Fr) (s : St) => x = .normal ∧ (Hp s (R) ∧ Fl [(0, a1), (2, (.v (.bool false))), (26, (.v (.bool x44)))] φ)) x44) ?_ ?_
      · have H := hv72
        cases hc45 : x26
        · have H := cond_f hc45 H
          refine Eo.off rfl rfl rfl ?_
          refine Eo.off rfl rfl rfl ?_
          refine Eo.off rfl rfl rfl ?_
          refine Eo.off rfl rfl rfl ?_
          refine Eo.off rfl rfl rfl ?_
          refine Eo.val (x := (.v (.bool false))) rfl rfl rfl rfl ?_
          refine Eo.nil ?_
          obtain rfl := Option.some.inj H
          exact And.intro rfl ⟨hp35, (.cons rfl (.cons rfl (.cons rfl (.nil'))))⟩
        · have H := cond_t hc45 H
          refine Eo.val (x := a1) rfl rfl rfl rfl ?_
          obtain ⟨x46, hvx46, H⟩ := bind_some H
          refine Eo.idx h2 hvx46 rfl rfl rfl Tryd.underlying31 rfl rfl rfl rfl ?_
          rintro cs47 p48 _ hat49 rfl
          refine Eo.val (x := (.sp cs47 p48 .no)) rfl rfl rfl rfl ?_
          refine Eo.val (x := (.v (.int .i64 x46.f_Kind))) (op_loadSp hat49 0 rfl rfl rfl rfl rfl) rfl rfl rfl ?_
          refine Eo.val (x := (.v (.bool (x46.f_Kind == 2)))) rfl rfl rfl rfl ?_
          refine Eo.val (x := (.v (.bool (x46.f_Kind == 2)))) rfl rfl rfl rfl ?_
          refine Eo.nil ?_
          obtain rfl := Option.some.inj H
          exact And.intro rfl ⟨hp35, (.cons rfl (.cons rfl (.cons rfl (.nil'))))⟩
      · skip
        intro x φ52 σ51 hJ
        obtain ⟨rfl, hp50, hf53⟩ := hJ
        refine ⟨rfl, Eo.of (F := [(0, a1), (2, (.v (.bool false))), (26, (.v (.bool x44)))]) hf53 ?_⟩
        refine Eo.val (x := (.v (.bool x44))) rfl rfl rfl rfl ?_
        obtain ⟨x59, hv70, H⟩ := bind_some H
        refine Eo.cutN 6 (J := (fun (x59 : Bool) (x : X) (φ : Fr) (s : St) => x = .normal ∧ (Hp s (R) ∧ Fl [(2, (.v (.bool false))), (33, (.v (.bool x59)))] φ)) x59) ?_ ?_
        · have H := hv70
          cases hc60 : x44
          · have H := cond_f hc60 H
            refine Eo.off rfl rfl rfl ?_
            refine Eo.off rfl rfl rfl ?_
            refine Eo.off rfl rfl rfl ?_
            refine Eo.off rfl rfl rfl ?_
            refine Eo.off rfl rfl rfl ?_
            refine Eo.val (x := (.v (.bool false))) rfl rfl rfl rfl ?_
            refine Eo.nil ?_
            obtain rfl := Option.some.inj H
            exact And.intro rfl ⟨hp50, (.cons rfl (.cons rfl (.nil')))⟩
          · have H := cond_t hc60 H
            refine Eo.val (x := a1) rfl rfl rfl rfl ?_
            obtain ⟨x61, hvx61, H⟩ := bind_some H
            refine Eo.idx h2 hvx61 rfl rfl rfl Tryd.underlying31 rfl rfl rfl rfl ?_
            rintro cs62 p63 _ hat64 rfl
            refine Eo.val (x := (.sp cs62 (p63 + 1) .no)) rfl rfl rfl rfl ?_
            refine Eo.val (x := (.v (.string x61.f_Text))) (op_loadSp hat64 1 rfl rfl rfl rfl rfl) rfl rfl rfl ?_
            refine Eo.val (x := (.v (.bool (decide (x61.f_Text = (ByteArray.mk #[58])))))) (val_b rfl (seq_eq _ _)) rfl rfl rfl ?_
            refine Eo.val (x := (.v (.bool (decide (x61.f_Text = (ByteArray.mk #[58])))))) rfl rfl rfl rfl ?_
            refine Eo.nil ?_
            obtain rfl := Option.some.inj H
            exact And.intro rfl ⟨hp50, (.cons rfl (.cons rfl (.nil')))⟩
        · skip
          intro x φ67 σ66 hJ
          obtain ⟨rfl, hp65, hf68⟩ := hJ
          refine ⟨rfl, Eo.of (F := [(2, (.v (.bool false))), (33, (.v (.bool x59)))]) hf68 ?_⟩
          refine Eo.val (x := (.v (.bool x59))) rfl rfl rfl rfl ?_
          refine Eo.nil ?_
          obtain rfl := Option.some.inj H
          refine Ec.ret ?_
          refine Ret.mk rfl ?_
          exact ⟨rfl, hp65⟩

def gdovetailref13_Parse_L2 (N : Nat) : Nat → (List TTok) → (List ByteArray) → Option (((List TTok) × (List ByteArray)))
  | 0, _, _ => none
  | m + 1, y1038, y1041 => ((gdovetailref13_Labelled N y1038).bind fun r1096 => (cond r1096 (((((atL y1038 0).bind fun x1118 => ((appL 16 y1041 ([x1118.f_Text] : List ByteArray)).bind fun l1126 => some l1126)) : Option ((List ByteArray))).bind fun x1115 => ((subL y1038 2 ((y1038.length : Nat) : Int)).bind fun l1137 => gdovetailref13_Parse_L2 N m l1137 x1115))) (some (y1038, y1041))))

def gdovetailref13_Parse_L1 (N : Nat) (r4 : (List ByteArray)) : Nat → (List TLine) → Int → Option (LR (List TLine) ((List TLine) × Int × Int))
  | 0, _, _ => none
  | m + 1, y396, y399 => (cond (decide (y399 < ((r4.length : Nat) : Int))) (((((atL r4 y399).bind fun x975 => ((gdovetailref13_Words N x975).bind fun v => match v with | (r980, r981) => (cond (r981 != 0) (some (.ret (([] : List TLine), (IntKind.wrap .i64 (y399 + 1)), r981))) (((gdovetailref13_Parse_L2 N N r980 ([] : List ByteArray)).bind fun v => match v with | (x1090, x1093) => (cond (decide ((IntKind.wrap .i64 (((x1093.length : Nat) : Int) + ((x1090.length : Nat) : Int))) > 0)) (((appL 56 y396 ([(TLine.mk (IntKind.wrap .i64 (y399 + 1)) x1093 x1090)] : List TLine)).bind fun l1155 => some (.out l1155))) (some (.out y396)))))))) : Option (LR (List TLine) ((List TLine) × Int × Int))).bind fun v => match v with | .out x972 => gdovetailref13_Parse_L1 N r4 m x972 (IntKind.wrap .i64 (y399 + 1)) | .ret r1164 => some (.ret r1164))) (some (.out y396)))

def gdovetailref13_Parse (n : Nat) (p0 : ByteArray) : Option (((List TLine) × Int × Int)) := (cond (decide (((p0.size : Nat) : Int) > 262144)) (some (([] : List TLine), 0, 133)) (((gdovetailref13_Split n p0).bind fun r4 => (cond (decide (((r4.length : Nat) : Int) > 16384)) (some (([] : List TLine), 0, 133)) (((gdovetailref13_Parse_L1 n r4 n ([] : List TLine) 0).bind fun v => match v with | .out x783 => some (x783, 0, 0) | .ret r1175 => some r1175))))))

def gdovetailref13_Parse_post (R : List Res) (r : ((List TLine) × Int × Int)) (x : A) (s : St) : Prop := ∃ (a1 : A), x = (.tup [a1, (.v (.int .i64 r.2.1)), (.v (.int .i64 r.2.2))]) ∧ Sl rTLine a1 r.1 ∧ Hp s (.app a1 46 :: R)

theorem gdovetailref13_Parse_ok {n : Nat} {p0 : ByteArray} {R : List Res} {σ : St} (hp : Hp σ R) {r : ((List TLine) × Int × Int)} (H : gdovetailref13_Parse n p0 = some r) : Ca cfg 9 [(.v (.string p0))] σ (gdovetailref13_Parse_post R r) := by
  unfold gdovetailref13_Parse at H
  refine Ca.enterL (G := [(0, (.v (.string p0)))]) Tryd.func9 rfl rfl rfl rfl ?_
  refine Ec.seq ?_
  refine Ec.region ?_
  refine Eo.val (x := nilS) rfl rfl rfl rfl ?_
  refine Eo.val (x := (.v (.int .i64 0))) rfl rfl rfl rfl ?_
  refine Eo.val (x := (.v (.int .i64 0))) rfl rfl rfl rfl ?_
  refine Eo.nil ?_
  refine Ec.seq ?_
  refine Ec.seq ?_
  refine Ec.region ?_
  refine Eo.val (x := (.v (.string p0))) rfl rfl rfl rfl ?_
  refine Eo.val (x := (.v (.int .i64 ((p0.size : Nat) : Int)))) (op_len rfl rfl rfl rfl rfl Tryd.underlying9) rfl rfl rfl ?_
  refine Eo.val (x := (.v (.bool (decide (((p0.size : Nat) : Int) > 262144))))) rfl rfl rfl rfl ?_
  refine Eo.nil ?_
  refine Ec.cond (t := (decide (((p0.size : Nat) : Int) > 262144))) rfl (fun hc3 => ?_) (fun hc3 => ?_)
  · have H := cond_t hc3 H
    refine Ec.seq ?_
    refine Ec.region ?_
    refine Eo.val (x := nilS) rfl rfl rfl rfl ?_
    refine Eo.val (x := (.v (.int .i64 0))) rfl rfl rfl rfl ?_
    refine Eo.val (x := (.v (.int .i64 133))) rfl rfl rfl rfl ?_
    refine Eo.nil ?_
    obtain rfl := Option.some.inj H
    refine Ec.ret ?_
    refine Ret.mk rfl ?_
    exact ⟨nilS, rfl, Sl.nil, (Hp.appNil hp 46)⟩
  · have H := cond_f hc3 H
    refine Ec.skip ?_
    refine Ec.seq ?_
    refine Ec.region ?_
    refine Eo.val (x := (.v (.string p0))) rfl rfl rfl rfl ?_
    obtain ⟨r4, hvr4, H⟩ := bind_some H
    refine Eo.call rfl rfl rfl rfl (gdovetailref13_Split_ok hp hvr4) ?_
    rintro a5 σ8 ⟨_, rfl, h6, hp7⟩
    change Hp σ8 (.app a5 9 :: R) at hp7
    refine Eo.val (x := a5) rfl rfl rfl rfl ?_
    refine Eo.nil ?_
    refine Ec.seq ?_
    refine Ec.seq ?_
    refine Ec.region ?_
    refine Eo.val (x := a5) rfl rfl rfl rfl ?_
    refine Eo.val (x := (.v (.int .i64 ((r4.length : Nat) : Int)))) (op_lenL h6 rfl rfl rfl rfl rfl Tryd.underlying44) rfl rfl rfl ?_
    refine Eo.val (x := (.v (.bool (decide (((r4.length : Nat) : Int) > 16384))))) rfl rfl rfl rfl ?_
    refine Eo.nil ?_
    refine Ec.cond (t := (decide (((r4.length : Nat) : Int) > 16384))) rfl (fun hc9 => ?_) (fun hc9 => ?_)
    · have H := cond_t hc9 H
      refine Ec.seq ?_
      refine Ec.region ?_
      refine Eo.val (x := nilS) rfl rfl rfl rfl ?_
      refine Eo.val (x := (.v (.int .i64 0))) rfl rfl rfl rfl ?_
      refine Eo.val (x := (.v (.int .i64 133))) rfl rfl rfl rfl ?_
      refine Eo.nil ?_
      obtain rfl := Option.some.inj H
      refine Ec.ret ?_
      refine Ret.mk rfl ?_
      exact ⟨nilS, rfl, Sl.nil, (Hp.appNil (Hp.drop hp7 0) 46)⟩
    · have H := cond_f hc9 H
      refine Ec.skip ?_
      refine Ec.seq ?_
      refine Ec.region ?_
      refine Eo.val (x := (.sl 3 [] .ex)) rfl rfl rfl rfl ?_
      have hp12 := Hp.appEx hp7 46 3 []
      refine Eo.val (x := (.sl 3 [] .ex)) rfl rfl rfl rfl ?_
      refine Eo.nil ?_
      refine Ec.seq ?_
      refine Ec.seq ?_
      refine Ec.region ?_
      refine Eo.val (x := a5) rfl rfl rfl rfl ?_
      refine Eo.val (x := (.v (.int .i64 ((r4.length : Nat) : Int)))) (op_lenL h6 rfl rfl rfl rfl rfl Tryd.underlying44) rfl rfl rfl ?_
      refine Eo.val (x := (.v (.int .i64 0))) rfl rfl rfl rfl ?_
      refine Eo.nil ?_
      refine Ec.block ?_
      obtain ⟨v1169, hv1170, H⟩ := bind_some H
      refine Ec.cut (J := (fun (v : LR (List TLine) ((List TLine) × Int × Int)) (x : X) (φ : Fr) (s : St) => match v with | .out x783 => x = (.exit 0) ∧ (∃ (a784 : A), Sl rTLine a784 x783 ∧ Hp s (.app a784 46 :: R) ∧ Fl [(6, a784)] φ) | .ret r => x = .ret ∧ Ret cfg Tryd.f9 (gdovetailref13_Parse_post R r) .ret φ s) v1169) (Ec.weak (.cons rfl (.cons rfl (.cons rfl (.cons rfl (.nil'))))) (Ec.loopF (f := (fun m (i : ((List TLine) × Int) × A) => gdovetailref13_Parse_L1 n r4 m i.1.1 i.1.2)) (G := (fun (i : ((List TLine) × Int) × A) => ([(6, i.2), (21, a5), (22, (.v (.int .i64 ((r4.length : Nat) : Int)))), (23, (.v (.int .i64 i.1.2)))] : List (Nat × A)))) (I := (fun (i : ((List TLine) × Int) × A) (s : St) => Sl rTLine i.2 i.1.1 ∧ Hp s (.app i.2 46 :: .app a5 9 :: R))) (J := (fun (v : LR (List TLine) ((List TLine) × Int × Int)) (x : X) (φ : Fr) (s : St) => match v with | .out x783 => x = (.exit 0) ∧ (∃ (a784 : A), Sl rTLine a784 x783 ∧ Hp s (.app a784 46 :: R) ∧ Fl [(6, a784)] φ) | .ret r => x = .ret ∧ Ret cfg Tryd.f9 (gdovetailref13_Parse_post R r) .ret φ s)) (fun _ => rfl) ?_ n ((([] : List TLine), 0), (.sl 3 [] .ex)) _ v1169 ⟨(.inr ⟨_, _, rfl, .nil⟩ : Sl rTLine (.sl 3 [] .ex) ([] : List TLine)), (Hp.front (Hp.front hp12 1) 1)⟩ hv1170)) ?_
      · rintro m ⟨⟨y396, y399⟩, a397⟩ σ0 v ⟨h398, hp0⟩ H ih
        change gdovetailref13_Parse_L1 n r4 (m + 1) y396 y399 = some v at H
        rw [gdovetailref13_Parse_L1] at H
        change Ec _ _ _ [(6, a397), (21, a5), (22, (.v (.int .i64 ((r4.length : Nat) : Int)))), (23, (.v (.int .i64 y399)))] σ0 _
        refine Ec.seq ?_
        refine Ec.region ?_
        refine Eo.val (x := (.v (.bool (decide (y399 < ((r4.length : Nat) : Int)))))) rfl rfl rfl rfl ?_
        refine Eo.nil ?_
        refine Ec.seq ?_
        refine Ec.cond (t := (decide (y399 < ((r4.length : Nat) : Int)))) rfl (fun hc786 => ?_) (fun hc786 => ?_)
        · have H := cond_t hc786 H
          refine Ec.skip ?_
          refine Ec.seq ?_
          obtain ⟨v1167, hv1168, H⟩ := bind_some H
          refine Ec.cut (J := (fun (v : LR (List TLine) ((List TLine) × Int × Int)) (x : X) (φ : Fr) (s : St) => match v with | .out x972 => x = .normal ∧ (∃ (a973 : A), Sl rTLine a973 x972 ∧ Hp s (.app a973 46 :: .app a5 9 :: R) ∧ Fl [(6, a973), (21, a5), (22, (.v (.int .i64 ((r4.length : Nat) : Int)))), (23, (.v (.int .i64 y399)))] φ) | .ret r => x = .ret ∧ Ret cfg Tryd.f9 (gdovetailref13_Parse_post R r) .ret φ s) v1167) ?_ ?_
          · have H := hv1168
            refine Ec.block ?_
            refine Ec.seq ?_
            refine Ec.region ?_
            refine Eo.val (x := (.v (.int .i64 y399))) rfl rfl rfl rfl ?_
            obtain ⟨x975, hvx975, H⟩ := bind_some H
            refine Eo.idx h6 hvx975 rfl rfl rfl Tryd.underlying44 rfl rfl rfl rfl ?_
            rintro cs976 p977 _ hat978 rfl
            refine Eo.val (x := (.v (.string x975))) (op_loadSp hat978 0 rfl rfl rfl rfl rfl) rfl rfl rfl ?_
            refine Eo.val (x := (.v (.int .i64 y399))) rfl rfl rfl rfl ?_
            refine Eo.val (x := (.v (.string x975))) rfl rfl rfl rfl ?_
            refine Eo.nil ?_
            refine Ec.seq ?_
            refine Ec.region ?_
            refine Eo.val (x := (.v (.string x975))) rfl rfl rfl rfl ?_
            obtain ⟨r979, hvr979, H⟩ := bind_some H
            refine Eo.call rfl rfl rfl rfl (gdovetailref13_Words_ok hp0 hvr979) ?_
            obtain ⟨r980, r981⟩ := r979
            rintro _ σ985 ⟨a982, rfl, h983, hp984⟩
            change Hp σ985 (.app a982 48 :: .app a397 46 :: .app a5 9 :: R) at hp984
            refine Eo.val (x := (.tup [a982, (.v (.int .i64 r981))])) rfl rfl rfl rfl ?_
            refine Eo.val (x := a982) rfl rfl rfl rfl ?_
            refine Eo.val (x := (.v (.int .i64 r981))) rfl rfl rfl rfl ?_
            refine Eo.val (x := a982) rfl rfl rfl rfl ?_
            refine Eo.val (x := (.v (.int .i64 r981))) rfl rfl rfl rfl ?_
            refine Eo.nil ?_
            refine Ec.seq ?_
            refine Ec.seq ?_
            refine Ec.region ?_
            refine Eo.val (x := (.v (.int .i64 r981))) rfl rfl rfl rfl ?_
            refine Eo.val (x := (.v (.bool (r981 != 0)))) rfl rfl rfl rfl ?_
            refine Eo.nil ?_
            refine Ec.cond (t := (r981 != 0)) rfl (fun hc986 => ?_) (fun hc986 => ?_)
            · have H := cond_t hc986 H
              refine Ec.seq ?_
              refine Ec.region ?_
              refine Eo.val (x := (.v (.int .i64 y399))) rfl rfl rfl rfl ?_
              refine Eo.val (x := (.v (.int .i64 (IntKind.wrap .i64 (y399 + 1))))) rfl rfl rfl rfl ?_
              refine Eo.val (x := (.v (.int .i64 r981))) rfl rfl rfl rfl ?_
              refine Eo.val (x := nilS) rfl rfl rfl rfl ?_
              refine Eo.val (x := (.v (.int .i64 (IntKind.wrap .i64 (y399 + 1))))) rfl rfl rfl rfl ?_
              refine Eo.val (x := (.v (.int .i64 r981))) rfl rfl rfl rfl ?_
              refine Eo.nil ?_
              obtain rfl := Option.some.inj H
              refine Ec.ret ?_
              refine And.intro rfl (Ret.mk rfl ?_)
              exact ⟨nilS, rfl, Sl.nil, (Hp.appNil (Hp.drop (Hp.drop (Hp.drop hp984 0) 0) 0) 46)⟩
            · have H := cond_f hc986 H
              refine Ec.skip ?_
              refine Ec.seq ?_
              refine Ec.region ?_
              refine Eo.val (x := (.v (.int .i64 y399))) rfl rfl rfl rfl ?_
              refine Eo.val (x := (.v (.int .i64 (IntKind.wrap .i64 (y399 + 1))))) rfl rfl rfl rfl ?_
              refine Eo.val (x := (.agg [(.v (.int .i64 (IntKind.wrap .i64 (y399 + 1)))), nilS, nilS])) (op_build (lay_cons rfl rfl rfl rfl rfl lay_nil) rfl (parts_cons rfl rfl rfl) Tryd.underlying46 rfl rfl) rfl rfl rfl ?_
              refine Eo.alloc (z := [(.v (.int .i64 0)), nilS, nilS]) hp984 rfl rfl rfl rfl rfl ?_
              intro b987 σ989 hp988
              refine Eo.store hp988 0 rfl (storeCells_mk rfl rfl rfl rfl rfl rfl) rfl rfl rfl rfl rfl ?_
              intro σ991 hp990
              change Hp σ991 (.blk b987 (.cells [(.v (.int .i64 (IntKind.wrap .i64 (y399 + 1)))), nilS, nilS] 46) :: .app a982 48 :: .app a397 46 :: .app a5 9 :: R) at hp990
              refine Eo.nil ?_
              refine Ec.seq ?_
              refine Ec.block ?_
              obtain ⟨v1142, hv1143, H⟩ := bind_some H
              refine Ec.cut (J := (fun (v : ((List TTok) × (List ByteArray))) (x : X) (φ : Fr) (s : St) => match v with | (x1090, x1093) => x = (.exit 2) ∧ (∃ (a1091 a1094 : A), Sl rTTok a1091 x1090 ∧ Sl rS a1094 x1093 ∧ Hp s (.blk b987 (.cells [(.v (.int .i64 (IntKind.wrap .i64 (y399 + 1)))), a1094, nilS] 46) :: .app a397 46 :: .app a5 9 :: .app a1094 9 :: R) ∧ Fl [(6, a397), (9, a1091), (11, (.ptr b987 0)), (21, a5), (22, (.v (.int .i64 ((r4.length : Nat) : Int)))), (23, (.v (.int .i64 y399)))] φ)) v1142) (Ec.weak (.cons rfl (.cons rfl (.cons rfl (.cons rfl (.cons rfl (.cons rfl (.nil'))))))) (Ec.loopF (f := (fun m (i : ((List TTok) × (List ByteArray)) × (A × A)) => gdovetailref13_Parse_L2 n m i.1.1 i.1.2)) (G := (fun (i : ((List TTok) × (List ByteArray)) × (A × A)) => ([(6, a397), (9, i.2.1), (11, (.ptr b987 0)), (21, a5), (22, (.v (.int .i64 ((r4.length : Nat) : Int)))), (23, (.v (.int .i64 y399)))] : List (Nat × A)))) (I := (fun (i : ((List TTok) × (List ByteArray)) × (A × A)) (s : St) => Sl rTTok i.2.1 i.1.1 ∧ Sl rS i.2.2 i.1.2 ∧ Hp s (.blk b987 (.cells [(.v (.int .i64 (IntKind.wrap .i64 (y399 + 1)))), i.2.2, nilS] 46) :: .app a397 46 :: .app a5 9 :: .app i.2.2 9 :: R))) (J := (fun (v : ((List TTok) × (List ByteArray))) (x : X) (φ : Fr) (s : St) => match v with | (x1090, x1093) => x = (.exit 2) ∧ (∃ (a1091 a1094 : A), Sl rTTok a1091 x1090 ∧ Sl rS a1094 x1093 ∧ Hp s (.blk b987 (.cells [(.v (.int .i64 (IntKind.wrap .i64 (y399 + 1)))), a1094, nilS] 46) :: .app a397 46 :: .app a5 9 :: .app a1094 9 :: R) ∧ Fl [(6, a397), (9, a1091), (11, (.ptr b987 0)), (21, a5), (22, (.v (.int .i64 ((r4.length : Nat) : Int)))), (23, (.v (.int .i64 y399)))] φ))) (fun _ => rfl) ?_ n ((r980, ([] : List ByteArray)), (a982, nilS)) _ v1142 ⟨h983, Sl.nil, (Hp.front (Hp.front (Hp.front (Hp.appNil (Hp.drop hp990 1) 9) 3) 3) 3)⟩ hv1143)) ?_
              · rintro m ⟨⟨y1038, y1041⟩, ⟨a1039, a1042⟩⟩ σ0 v ⟨h1040, h1043, hp0⟩ H ih
                change gdovetailref13_Parse_L2 n (m + 1) y1038 y1041 = some v at H
                rw [gdovetailref13_Parse_L2] at H
                change Ec _ _ _ [(6, a397), (9, a1039), (11, (.ptr b987 0)), (21, a5), (22, (.v (.int .i64 ((r4.length : Nat) : Int)))), (23, (.v (.int .i64 y399)))] σ0 _
                refine Ec.seq ?_
                refine Ec.seq ?_
                refine Ec.region ?_
                refine Eo.val (x := a1039) rfl rfl rfl rfl ?_
                obtain ⟨r1096, hvr1096, H⟩ := bind_some H
                refine Eo.call rfl rfl rfl rfl (gdovetailref13_Labelled_ok h1040 hp0 hvr1096) ?_
                rintro _ σ1098 ⟨rfl, hp1097⟩
                refine Eo.nil ?_
                refine Ec.cond (t := r1096) rfl (fun hc1099 => ?_) (fun hc1099 => ?_)
                · have H := cond_t hc1099 H
                  refine Ec.skip ?_
                  refine Ec.block ?_
                  refine Ec.seq ?_
                  obtain ⟨x1115, hv1141, H⟩ := bind_some H
                  refine Ec.cut (J := (fun (x1115 : (List ByteArray)) (x : X) (φ : Fr) (s : St) => x = .normal ∧ (∃ (a1116 : A), Sl rS a1116 x1115 ∧ Hp s (.blk b987 (.cells [(.v (.int .i64 (IntKind.wrap .i64 (y399 + 1)))), a1116, nilS] 46) :: .app a397 46 :: .app a5 9 :: .app a1116 9 :: R) ∧ Fl [(6, a397), (9, a1039), (11, (.ptr b987 0)), (21, a5), (22, (.v (.int .i64 ((r4.length : Nat) : Int)))), (23, (.v (.int .i64 y399)))] φ)) x1115) ?_ ?_
                  · have H := hv1141
                    refine Ec.drawn2 (by kernel_rfl) ?_
                    refine Eo.val (x := (.ptr b987 1)) rfl rfl rfl rfl ?_
                    refine Eo.val (x := a1042) (op_loadB hp1097 0 rfl rfl rfl rfl) rfl rfl rfl ?_
                    refine Eo.val (x := a1039) rfl rfl rfl rfl ?_
                    obtain ⟨x1118, hvx1118, H⟩ := bind_some H
                    refine Eo.idx h1040 hvx1118 rfl rfl rfl Tryd.underlying31 rfl rfl rfl rfl ?_
                    rintro cs1119 p1120 _ hat1121 rfl
                    refine Eo.val (x := (.sp cs1119 (p1120 + 1) .no)) rfl rfl rfl rfl ?_
                    refine Eo.val (x := (.v (.string x1118.f_Text))) (op_loadSp hat1121 1 rfl rfl rfl rfl rfl) rfl rfl rfl ?_
                    refine Eo.val (x := (.sl 1 [(.v (.string x1118.f_Text))] .ex)) (op_buildS (lay_cons rfl rfl rfl rfl rfl lay_nil) rfl (parts_cons rfl rfl rfl) Tryd.underlying44 rfl rfl rfl rfl (by decide) rfl) rfl rfl rfl ?_
                    have h1125 : Sl rS (.sl 1 [(.v (.string x1118.f_Text))] .ex) ([x1118.f_Text] : List ByteArray) := .inr ⟨_, _, rfl, (.cons (c := [(.v (.string x1118.f_Text))]) rfl .nil)⟩
                    have hp1124 := Hp.appEx hp1097 9 1 [(.v (.string x1118.f_Text))]
                    obtain ⟨l1126, hvl1126, H⟩ := bind_some H
                    refine Eo.append hp1124 4 rfl h1043 (New.of h1125) hvl1126 rfl rfl rfl rfl rfl rfl rfl Tryd.underlying44 rfl Tryd.underlying44 rfl rfl rfl rfl rfl rfl rfl rfl ?_
                    intro a1127 σ1130 h1128 hp1129
                    change Hp σ1130 (.app (.sl 1 [(.v (.string x1118.f_Text))] .ex) 9 :: .blk b987 (.cells [(.v (.int .i64 (IntKind.wrap .i64 (y399 + 1)))), a1042, nilS] 46) :: .app a397 46 :: .app a5 9 :: .app a1127 9 :: R) at hp1129
                    refine Eo.val (x := (.ptr b987 1)) rfl rfl rfl rfl ?_
                    refine Eo.store hp1129 1 rfl (storeCells_mk (h1128.cells) rfl rfl (by simp [allOne, A.cells, h1128.isOne]) rfl rfl) rfl rfl rfl rfl rfl ?_
                    intro σ1132 hp1131
                    change Hp σ1132 (.app (.sl 1 [(.v (.string x1118.f_Text))] .ex) 9 :: .blk b987 (.cells [(.v (.int .i64 (IntKind.wrap .i64 (y399 + 1)))), a1127, nilS] 46) :: .app a397 46 :: .app a5 9 :: .app a1127 9 :: R) at hp1131
                    refine Eo.nil ?_
                    obtain rfl := Option.some.inj H
                    exact And.intro rfl (And.intro rfl ⟨a1127, h1128, (Hp.front (Hp.front (Hp.front (Hp.front (Hp.drop hp1131 0) 3) 3) 3) 3), (.cons rfl (.cons rfl (.cons rfl (.cons rfl (.cons rfl (.cons rfl (.nil')))))))⟩)
                  · skip
                    intro x φ1135 σ1134 hJ
                    obtain ⟨rfl, a1116, h1117, hp1133, hf1136⟩ := hJ
                    refine Ec.of (F := [(6, a397), (9, a1039), (11, (.ptr b987 0)), (21, a5), (22, (.v (.int .i64 ((r4.length : Nat) : Int)))), (23, (.v (.int .i64 y399)))]) hf1136 ?_
                    refine Ec.region ?_
                    refine Eo.val (x := a1039) rfl rfl rfl rfl ?_
                    obtain ⟨l1137, hvl1137, H⟩ := bind_some H
                    refine Eo.subL h1040 hvl1137 rfl rfl Tryd.underlying31 rfl (.inr ⟨_, _, rfl, rfl⟩) (.inl ⟨rfl, rfl⟩) rfl rfl rfl ?_
                    intro a1138 h1139
                    refine Eo.val (x := a1138) rfl rfl rfl rfl ?_
                    refine Eo.nil ?_
                    exact Ec.of (.cons rfl (.cons rfl (.cons rfl (.cons rfl (.cons rfl (.cons rfl (.nil'))))))) (ih ((l1137, x1115), (a1138, a1116)) _ ⟨h1139, h1117, (Hp.front (Hp.front (Hp.front (Hp.front hp1133 3) 3) 3) 3)⟩ H)
                · have H := cond_f hc1099 H
                  refine Ec.exit ?_
                  obtain rfl := Option.some.inj H
                  exact And.intro rfl ⟨a1039, a1042, h1040, h1043, (Hp.front (Hp.front (Hp.front (Hp.front hp1097 3) 3) 3) 3), (.cons rfl (.cons rfl (.cons rfl (.cons rfl (.cons rfl (.cons rfl (.nil')))))))⟩
              · skip
                intro x φ1146 σ1145 hJ
                obtain ⟨x1090, x1093⟩ := v1142
                obtain ⟨rfl, a1091, a1094, h1092, h1095, hp1144, hf1147⟩ := hJ
                refine Ec.of (F := [(6, a397), (9, a1091), (11, (.ptr b987 0)), (21, a5), (22, (.v (.int .i64 ((r4.length : Nat) : Int)))), (23, (.v (.int .i64 y399)))]) hf1147 ?_
                refine Ec.seq ?_
                refine Ec.region ?_
                refine Eo.val (x := a1091) rfl rfl rfl rfl ?_
                refine Eo.val (x := (.ptr b987 2)) rfl rfl rfl rfl ?_
                refine Eo.store hp1144 0 rfl (storeCells_mk (h1092.cells) rfl rfl (by simp [allOne, A.cells, h1092.isOne]) rfl rfl) rfl rfl rfl rfl rfl ?_
                intro σ1149 hp1148
                change Hp σ1149 (.blk b987 (.cells [(.v (.int .i64 (IntKind.wrap .i64 (y399 + 1)))), a1094, a1091] 46) :: .app a397 46 :: .app a5 9 :: .app a1094 9 :: R) at hp1148
                refine Eo.nil ?_
                refine Ec.seq ?_
                refine Ec.region ?_
                refine Eo.val (x := (.ptr b987 1)) rfl rfl rfl rfl ?_
                refine Eo.val (x := a1094) (op_loadB hp1148 0 rfl rfl rfl rfl) rfl rfl rfl ?_
                refine Eo.val (x := (.v (.int .i64 ((x1093.length : Nat) : Int)))) (op_lenL h1095 rfl rfl rfl rfl rfl Tryd.underlying44) rfl rfl rfl ?_
                refine Eo.val (x := (.ptr b987 2)) rfl rfl rfl rfl ?_
                refine Eo.val (x := a1091) (op_loadB hp1148 0 rfl rfl rfl rfl) rfl rfl rfl ?_
                refine Eo.val (x := (.v (.int .i64 ((x1090.length : Nat) : Int)))) (op_lenL h1092 rfl rfl rfl rfl rfl Tryd.underlying31) rfl rfl rfl ?_
                refine Eo.val (x := (.v (.int .i64 (IntKind.wrap .i64 (((x1093.length : Nat) : Int) + ((x1090.length : Nat) : Int)))))) rfl rfl rfl rfl ?_
                refine Eo.val (x := (.v (.bool (decide ((IntKind.wrap .i64 (((x1093.length : Nat) : Int) + ((x1090.length : Nat) : Int))) > 0))))) rfl rfl rfl rfl ?_
                refine Eo.nil ?_
                refine Ec.cond (t := (decide ((IntKind.wrap .i64 (((x1093.length : Nat) : Int) + ((x1090.length : Nat) : Int))) > 0))) rfl (fun hc1150 => ?_) (fun hc1150 => ?_)
                · have H := cond_t hc1150 H
                  refine Ec.region ?_
                  refine Eo.val (x := a397) rfl rfl rfl rfl ?_
                  refine Eo.val (x := (.agg [(.v (.int .i64 (IntKind.wrap .i64 (y399 + 1)))), a1094, a1091])) (op_loadB hp1148 0 rfl rfl rfl rfl) rfl rfl rfl ?_
                  refine Eo.val (x := (.sl 3 [(.v (.int .i64 (IntKind.wrap .i64 (y399 + 1)))), a1094, a1091] .ex)) (op_buildS (lay_cons rfl rfl rfl rfl rfl lay_nil) rfl (parts_cons rfl rfl rfl) Tryd.underlying23 rfl rfl rfl rfl (by decide) rfl) rfl rfl rfl ?_
                  have h1154 : Sl rTLine (.sl 3 [(.v (.int .i64 (IntKind.wrap .i64 (y399 + 1)))), a1094, a1091] .ex) ([(TLine.mk (IntKind.wrap .i64 (y399 + 1)) x1093 x1090)] : List TLine) := .inr ⟨_, _, rfl, (.cons (c := [(.v (.int .i64 (IntKind.wrap .i64 (y399 + 1)))), a1094, a1091]) ⟨a1094, a1091, rfl, h1095, h1092⟩ .nil)⟩
                  have hp1153 := Hp.appEx hp1148 46 3 [(.v (.int .i64 (IntKind.wrap .i64 (y399 + 1)))), a1094, a1091]
                  obtain ⟨l1155, hvl1155, H⟩ := bind_some H
                  refine Eo.append hp1153 2 rfl h398 (New.of h1154) hvl1155 rfl rfl rfl rfl rfl rfl rfl Tryd.underlying23 rfl Tryd.underlying23 rfl rfl rfl rfl rfl rfl rfl rfl ?_
                  intro a1156 σ1159 h1157 hp1158
                  change Hp σ1159 (.app (.sl 3 [(.v (.int .i64 (IntKind.wrap .i64 (y399 + 1)))), a1094, a1091] .ex) 46 :: .blk b987 (.cells [(.v (.int .i64 (IntKind.wrap .i64 (y399 + 1)))), a1094, a1091] 46) :: .app a1156 46 :: .app a5 9 :: .app a1094 9 :: R) at hp1158
                  refine Eo.val (x := a1156) rfl rfl rfl rfl ?_
                  refine Eo.nil ?_
                  obtain rfl := Option.some.inj H
                  exact And.intro rfl ⟨a1156, h1157, (Hp.front (Hp.front (Hp.drop (Hp.drop (Hp.drop hp1158 0) 0) 2) 1) 1), (.cons rfl (.cons rfl (.cons rfl (.cons rfl (.nil')))))⟩
                · have H := cond_f hc1150 H
                  refine Ec.skip ?_
                  obtain rfl := Option.some.inj H
                  exact And.intro rfl ⟨a397, h398, (Hp.front (Hp.front (Hp.drop (Hp.drop hp1148 0) 2) 1) 1), (.cons rfl (.cons rfl (.cons rfl (.cons rfl (.nil')))))⟩
          · rcases v1167 with x972 | r1164
            · intro x φ1162 σ1161 hJ
              obtain ⟨rfl, a973, h974, hp1160, hf1163⟩ := hJ
              refine Ec.of (F := [(6, a973), (21, a5), (22, (.v (.int .i64 ((r4.length : Nat) : Int)))), (23, (.v (.int .i64 y399)))]) hf1163 ?_
              refine Ec.region ?_
              refine Eo.val (x := (.v (.int .i64 (IntKind.wrap .i64 (y399 + 1))))) rfl rfl rfl rfl ?_
              refine Eo.val (x := (.v (.int .i64 (IntKind.wrap .i64 (y399 + 1))))) rfl rfl rfl rfl ?_
              refine Eo.nil ?_
              exact Ec.of (.cons rfl (.cons rfl (.cons rfl (.cons rfl (.nil'))))) (ih ((x972, (IntKind.wrap .i64 (y399 + 1))), a973) _ ⟨h974, (Hp.front (Hp.front hp1160 1) 1)⟩ H)
            · intro x φ1165 σ1166 hJ
              obtain rfl := Option.some.inj H
              obtain ⟨rfl, hr⟩ := hJ
              exact And.intro rfl hr
        · have H := cond_f hc786 H
          refine Ec.exit ?_
          obtain rfl := Option.some.inj H
          exact And.intro rfl ⟨a397, h398, (Hp.drop hp0 1), (.cons rfl (.nil'))⟩
      · rcases v1169 with x783 | r1175
        · intro x φ1173 σ1172 hJ
          obtain ⟨rfl, a784, h785, hp1171, hf1174⟩ := hJ
          refine Ec.of (F := [(6, a784)]) hf1174 ?_
          refine Ec.seq ?_
          refine Ec.region ?_
          refine Eo.val (x := a784) rfl rfl rfl rfl ?_
          refine Eo.val (x := a784) rfl rfl rfl rfl ?_
          refine Eo.val (x := (.v (.int .i64 0))) rfl rfl rfl rfl ?_
          refine Eo.val (x := (.v (.int .i64 0))) rfl rfl rfl rfl ?_
          refine Eo.nil ?_
          obtain rfl := Option.some.inj H
          refine Ec.ret ?_
          refine Ret.mk rfl ?_
          exact ⟨a784, rfl, h785, hp1171⟩
        · intro x φ1176 σ1177 hJ
          obtain rfl := Option.some.inj H
          obtain ⟨rfl, hr⟩ := hJ
          exact hr

def gdovetailref13_SameTexts_L1 (N : Nat) (p0 : (List ByteArray)) (p1 : (List ByteArray)) : Nat → Int → Option (LR Unit Bool)
  | 0, _ => none
  | m + 1, y31 => (cond (decide (y31 < ((p0.length : Nat) : Int))) (((((atL p0 y31).bind fun x67 => ((atL p1 y31).bind fun x71 => some (!decide (x67 = x71)))) : Option (Bool)).bind fun x66 => (cond x66 (some (.ret false)) (gdovetailref13_SameTexts_L1 N p0 p1 m (IntKind.wrap .i64 (y31 + 1)))))) (some (.out ())))

def gdovetailref13_SameTexts (n : Nat) (p0 : (List ByteArray)) (p1 : (List ByteArray)) : Option (Bool) := (cond (((p0.length : Nat) : Int) != ((p1.length : Nat) : Int)) (some false) (((gdovetailref13_SameTexts_L1 n p0 p1 n 0).bind fun v => match v with | .out _ => some true | .ret r88 => some r88)))

def gdovetailref13_SameTexts_post (R : List Res) (r : Bool) (x : A) (s : St) : Prop := x = (.v (.bool r)) ∧ Hp s (R)

theorem gdovetailref13_SameTexts_ok {n : Nat} {p0 : (List ByteArray)} {p1 : (List ByteArray)} {a1 a3 : A} {R : List Res} {σ : St} (h2 : Sl rS a1 p0) (h4 : Sl rS a3 p1) (hp : Hp σ R) {r : Bool} (H : gdovetailref13_SameTexts n p0 p1 = some r) : Ca cfg 24 [a1, a3] σ (gdovetailref13_SameTexts_post R r) := by
  unfold gdovetailref13_SameTexts at H
  refine Ca.enterL (G := [(0, a1), (1, a3)]) Tryd.func24 rfl rfl rfl rfl ?_
  refine Ec.seq ?_
  refine Ec.region ?_
  refine Eo.val (x := (.v (.bool false))) rfl rfl rfl rfl ?_
  refine Eo.nil ?_
  refine Ec.seq ?_
  refine Ec.seq ?_
  refine Ec.region ?_
  refine Eo.val (x := a1) rfl rfl rfl rfl ?_
  refine Eo.val (x := (.v (.int .i64 ((p0.length : Nat) : Int)))) (op_lenL h2 rfl rfl rfl rfl rfl Tryd.underlying44) rfl rfl rfl ?_
  refine Eo.val (x := a3) rfl rfl rfl rfl ?_
  refine Eo.val (x := (.v (.int .i64 ((p1.length : Nat) : Int)))) (op_lenL h4 rfl rfl rfl rfl rfl Tryd.underlying44) rfl rfl rfl ?_
  refine Eo.val (x := (.v (.bool (((p0.length : Nat) : Int) != ((p1.length : Nat) : Int))))) rfl rfl rfl rfl ?_
  refine Eo.nil ?_
  refine Ec.cond (t := (((p0.length : Nat) : Int) != ((p1.length : Nat) : Int))) rfl (fun hc5 => ?_) (fun hc5 => ?_)
  · have H := cond_t hc5 H
    refine Ec.seq ?_
    refine Ec.region ?_
    refine Eo.val (x := (.v (.bool false))) rfl rfl rfl rfl ?_
    refine Eo.nil ?_
    obtain rfl := Option.some.inj H
    refine Ec.ret ?_
    refine Ret.mk rfl ?_
    exact ⟨rfl, hp⟩
  · have H := cond_f hc5 H
    refine Ec.skip ?_
    refine Ec.seq ?_
    refine Ec.seq ?_
    refine Ec.region ?_
    refine Eo.val (x := a1) rfl rfl rfl rfl ?_
    refine Eo.val (x := (.v (.int .i64 ((p0.length : Nat) : Int)))) (op_lenL h2 rfl rfl rfl rfl rfl Tryd.underlying44) rfl rfl rfl ?_
    refine Eo.val (x := (.v (.int .i64 0))) rfl rfl rfl rfl ?_
    refine Eo.nil ?_
    refine Ec.block ?_
    obtain ⟨v82, hv83, H⟩ := bind_some H
    refine Ec.cut (J := (fun (v : LR Unit Bool) (x : X) (φ : Fr) (s : St) => match v with | .out _ => x = (.exit 0) ∧ (Hp s (R) ∧ Fl [] φ) | .ret r => x = .ret ∧ Ret cfg Tryd.f24 (gdovetailref13_SameTexts_post R r) .ret φ s) v82) (Ec.weak (.cons rfl (.cons rfl (.cons rfl (.cons rfl (.nil'))))) (Ec.loopF (f := (fun m (i : Int × Unit) => gdovetailref13_SameTexts_L1 n p0 p1 m i.1)) (G := (fun (i : Int × Unit) => ([(0, a1), (1, a3), (12, (.v (.int .i64 ((p0.length : Nat) : Int)))), (13, (.v (.int .i64 i.1)))] : List (Nat × A)))) (I := (fun (i : Int × Unit) (s : St) => Hp s (R))) (J := (fun (v : LR Unit Bool) (x : X) (φ : Fr) (s : St) => match v with | .out _ => x = (.exit 0) ∧ (Hp s (R) ∧ Fl [] φ) | .ret r => x = .ret ∧ Ret cfg Tryd.f24 (gdovetailref13_SameTexts_post R r) .ret φ s)) (fun _ => rfl) ?_ n (0, ()) _ v82 hp hv83)) ?_
    · rintro m ⟨y31, _⟩ σ0 v hp0 H ih
      change gdovetailref13_SameTexts_L1 n p0 p1 (m + 1) y31 = some v at H
      rw [gdovetailref13_SameTexts_L1] at H
      change Ec _ _ _ [(0, a1), (1, a3), (12, (.v (.int .i64 ((p0.length : Nat) : Int)))), (13, (.v (.int .i64 y31)))] σ0 _
      refine Ec.seq ?_
      refine Ec.region ?_
      refine Eo.val (x := (.v (.bool (decide (y31 < ((p0.length : Nat) : Int)))))) rfl rfl rfl rfl ?_
      refine Eo.nil ?_
      refine Ec.seq ?_
      refine Ec.cond (t := (decide (y31 < ((p0.length : Nat) : Int)))) rfl (fun hc57 => ?_) (fun hc57 => ?_)
      · have H := cond_t hc57 H
        refine Ec.skip ?_
        refine Ec.seq ?_
        refine Ec.block ?_
        refine Ec.seq ?_
        refine Ec.region ?_
        refine Eo.val (x := (.v (.int .i64 y31))) rfl rfl rfl rfl ?_
        refine Eo.val (x := (.v (.int .i64 y31))) rfl rfl rfl rfl ?_
        refine Eo.nil ?_
        refine Ec.seq ?_
        obtain ⟨x66, hv81, H⟩ := bind_some H
        refine Ec.cut (J := (fun (x66 : Bool) (x : X) (φ : Fr) (s : St) => x = .normal ∧ (Hp s (R) ∧ Fl [(0, a1), (1, a3), (12, (.v (.int .i64 ((p0.length : Nat) : Int)))), (13, (.v (.int .i64 y31))), (24, (.v (.bool x66)))] φ)) x66) ?_ ?_
        · have H := hv81
          refine Ec.drawn2 (by kernel_rfl) ?_
          refine Eo.val (x := a1) rfl rfl rfl rfl ?_
          refine Eo.val (x := (.v (.int .i64 y31))) rfl rfl rfl rfl ?_
          obtain ⟨x67, hvx67, H⟩ := bind_some H
          refine Eo.idx h2 hvx67 rfl rfl rfl Tryd.underlying44 rfl rfl rfl rfl ?_
          rintro cs68 p69 _ hat70 rfl
          refine Eo.val (x := (.v (.string x67))) (op_loadSp hat70 0 rfl rfl rfl rfl rfl) rfl rfl rfl ?_
          refine Eo.val (x := a3) rfl rfl rfl rfl ?_
          refine Eo.val (x := (.v (.int .i64 y31))) rfl rfl rfl rfl ?_
          obtain ⟨x71, hvx71, H⟩ := bind_some H
          refine Eo.idx h4 hvx71 rfl rfl rfl Tryd.underlying44 rfl rfl rfl rfl ?_
          rintro cs72 p73 _ hat74 rfl
          refine Eo.val (x := (.v (.string x71))) (op_loadSp hat74 0 rfl rfl rfl rfl rfl) rfl rfl rfl ?_
          refine Eo.val (x := (.v (.bool (!decide (x67 = x71))))) (val_b rfl (sne_eq _ _)) rfl rfl rfl ?_
          refine Eo.nil ?_
          obtain rfl := Option.some.inj H
          exact And.intro rfl (And.intro rfl ⟨hp0, (.cons rfl (.cons rfl (.cons rfl (.cons rfl (.cons rfl (.nil'))))))⟩)
        · skip
          intro x φ77 σ76 hJ
          obtain ⟨rfl, hp75, hf78⟩ := hJ
          refine Ec.of (F := [(0, a1), (1, a3), (12, (.v (.int .i64 ((p0.length : Nat) : Int)))), (13, (.v (.int .i64 y31))), (24, (.v (.bool x66)))]) hf78 ?_
          refine Ec.cond (t := x66) rfl (fun hc79 => ?_) (fun hc79 => ?_)
          · have H := cond_t hc79 H
            refine Ec.seq ?_
            refine Ec.region ?_
            refine Eo.val (x := (.v (.bool false))) rfl rfl rfl rfl ?_
            refine Eo.nil ?_
            obtain rfl := Option.some.inj H
            refine Ec.ret ?_
            refine And.intro rfl (Ret.mk rfl ?_)
            exact ⟨rfl, hp75⟩
          · have H := cond_f hc79 H
            refine Ec.skip ?_
            refine Ec.region ?_
            refine Eo.val (x := (.v (.int .i64 (IntKind.wrap .i64 (y31 + 1))))) rfl rfl rfl rfl ?_
            refine Eo.val (x := (.v (.int .i64 (IntKind.wrap .i64 (y31 + 1))))) rfl rfl rfl rfl ?_
            refine Eo.nil ?_
            exact Ec.of (.cons rfl (.cons rfl (.cons rfl (.cons rfl (.nil'))))) (ih ((IntKind.wrap .i64 (y31 + 1)), ()) _ hp75 H)
      · have H := cond_f hc57 H
        refine Ec.exit ?_
        obtain rfl := Option.some.inj H
        exact And.intro rfl ⟨hp0, (.nil')⟩
    · rcases v82 with _ | r88
      · intro x φ86 σ85 hJ
        obtain ⟨rfl, hp84, hf87⟩ := hJ
        refine Ec.of (F := []) hf87 ?_
        refine Ec.seq ?_
        refine Ec.region ?_
        refine Eo.val (x := (.v (.bool true))) rfl rfl rfl rfl ?_
        refine Eo.nil ?_
        obtain rfl := Option.some.inj H
        refine Ec.ret ?_
        refine Ret.mk rfl ?_
        exact ⟨rfl, hp84⟩
      · intro x φ89 σ90 hJ
        obtain rfl := Option.some.inj H
        obtain ⟨rfl, hr⟩ := hJ
        exact hr

def gdovetailref13_SameToks_L1 (N : Nat) (p0 : (List TTok)) (p1 : (List TTok)) : Nat → Int → Option (LR Unit Bool)
  | 0, _ => none
  | m + 1, y31 => (cond (decide (y31 < ((p0.length : Nat) : Int))) (((((atL p0 y31).bind fun x67 => ((atL p1 y31).bind fun x71 => some (!((x67.f_Kind == x71.f_Kind) && ((decide (x67.f_Text = x71.f_Text)) && true))))) : Option (Bool)).bind fun x66 => (cond x66 (some (.ret false)) (gdovetailref13_SameToks_L1 N p0 p1 m (IntKind.wrap .i64 (y31 + 1)))))) (some (.out ())))

def gdovetailref13_SameToks (n : Nat) (p0 : (List TTok)) (p1 : (List TTok)) : Option (Bool) := (cond (((p0.length : Nat) : Int) != ((p1.length : Nat) : Int)) (some false) (((gdovetailref13_SameToks_L1 n p0 p1 n 0).bind fun v => match v with | .out _ => some true | .ret r88 => some r88)))

def gdovetailref13_SameToks_post (R : List Res) (r : Bool) (x : A) (s : St) : Prop := x = (.v (.bool r)) ∧ Hp s (R)

theorem gdovetailref13_SameToks_ok {n : Nat} {p0 : (List TTok)} {p1 : (List TTok)} {a1 a3 : A} {R : List Res} {σ : St} (h2 : Sl rTTok a1 p0) (h4 : Sl rTTok a3 p1) (hp : Hp σ R) {r : Bool} (H : gdovetailref13_SameToks n p0 p1 = some r) : Ca cfg 14 [a1, a3] σ (gdovetailref13_SameToks_post R r) := by
  unfold gdovetailref13_SameToks at H
  refine Ca.enterL (G := [(0, a1), (1, a3)]) Tryd.func14 rfl rfl rfl rfl ?_
  refine Ec.seq ?_
  refine Ec.region ?_
  refine Eo.val (x := (.v (.bool false))) rfl rfl rfl rfl ?_
  refine Eo.nil ?_
  refine Ec.seq ?_
  refine Ec.seq ?_
  refine Ec.region ?_
  refine Eo.val (x := a1) rfl rfl rfl rfl ?_
  refine Eo.val (x := (.v (.int .i64 ((p0.length : Nat) : Int)))) (op_lenL h2 rfl rfl rfl rfl rfl Tryd.underlying31) rfl rfl rfl ?_
  refine Eo.val (x := a3) rfl rfl rfl rfl ?_
  refine Eo.val (x := (.v (.int .i64 ((p1.length : Nat) : Int)))) (op_lenL h4 rfl rfl rfl rfl rfl Tryd.underlying31) rfl rfl rfl ?_
  refine Eo.val (x := (.v (.bool (((p0.length : Nat) : Int) != ((p1.length : Nat) : Int))))) rfl rfl rfl rfl ?_
  refine Eo.nil ?_
  refine Ec.cond (t := (((p0.length : Nat) : Int) != ((p1.length : Nat) : Int))) rfl (fun hc5 => ?_) (fun hc5 => ?_)
  · have H := cond_t hc5 H
    refine Ec.seq ?_
    refine Ec.region ?_
    refine Eo.val (x := (.v (.bool false))) rfl rfl rfl rfl ?_
    refine Eo.nil ?_
    obtain rfl := Option.some.inj H
    refine Ec.ret ?_
    refine Ret.mk rfl ?_
    exact ⟨rfl, hp⟩
  · have H := cond_f hc5 H
    refine Ec.skip ?_
    refine Ec.seq ?_
    refine Ec.seq ?_
    refine Ec.region ?_
    refine Eo.val (x := a1) rfl rfl rfl rfl ?_
    refine Eo.val (x := (.v (.int .i64 ((p0.length : Nat) : Int)))) (op_lenL h2 rfl rfl rfl rfl rfl Tryd.underlying31) rfl rfl rfl ?_
    refine Eo.val (x := (.v (.int .i64 0))) rfl rfl rfl rfl ?_
    refine Eo.nil ?_
    refine Ec.block ?_
    obtain ⟨v82, hv83, H⟩ := bind_some H
    refine Ec.cut (J := (fun (v : LR Unit Bool) (x : X) (φ : Fr) (s : St) => match v with | .out _ => x = (.exit 0) ∧ (Hp s (R) ∧ Fl [] φ) | .ret r => x = .ret ∧ Ret cfg Tryd.f14 (gdovetailref13_SameToks_post R r) .ret φ s) v82) (Ec.weak (.cons rfl (.cons rfl (.cons rfl (.cons rfl (.nil'))))) (Ec.loopF (f := (fun m (i : Int × Unit) => gdovetailref13_SameToks_L1 n p0 p1 m i.1)) (G := (fun (i : Int × Unit) => ([(0, a1), (1, a3), (12, (.v (.int .i64 ((p0.length : Nat) : Int)))), (13, (.v (.int .i64 i.1)))] : List (Nat × A)))) (I := (fun (i : Int × Unit) (s : St) => Hp s (R))) (J := (fun (v : LR Unit Bool) (x : X) (φ : Fr) (s : St) => match v with | .out _ => x = (.exit 0) ∧ (Hp s (R) ∧ Fl [] φ) | .ret r => x = .ret ∧ Ret cfg Tryd.f14 (gdovetailref13_SameToks_post R r) .ret φ s)) (fun _ => rfl) ?_ n (0, ()) _ v82 hp hv83)) ?_
    · rintro m ⟨y31, _⟩ σ0 v hp0 H ih
      change gdovetailref13_SameToks_L1 n p0 p1 (m + 1) y31 = some v at H
      rw [gdovetailref13_SameToks_L1] at H
      change Ec _ _ _ [(0, a1), (1, a3), (12, (.v (.int .i64 ((p0.length : Nat) : Int)))), (13, (.v (.int .i64 y31)))] σ0 _
      refine Ec.seq ?_
      refine Ec.region ?_
      refine Eo.val (x := (.v (.bool (decide (y31 < ((p0.length : Nat) : Int)))))) rfl rfl rfl rfl ?_
      refine Eo.nil ?_
      refine Ec.seq ?_
      refine Ec.cond (t := (decide (y31 < ((p0.length : Nat) : Int)))) rfl (fun hc57 => ?_) (fun hc57 => ?_)
      · have H := cond_t hc57 H
        refine Ec.skip ?_
        refine Ec.seq ?_
        refine Ec.block ?_
        refine Ec.seq ?_
        refine Ec.region ?_
        refine Eo.val (x := (.v (.int .i64 y31))) rfl rfl rfl rfl ?_
        refine Eo.val (x := (.v (.int .i64 y31))) rfl rfl rfl rfl ?_
        refine Eo.nil ?_
        refine Ec.seq ?_
        obtain ⟨x66, hv81, H⟩ := bind_some H
        refine Ec.cut (J := (fun (x66 : Bool) (x : X) (φ : Fr) (s : St) => x = .normal ∧ (Hp s (R) ∧ Fl [(0, a1), (1, a3), (12, (.v (.int .i64 ((p0.length : Nat) : Int)))), (13, (.v (.int .i64 y31))), (24, (.v (.bool x66)))] φ)) x66) ?_ ?_
        · have H := hv81
          refine Ec.drawn2 (by kernel_rfl) ?_
          refine Eo.val (x := a1) rfl rfl rfl rfl ?_
          refine Eo.val (x := (.v (.int .i64 y31))) rfl rfl rfl rfl ?_
          obtain ⟨x67, hvx67, H⟩ := bind_some H
          refine Eo.idx h2 hvx67 rfl rfl rfl Tryd.underlying31 rfl rfl rfl rfl ?_
          rintro cs68 p69 _ hat70 rfl
          refine Eo.val (x := (.agg [(.v (.int .i64 x67.f_Kind)), (.v (.string x67.f_Text))])) (op_loadSpAgg hat70 0 rfl rfl rfl rfl rfl rfl) rfl rfl rfl ?_
          refine Eo.val (x := a3) rfl rfl rfl rfl ?_
          refine Eo.val (x := (.v (.int .i64 y31))) rfl rfl rfl rfl ?_
          obtain ⟨x71, hvx71, H⟩ := bind_some H
          refine Eo.idx h4 hvx71 rfl rfl rfl Tryd.underlying31 rfl rfl rfl rfl ?_
          rintro cs72 p73 _ hat74 rfl
          refine Eo.val (x := (.agg [(.v (.int .i64 x71.f_Kind)), (.v (.string x71.f_Text))])) (op_loadSpAgg hat74 0 rfl rfl rfl rfl rfl rfl) rfl rfl rfl ?_
          refine Eo.val (x := (.v (.bool (!((x67.f_Kind == x71.f_Kind) && ((decide (x67.f_Text = x71.f_Text)) && true)))))) (op_neSt rfl rfl rfl rfl rfl Tryd.underlying48 (by kernel_rfl) (by kernel_rfl) (fun d => (det_eqF_cons rfl rfl rfl (det_eqI Tryd.underlying3) (det_eqF_cons rfl rfl rfl (det_eqS Tryd.underlying9) det_eqF_nil)))) rfl rfl rfl ?_
          refine Eo.nil ?_
          obtain rfl := Option.some.inj H
          exact And.intro rfl (And.intro rfl ⟨hp0, (.cons rfl (.cons rfl (.cons rfl (.cons rfl (.cons rfl (.nil'))))))⟩)
        · skip
          intro x φ77 σ76 hJ
          obtain ⟨rfl, hp75, hf78⟩ := hJ
          refine Ec.of (F := [(0, a1), (1, a3), (12, (.v (.int .i64 ((p0.length : Nat) : Int)))), (13, (.v (.int .i64 y31))), (24, (.v (.bool x66)))]) hf78 ?_
          refine Ec.cond (t := x66) rfl (fun hc79 => ?_) (fun hc79 => ?_)
          · have H := cond_t hc79 H
            refine Ec.seq ?_
            refine Ec.region ?_
            refine Eo.val (x := (.v (.bool false))) rfl rfl rfl rfl ?_
            refine Eo.nil ?_
            obtain rfl := Option.some.inj H
            refine Ec.ret ?_
            refine And.intro rfl (Ret.mk rfl ?_)
            exact ⟨rfl, hp75⟩
          · have H := cond_f hc79 H
            refine Ec.skip ?_
            refine Ec.region ?_
            refine Eo.val (x := (.v (.int .i64 (IntKind.wrap .i64 (y31 + 1))))) rfl rfl rfl rfl ?_
            refine Eo.val (x := (.v (.int .i64 (IntKind.wrap .i64 (y31 + 1))))) rfl rfl rfl rfl ?_
            refine Eo.nil ?_
            exact Ec.of (.cons rfl (.cons rfl (.cons rfl (.cons rfl (.nil'))))) (ih ((IntKind.wrap .i64 (y31 + 1)), ()) _ hp75 H)
      · have H := cond_f hc57 H
        refine Ec.exit ?_
        obtain rfl := Option.some.inj H
        exact And.intro rfl ⟨hp0, (.nil')⟩
    · rcases v82 with _ | r88
      · intro x φ86 σ85 hJ
        obtain ⟨rfl, hp84, hf87⟩ := hJ
        refine Ec.of (F := []) hf87 ?_
        refine Ec.seq ?_
        refine Ec.region ?_
        refine Eo.val (x := (.v (.bool true))) rfl rfl rfl rfl ?_
        refine Eo.nil ?_
        obtain rfl := Option.some.inj H
        refine Ec.ret ?_
        refine Ret.mk rfl ?_
        exact ⟨rfl, hp84⟩
      · intro x φ89 σ90 hJ
        obtain rfl := Option.some.inj H
        obtain ⟨rfl, hr⟩ := hJ
        exact hr

def gdovetailref13_Same_L1 (N : Nat) (p0 : (List TLine)) (p1 : (List TLine)) : Nat → Int → Option (LR Unit Bool)
  | 0, _ => none
  | m + 1, y127 => (cond (decide (y127 < ((p0.length : Nat) : Int))) (((((atL p0 y127).bind fun x307 => ((atL p1 y127).bind fun x315 => (cond (x307.f_No != x315.f_No) (some true) (((atL p0 y127).bind fun x324 => ((atL p1 y127).bind fun x332 => ((gdovetailref13_SameTexts N x324.f_Labels x332.f_Labels).bind fun r340 => (cond (!r340) (some true) (((atL p0 y127).bind fun x344 => ((atL p1 y127).bind fun x352 => ((gdovetailref13_SameToks N x344.f_Toks x352.f_Toks).bind fun r360 => some (!r360))))))))))))) : Option (Bool)).bind fun x306 => (cond x306 (some (.ret false)) (gdovetailref13_Same_L1 N p0 p1 m (IntKind.wrap .i64 (y127 + 1)))))) (some (.out ())))

def gdovetailref13_Same (n : Nat) (p0 : (List TLine)) (p1 : (List TLine)) : Option (Bool) := (cond (((p0.length : Nat) : Int) != ((p1.length : Nat) : Int)) (some false) (((gdovetailref13_Same_L1 n p0 p1 n 0).bind fun v => match v with | .out _ => some true | .ret r376 => some r376)))

def gdovetailref13_Same_post (R : List Res) (r : Bool) (x : A) (s : St) : Prop := x = (.v (.bool r)) ∧ Hp s (R)

theorem gdovetailref13_Same_ok {n : Nat} {p0 : (List TLine)} {p1 : (List TLine)} {a1 a3 : A} {R : List Res} {σ : St} (h2 : Sl rTLine a1 p0) (h4 : Sl rTLine a3 p1) (hp : Hp σ R) {r : Bool} (H : gdovetailref13_Same n p0 p1 = some r) : Ca cfg 11 [a1, a3] σ (gdovetailref13_Same_post R r) := by
  unfold gdovetailref13_Same at H
  refine Ca.enterL (G := [(0, a1), (1, a3)]) Tryd.func11 rfl rfl rfl rfl ?_
  refine Ec.seq ?_
  refine Ec.region ?_
  refine Eo.val (x := (.v (.bool false))) rfl rfl rfl rfl ?_
  refine Eo.nil ?_
  refine Ec.seq ?_
  refine Ec.seq ?_
  refine Ec.region ?_
  refine Eo.val (x := a1) rfl rfl rfl rfl ?_
  refine Eo.val (x := (.v (.int .i64 ((p0.length : Nat) : Int)))) (op_lenL h2 rfl rfl rfl rfl rfl Tryd.underlying23) rfl rfl rfl ?_
  refine Eo.val (x := a3) rfl rfl rfl rfl ?_
  refine Eo.val (x := (.v (.int .i64 ((p1.length : Nat) : Int)))) (op_lenL h4 rfl rfl rfl rfl rfl Tryd.underlying23) rfl rfl rfl ?_
  refine Eo.val (x := (.v (.bool (((p0.length : Nat) : Int) != ((p1.length : Nat) : Int))))) rfl rfl rfl rfl ?_
  refine Eo.nil ?_
  refine Ec.cond (t := (((p0.length : Nat) : Int) != ((p1.length : Nat) : Int))) rfl (fun hc5 => ?_) (fun hc5 => ?_)
  · have H := cond_t hc5 H
    refine Ec.seq ?_
    refine Ec.region ?_
    refine Eo.val (x := (.v (.bool false))) rfl rfl rfl rfl ?_
    refine Eo.nil ?_
    obtain rfl := Option.some.inj H
    refine Ec.ret ?_
    refine Ret.mk rfl ?_
    exact ⟨rfl, hp⟩
  · have H := cond_f hc5 H
    refine Ec.skip ?_
    refine Ec.seq ?_
    refine Ec.seq ?_
    refine Ec.region ?_
    refine Eo.val (x := a1) rfl rfl rfl rfl ?_
    refine Eo.val (x := (.v (.int .i64 ((p0.length : Nat) : Int)))) (op_lenL h2 rfl rfl rfl rfl rfl Tryd.underlying23) rfl rfl rfl ?_
    refine Eo.val (x := (.v (.int .i64 0))) rfl rfl rfl rfl ?_
    refine Eo.nil ?_
    refine Ec.block ?_
    obtain ⟨v370, hv371, H⟩ := bind_some H
    refine Ec.cut (J := (fun (v : LR Unit Bool) (x : X) (φ : Fr) (s : St) => match v with | .out _ => x = (.exit 0) ∧ (Hp s (R) ∧ Fl [] φ) | .ret r => x = .ret ∧ Ret cfg Tryd.f11 (gdovetailref13_Same_post R r) .ret φ s) v370) (Ec.weak (.cons rfl (.cons rfl (.cons rfl (.cons rfl (.nil'))))) (Ec.loopF (f := (fun m (i : Int × Unit) => gdovetailref13_Same_L1 n p0 p1 m i.1)) (G := (fun (i : Int × Unit) => ([(0, a1), (1, a3), (12, (.v (.int .i64 ((p0.length : Nat) : Int)))), (13, (.v (.int .i64 i.1)))] : List (Nat × A)))) (I := (fun (i : Int × Unit) (s : St) => Hp s (R))) (J := (fun (v : LR Unit Bool) (x : X) (φ : Fr) (s : St) => match v with | .out _ => x = (.exit 0) ∧ (Hp s (R) ∧ Fl [] φ) | .ret r => x = .ret ∧ Ret cfg Tryd.f11 (gdovetailref13_Same_post R r) .ret φ s)) (fun _ => rfl) ?_ n (0, ()) _ v370 hp hv371)) ?_
    · rintro m ⟨y127, _⟩ σ0 v hp0 H ih
      change gdovetailref13_Same_L1 n p0 p1 (m + 1) y127 = some v at H
      rw [gdovetailref13_Same_L1] at H
      change Ec _ _ _ [(0, a1), (1, a3), (12, (.v (.int .i64 ((p0.length : Nat) : Int)))), (13, (.v (.int .i64 y127)))] σ0 _
      refine Ec.seq ?_
      refine Ec.region ?_
      refine Eo.val (x := (.v (.bool (decide (y127 < ((p0.length : Nat) : Int)))))) rfl rfl rfl rfl ?_
      refine Eo.nil ?_
      refine Ec.seq ?_
      refine Ec.cond (t := (decide (y127 < ((p0.length : Nat) : Int)))) rfl (fun hc249 => ?_) (fun hc249 => ?_)
      · have H := cond_t hc249 H
        refine Ec.skip ?_
        refine Ec.seq ?_
        refine Ec.block ?_
        refine Ec.seq ?_
        refine Ec.region ?_
        refine Eo.val (x := (.v (.int .i64 y127))) rfl rfl rfl rfl ?_
        refine Eo.val (x := (.v (.int .i64 y127))) rfl rfl rfl rfl ?_
        refine Eo.nil ?_
        refine Ec.seq ?_
        obtain ⟨x306, hv369, H⟩ := bind_some H
        refine Ec.cut (J := (fun (x306 : Bool) (x : X) (φ : Fr) (s : St) => x = .normal ∧ (Hp s (R) ∧ Fl [(0, a1), (1, a3), (12, (.v (.int .i64 ((p0.length : Nat) : Int)))), (13, (.v (.int .i64 y127))), (54, (.v (.bool x306)))] φ)) x306) ?_ ?_
        · have H := hv369
          refine Ec.drawn2 (by kernel_rfl) ?_
          refine Eo.val (x := a1) rfl rfl rfl rfl ?_
          refine Eo.val (x := (.v (.int .i64 y127))) rfl rfl rfl rfl ?_
          obtain ⟨x307, hvx307, H⟩ := bind_some H
          refine Eo.idx h2 hvx307 rfl rfl rfl Tryd.underlying23 rfl rfl rfl rfl ?_
          rintro cs308 p309 _ hat310 ⟨a311, a313, rfl, h312, h314⟩
          refine Eo.val (x := (.sp cs308 p309 .no)) rfl rfl rfl rfl ?_
          refine Eo.val (x := (.v (.int .i64 x307.f_No))) (op_loadSp hat310 0 rfl rfl rfl rfl rfl) rfl rfl rfl ?_
          refine Eo.val (x := a3) rfl rfl rfl rfl ?_
          refine Eo.val (x := (.v (.int .i64 y127))) rfl rfl rfl rfl ?_
          obtain ⟨x315, hvx315, H⟩ := bind_some H
          refine Eo.idx h4 hvx315 rfl rfl rfl Tryd.underlying23 rfl rfl rfl rfl ?_
          rintro cs316 p317 _ hat318 ⟨a319, a321, rfl, h320, h322⟩
          refine Eo.val (x := (.sp cs316 p317 .no)) rfl rfl rfl rfl ?_
          refine Eo.val (x := (.v (.int .i64 x315.f_No))) (op_loadSp hat318 0 rfl rfl rfl rfl rfl) rfl rfl rfl ?_
          refine Eo.val (x := (.v (.bool (x307.f_No != x315.f_No)))) rfl rfl rfl rfl ?_
          refine Eo.val (x := (.v (.bool (x307.f_No != x315.f_No)))) rfl rfl rfl rfl ?_
          cases hc323 : (x307.f_No != x315.f_No)
          · have H := cond_f hc323 H
            refine Eo.val (x := a1) rfl rfl rfl rfl ?_
            refine Eo.val (x := (.v (.int .i64 y127))) rfl rfl rfl rfl ?_
            obtain ⟨x324, hvx324, H⟩ := bind_some H
            refine Eo.idx h2 hvx324 rfl rfl rfl Tryd.underlying23 rfl rfl rfl rfl ?_
            rintro cs325 p326 _ hat327 ⟨a328, a330, rfl, h329, h331⟩
            refine Eo.val (x := (.sp cs325 (p326 + 1) .no)) rfl rfl rfl rfl ?_
            refine Eo.val (x := a328) (op_loadSp hat327 1 rfl rfl rfl rfl rfl) rfl rfl rfl ?_
            refine Eo.val (x := a3) rfl rfl rfl rfl ?_
            refine Eo.val (x := (.v (.int .i64 y127))) rfl rfl rfl rfl ?_
            obtain ⟨x332, hvx332, H⟩ := bind_some H
            refine Eo.idx h4 hvx332 rfl rfl rfl Tryd.underlying23 rfl rfl rfl rfl ?_
            rintro cs333 p334 _ hat335 ⟨a336, a338, rfl, h337, h339⟩
            refine Eo.val (x := (.sp cs333 (p334 + 1) .no)) rfl rfl rfl rfl ?_
            refine Eo.val (x := a336) (op_loadSp hat335 1 rfl rfl rfl rfl rfl) rfl rfl rfl ?_
            obtain ⟨r340, hvr340, H⟩ := bind_some H
            refine Eo.call rfl rfl rfl rfl (gdovetailref13_SameTexts_ok h329 h337 hp0 hvr340) ?_
            rintro _ σ342 ⟨rfl, hp341⟩
            refine Eo.val (x := (.v (.bool (!r340)))) rfl rfl rfl rfl ?_
            refine Eo.val (x := (.v (.bool (!r340)))) rfl rfl rfl rfl ?_
            refine Eo.val (x := (.v (.bool (!r340)))) rfl rfl rfl rfl ?_
            cases hc343 : (!r340)
            · have H := cond_f hc343 H
              refine Eo.val (x := a1) rfl rfl rfl rfl ?_
              refine Eo.val (x := (.v (.int .i64 y127))) rfl rfl rfl rfl ?_
              obtain ⟨x344, hvx344, H⟩ := bind_some H
              refine Eo.idx h2 hvx344 rfl rfl rfl Tryd.underlying23 rfl rfl rfl rfl ?_
              rintro cs345 p346 _ hat347 ⟨a348, a350, rfl, h349, h351⟩
              refine Eo.val (x := (.sp cs345 (p346 + 2) .no)) rfl rfl rfl rfl ?_
              refine Eo.val (x := a350) (op_loadSp hat347 2 rfl rfl rfl rfl rfl) rfl rfl rfl ?_
              refine Eo.val (x := a3) rfl rfl rfl rfl ?_
              refine Eo.val (x := (.v (.int .i64 y127))) rfl rfl rfl rfl ?_
              obtain ⟨x352, hvx352, H⟩ := bind_some H
              refine Eo.idx h4 hvx352 rfl rfl rfl Tryd.underlying23 rfl rfl rfl rfl ?_
              rintro cs353 p354 _ hat355 ⟨a356, a358, rfl, h357, h359⟩
              refine Eo.val (x := (.sp cs353 (p354 + 2) .no)) rfl rfl rfl rfl ?_
              refine Eo.val (x := a358) (op_loadSp hat355 2 rfl rfl rfl rfl rfl) rfl rfl rfl ?_
              obtain ⟨r360, hvr360, H⟩ := bind_some H
              refine Eo.call rfl rfl rfl rfl (gdovetailref13_SameToks_ok h351 h359 hp341 hvr360) ?_
              rintro _ σ362 ⟨rfl, hp361⟩
              refine Eo.val (x := (.v (.bool (!r360)))) rfl rfl rfl rfl ?_
              refine Eo.val (x := (.v (.bool (!r360)))) rfl rfl rfl rfl ?_
              refine Eo.nil ?_
              obtain rfl := Option.some.inj H
              exact And.intro rfl (And.intro rfl ⟨hp361, (.cons rfl (.cons rfl (.cons rfl (.cons rfl (.cons rfl (.nil'))))))⟩)
            · have H := cond_t hc343 H
              refine Eo.off rfl rfl rfl ?_
              refine Eo.off rfl rfl rfl ?_
              refine Eo.off rfl rfl rfl ?_
              refine Eo.off rfl rfl rfl ?_
              refine Eo.off rfl rfl rfl ?_
              refine Eo.off rfl rfl rfl ?_
              refine Eo.off rfl rfl rfl ?_
              refine Eo.off rfl rfl rfl ?_
              refine Eo.off rfl rfl rfl ?_
              refine Eo.off rfl rfl rfl ?_
              refine Eo.off rfl rfl rfl ?_
              refine Eo.off rfl rfl rfl ?_
              refine Eo.val (x := (.v (.bool true))) rfl rfl rfl rfl ?_
              refine Eo.nil ?_
              obtain rfl := Option.some.inj H
              exact And.intro rfl (And.intro rfl ⟨hp341, (.cons rfl (.cons rfl (.cons rfl (.cons rfl (.cons rfl (.nil'))))))⟩)
          · have H := cond_t hc323 H
            refine Eo.off rfl rfl rfl ?_
            refine Eo.off rfl rfl rfl ?_
            refine Eo.off rfl rfl rfl ?_
            refine Eo.off rfl rfl rfl ?_
            refine Eo.off rfl rfl rfl ?_
            refine Eo.off rfl rfl rfl ?_
            refine Eo.off rfl rfl rfl ?_
            refine Eo.off rfl rfl rfl ?_
            refine Eo.off rfl rfl rfl ?_
            refine Eo.off rfl rfl rfl ?_
            refine Eo.off rfl rfl rfl ?_
            refine Eo.off rfl rfl rfl ?_
            refine Eo.val (x := (.v (.bool true))) rfl rfl rfl rfl ?_
            refine Eo.val (x := (.v (.bool true))) rfl rfl rfl rfl ?_
            refine Eo.off rfl rfl rfl ?_
            refine Eo.off rfl rfl rfl ?_
            refine Eo.off rfl rfl rfl ?_
            refine Eo.off rfl rfl rfl ?_
            refine Eo.off rfl rfl rfl ?_
            refine Eo.off rfl rfl rfl ?_
            refine Eo.off rfl rfl rfl ?_
            refine Eo.off rfl rfl rfl ?_
            refine Eo.off rfl rfl rfl ?_
            refine Eo.off rfl rfl rfl ?_
            refine Eo.off rfl rfl rfl ?_
            refine Eo.off rfl rfl rfl ?_
            refine Eo.val (x := (.v (.bool true))) rfl rfl rfl rfl ?_
            refine Eo.nil ?_
            obtain rfl := Option.some.inj H
            exact And.intro rfl (And.intro rfl ⟨hp0, (.cons rfl (.cons rfl (.cons rfl (.cons rfl (.cons rfl (.nil'))))))⟩)
        · skip
          intro x φ365 σ364 hJ
          obtain ⟨rfl, hp363, hf366⟩ := hJ
          refine Ec.of (F := [(0, a1), (1, a3), (12, (.v (.int .i64 ((p0.length : Nat) : Int)))), (13, (.v (.int .i64 y127))), (54, (.v (.bool x306)))]) hf366 ?_
          refine Ec.cond (t := x306) rfl (fun hc367 => ?_) (fun hc367 => ?_)
          · have H := cond_t hc367 H
            refine Ec.seq ?_
            refine Ec.region ?_
            refine Eo.val (x := (.v (.bool false))) rfl rfl rfl rfl ?_
            refine Eo.nil ?_
            obtain rfl := Option.some.inj H
            refine Ec.ret ?_
            refine And.intro rfl (Ret.mk rfl ?_)
            exact ⟨rfl, hp363⟩
          · have H := cond_f hc367 H
            refine Ec.skip ?_
            refine Ec.region ?_
            refine Eo.val (x := (.v (.int .i64 (IntKind.wrap .i64 (y127 + 1))))) rfl rfl rfl rfl ?_
            refine Eo.val (x := (.v (.int .i64 (IntKind.wrap .i64 (y127 + 1))))) rfl rfl rfl rfl ?_
            refine Eo.nil ?_
            exact Ec.of (.cons rfl (.cons rfl (.cons rfl (.cons rfl (.nil'))))) (ih ((IntKind.wrap .i64 (y127 + 1)), ()) _ hp363 H)
      · have H := cond_f hc249 H
        refine Ec.exit ?_
        obtain rfl := Option.some.inj H
        exact And.intro rfl ⟨hp0, (.nil')⟩
    · rcases v370 with _ | r376
      · intro x φ374 σ373 hJ
        obtain ⟨rfl, hp372, hf375⟩ := hJ
        refine Ec.of (F := []) hf375 ?_
        refine Ec.seq ?_
        refine Ec.region ?_
        refine Eo.val (x := (.v (.bool true))) rfl rfl rfl rfl ?_
        refine Eo.nil ?_
        obtain rfl := Option.some.inj H
        refine Ec.ret ?_
        refine Ret.mk rfl ?_
        exact ⟨rfl, hp372⟩
      · intro x φ377 σ378 hJ
        obtain rfl := Option.some.inj H
        obtain ⟨rfl, hr⟩ := hJ
        exact hr

def gdovetaillaw13_AsmtextParses (n : Nat) (p0 : ByteArray) : Option (Bool) := ((gdovetaillaw13_asmtextAlive n ).bind fun r1 => (cond (!r1) (some false) (((gdovetailref13_Parse n p0).bind fun v => match v with | (r6, r7, r8) => ((gasmtext_Parse n p0).bind fun v => match v with | (r14, r15, r16) => (((cond ((r16 == r8) && (r15 == r7)) (((gdovetailref13_Same n r14 r6).bind fun r32 => some r32)) (some false)) : Option (Bool)).bind fun x30 => some x30))))))

def gdovetaillaw13_AsmtextParses_post (R : List Res) (r : Bool) (x : A) (s : St) : Prop := x = (.v (.bool r)) ∧ Hp s (R)

theorem gdovetaillaw13_AsmtextParses_ok {n : Nat} {p0 : ByteArray} {R : List Res} {σ : St} (hp : Hp σ R) {r : Bool} (H : gdovetaillaw13_AsmtextParses n p0 = some r) : Ca cfg 4 [(.v (.string p0))] σ (gdovetaillaw13_AsmtextParses_post R r) := by
  unfold gdovetaillaw13_AsmtextParses at H
  refine Ca.enterL (G := [(0, (.v (.string p0)))]) Tryd.func4 rfl rfl rfl rfl ?_
  refine Ec.seq ?_
  refine Ec.region ?_
  refine Eo.val (x := (.v (.bool false))) rfl rfl rfl rfl ?_
  refine Eo.nil ?_
  refine Ec.seq ?_
  refine Ec.seq ?_
  refine Ec.region ?_
  obtain ⟨r1, hvr1, H⟩ := bind_some H
  refine Eo.call rfl rfl rfl rfl (gdovetaillaw13_asmtextAlive_ok hp hvr1) ?_
  rintro _ σ3 ⟨rfl, hp2⟩
  refine Eo.val (x := (.v (.bool (!r1)))) rfl rfl rfl rfl ?_
  refine Eo.nil ?_
  refine Ec.cond (t := (!r1)) rfl (fun hc4 => ?_) (fun hc4 => ?_)
  · have H := cond_t hc4 H
    refine Ec.seq ?_
    refine Ec.region ?_
    refine Eo.val (x := (.v (.bool false))) rfl rfl rfl rfl ?_
    refine Eo.nil ?_
    obtain rfl := Option.some.inj H
    refine Ec.ret ?_
    refine Ret.mk rfl ?_
    exact ⟨rfl, hp2⟩
  · have H := cond_f hc4 H
    refine Ec.skip ?_
    refine Ec.seq ?_
    refine Ec.region ?_
    refine Eo.val (x := (.v (.string p0))) rfl rfl rfl rfl ?_
    obtain ⟨r5, hvr5, H⟩ := bind_some H
    refine Eo.call rfl rfl rfl rfl (gdovetailref13_Parse_ok hp2 hvr5) ?_
    obtain ⟨r6, r7, r8⟩ := r5
    rintro _ σ12 ⟨a9, rfl, h10, hp11⟩
    change Hp σ12 (.app a9 46 :: R) at hp11
    refine Eo.val (x := (.tup [a9, (.v (.int .i64 r7)), (.v (.int .i64 r8))])) rfl rfl rfl rfl ?_
    refine Eo.val (x := a9) rfl rfl rfl rfl ?_
    refine Eo.val (x := (.v (.int .i64 r7))) rfl rfl rfl rfl ?_
    refine Eo.val (x := (.v (.int .i64 r8))) rfl rfl rfl rfl ?_
    refine Eo.val (x := a9) rfl rfl rfl rfl ?_
    refine Eo.val (x := (.v (.int .i64 r7))) rfl rfl rfl rfl ?_
    refine Eo.val (x := (.v (.int .i64 r8))) rfl rfl rfl rfl ?_
    refine Eo.nil ?_
    refine Ec.seq ?_
    refine Ec.region ?_
    refine Eo.val (x := (.v (.string p0))) rfl rfl rfl rfl ?_
    obtain ⟨r13, hvr13, H⟩ := bind_some H
    refine Eo.call rfl rfl rfl rfl (gasmtext_Parse_ok hp11 hvr13) ?_
    obtain ⟨r14, r15, r16⟩ := r13
    rintro _ σ20 ⟨a17, rfl, h18, hp19⟩
    change Hp σ20 (.app a17 46 :: .app a9 46 :: R) at hp19
    refine Eo.val (x := (.tup [a17, (.v (.int .i64 r15)), (.v (.int .i64 r16))])) rfl rfl rfl rfl ?_
    refine Eo.val (x := a17) rfl rfl rfl rfl ?_
    refine Eo.val (x := (.v (.int .i64 r15))) rfl rfl rfl rfl ?_
    refine Eo.val (x := (.v (.int .i64 r16))) rfl rfl rfl rfl ?_
    refine Eo.val (x := a17) rfl rfl rfl rfl ?_
    refine Eo.val (x := (.v (.int .i64 r15))) rfl rfl rfl rfl ?_
    refine Eo.val (x := (.v (.int .i64 r16))) rfl rfl rfl rfl ?_
    refine Eo.nil ?_
    refine Ec.seq ?_
    refine Ec.region ?_
    refine Eo.val (x := (.v (.int .i64 r16))) rfl rfl rfl rfl ?_
    refine Eo.val (x := (.v (.int .i64 r8))) rfl rfl rfl rfl ?_
    refine Eo.val (x := (.v (.bool (r16 == r8)))) rfl rfl rfl rfl ?_
    refine Eo.val (x := (.v (.bool (r16 == r8)))) rfl rfl rfl rfl ?_
    refine Eo.cutF 4 [(2, (.v (.bool false))), (3, a9), (6, a17), (30, (.v (.bool ((r16 == r8) && (r15 == r7)))))] ?_ ?_
    · skip
      cases hc23 : (r16 == r8)
      · skip
        refine Eo.off rfl rfl rfl ?_
        refine Eo.off rfl rfl rfl ?_
        refine Eo.off rfl rfl rfl ?_
        refine Eo.val (x := (.v (.bool false))) rfl rfl rfl rfl ?_
        exact Eo.nil (And.intro rfl (And.intro rfl (.cons rfl (.cons rfl (.cons rfl (.cons rfl (.nil')))))))
      · skip
        refine Eo.val (x := (.v (.int .i64 r15))) rfl rfl rfl rfl ?_
        refine Eo.val (x := (.v (.int .i64 r7))) rfl rfl rfl rfl ?_
        refine Eo.val (x := (.v (.bool (r15 == r7)))) rfl rfl rfl rfl ?_
        refine Eo.val (x := (.v (.bool (r15 == r7)))) rfl rfl rfl rfl ?_
        exact Eo.nil (And.intro rfl (And.intro rfl (.cons rfl (.cons rfl (.cons rfl (.cons rfl (.nil')))))))
    · skip
      refine Eo.val (x := (.v (.bool ((r16 == r8) && (r15 == r7))))) rfl rfl rfl rfl ?_
      obtain ⟨x30, hv40, H⟩ := bind_some H
      refine Eo.cutN 4 (J := (fun (x30 : Bool) (x : X) (φ : Fr) (s : St) => x = .normal ∧ (Hp s (R) ∧ Fl [(2, (.v (.bool false))), (35, (.v (.bool x30)))] φ)) x30) ?_ ?_
      · have H := hv40
        cases hc31 : ((r16 == r8) && (r15 == r7))
        · have H := cond_f hc31 H
          refine Eo.off rfl rfl rfl ?_
          refine Eo.off rfl rfl rfl ?_
          refine Eo.off rfl rfl rfl ?_
          refine Eo.val (x := (.v (.bool false))) rfl rfl rfl rfl ?_
          refine Eo.nil ?_
          obtain rfl := Option.some.inj H
          exact And.intro rfl ⟨(Hp.drop (Hp.drop hp19 0) 0), (.cons rfl (.cons rfl (.nil')))⟩
        · have H := cond_t hc31 H
          refine Eo.val (x := a17) rfl rfl rfl rfl ?_
          refine Eo.val (x := a9) rfl rfl rfl rfl ?_
          obtain ⟨r32, hvr32, H⟩ := bind_some H
          refine Eo.call rfl rfl rfl rfl (gdovetailref13_Same_ok h18 h10 hp19 hvr32) ?_
          rintro _ σ34 ⟨rfl, hp33⟩
          refine Eo.val (x := (.v (.bool r32))) rfl rfl rfl rfl ?_
          refine Eo.nil ?_
          obtain rfl := Option.some.inj H
          exact And.intro rfl ⟨(Hp.drop (Hp.drop hp33 0) 0), (.cons rfl (.cons rfl (.nil')))⟩
      · skip
        intro x φ37 σ36 hJ
        obtain ⟨rfl, hp35, hf38⟩ := hJ
        refine ⟨rfl, Eo.of (F := [(2, (.v (.bool false))), (35, (.v (.bool x30)))]) hf38 ?_⟩
        refine Eo.val (x := (.v (.bool x30))) rfl rfl rfl rfl ?_
        refine Eo.nil ?_
        obtain rfl := Option.some.inj H
        refine Ec.ret ?_
        refine Ret.mk rfl ?_
        exact ⟨rfl, hp35⟩

def gasmtext_quote_L1 (N : Nat) (p0 : ByteArray) : Nat → Int → (List Int) → Option ((List Int))
  | 0, _, _ => none
  | m + 1, y140, y144 => (cond (decide (y140 < ((p0.size : Nat) : Int))) (((((atS p0 y140).bind fun b347 => (cond ((((decide (b347 < 32)) || (decide (b347 > 126))) || (b347 == 34)) || (b347 == 92)) (((((subS (ByteArray.mk #[48, 49, 50, 51, 52, 53, 54, 55, 56, 57, 97, 98, 99, 100, 101, 102]) (Int.fdiv b347 (2 ^ 4)) (IntKind.wrap .u8 ((Int.fdiv b347 (2 ^ 4)) + 1))).bind fun s381 => ((catS (ByteArray.mk #[92, 120]) s381).bind fun s382 => ((subS (ByteArray.mk #[48, 49, 50, 51, 52, 53, 54, 55, 56, 57, 97, 98, 99, 100, 101, 102]) (IntKind.wrap .u8 ((BitVec.ofInt 8 b347 &&& BitVec.ofInt 8 15).toNat : Nat)) (IntKind.wrap .u8 ((IntKind.wrap .u8 ((BitVec.ofInt 8 b347 &&& BitVec.ofInt 8 15).toNat : Nat)) + 1))).bind fun s383 => ((catS s382 s383).bind fun s384 => ((appL 1 y144 (bs s384)).bind fun l385 => some l385))))) : Option ((List Int))).bind fun x378 => some x378)) (((appL 1 y144 ([b347] : List Int)).bind fun l398 => some l398)))) : Option ((List Int))).bind fun x344 => gasmtext_quote_L1 N p0 m (IntKind.wrap .i64 (y140 + 1)) x344)) (some y144))

def gasmtext_quote (n : Nat) (p0 : ByteArray) : Option (ByteArray) := ((appL 1 ([] : List Int) ([34] : List Int)).bind fun l4 => ((gasmtext_quote_L1 n p0 n 0 l4).bind fun x279 => ((appL 1 x279 ([34] : List Int)).bind fun l417 => ((strT l417).bind fun s424 => some s424))))

def gasmtext_quote_post (R : List Res) (r : ByteArray) (x : A) (s : St) : Prop := x = (.v (.string r)) ∧ Hp s (R)

theorem gasmtext_quote_ok {n : Nat} {p0 : ByteArray} {R : List Res} {σ : St} (hp : Hp σ R) {r : ByteArray} (H : gasmtext_quote n p0 = some r) : Ca cfg 31 [(.v (.string p0))] σ (gasmtext_quote_post R r) := by
  unfold gasmtext_quote at H
  refine Ca.enterL (G := [(0, (.v (.string p0)))]) Tryd.func31 rfl rfl rfl rfl ?_
  refine Ec.seq ?_
  refine Ec.region ?_
  refine Eo.val (x := (.v (.string (ByteArray.mk #[])))) rfl rfl rfl rfl ?_
  refine Eo.nil ?_
  refine Ec.seq ?_
  refine Ec.region ?_
  refine Eo.alloc (z := [(.v (.pointer none)), nilS]) hp rfl rfl rfl rfl rfl ?_
  intro b1 σ3 hp2
  refine Eo.nil ?_
  refine Ec.seq ?_
  refine Ec.region ?_
  obtain ⟨l4, hvl4, H⟩ := bind_some H
  refine Eo.call rfl rfl rfl rfl (bld_WriteByte (.inl rfl) BufIs.nil (Hp.front (Hp.appNil hp2 5) 1) hvl4) ?_
  rintro _ σ10 ⟨a5, a6, rfl, h7, h8, hp9⟩
  change Hp σ10 (.blk b1 (.cells [a5, a6] 67) :: .app a6 5 :: R) at hp9
  refine Eo.nil ?_
  refine Ec.seq ?_
  refine Ec.seq ?_
  refine Ec.region ?_
  refine Eo.val (x := (.v (.string p0))) rfl rfl rfl rfl ?_
  refine Eo.val (x := (.v (.int .i64 ((p0.size : Nat) : Int)))) (op_len rfl rfl rfl rfl rfl Tryd.underlying9) rfl rfl rfl ?_
  refine Eo.val (x := (.v (.int .i64 0))) rfl rfl rfl rfl ?_
  refine Eo.nil ?_
  refine Ec.block ?_
  obtain ⟨x279, hv412, H⟩ := bind_some H
  refine Ec.cut (J := (fun (x279 : (List Int)) (x : X) (φ : Fr) (s : St) => x = (.exit 0) ∧ (∃ (a277 a280 : A), AddrOk a277 b1 ∧ BufIs a280 x279 ∧ Hp s (.blk b1 (.cells [a277, a280] 67) :: .app a280 5 :: R) ∧ Fl [(3, (.ptr b1 0))] φ)) x279) (Ec.weak (.cons rfl (.cons rfl (.cons rfl (.cons rfl (.nil'))))) (Ec.loopF (f := (fun m (i : (Int × (List Int)) × (A × A)) => gasmtext_quote_L1 n p0 m i.1.1 i.1.2)) (G := (fun (i : (Int × (List Int)) × (A × A)) => ([(0, (.v (.string p0))), (3, (.ptr b1 0)), (8, (.v (.int .i64 ((p0.size : Nat) : Int)))), (9, (.v (.int .i64 i.1.1)))] : List (Nat × A)))) (I := (fun (i : (Int × (List Int)) × (A × A)) (s : St) => AddrOk i.2.1 b1 ∧ BufIs i.2.2 i.1.2 ∧ Hp s (.blk b1 (.cells [i.2.1, i.2.2] 67) :: .app i.2.2 5 :: R))) (J := (fun (x279 : (List Int)) (x : X) (φ : Fr) (s : St) => x = (.exit 0) ∧ (∃ (a277 a280 : A), AddrOk a277 b1 ∧ BufIs a280 x279 ∧ Hp s (.blk b1 (.cells [a277, a280] 67) :: .app a280 5 :: R) ∧ Fl [(3, (.ptr b1 0))] φ))) (fun _ => rfl) ?_ n ((0, l4), (a5, a6)) _ x279 ⟨h7, h8, (Hp.front (Hp.front hp9 1) 1)⟩ hv412)) ?_
  · rintro m ⟨⟨y140, y144⟩, ⟨a142, a145⟩⟩ σ0 v ⟨h143, h146, hp0⟩ H ih
    change gasmtext_quote_L1 n p0 (m + 1) y140 y144 = some v at H
    rw [gasmtext_quote_L1] at H
    change Ec _ _ _ [(0, (.v (.string p0))), (3, (.ptr b1 0)), (8, (.v (.int .i64 ((p0.size : Nat) : Int)))), (9, (.v (.int .i64 y140)))] σ0 _
    refine Ec.seq ?_
    refine Ec.region ?_
    refine Eo.val (x := (.v (.bool (decide (y140 < ((p0.size : Nat) : Int)))))) rfl rfl rfl rfl ?_
    refine Eo.nil ?_
    refine Ec.seq ?_
    refine Ec.cond (t := (decide (y140 < ((p0.size : Nat) : Int)))) rfl (fun hc282 => ?_) (fun hc282 => ?_)
    · have H := cond_t hc282 H
      refine Ec.skip ?_
      refine Ec.seq ?_
      obtain ⟨x344, hv410, H⟩ := bind_some H
      refine Ec.cut (J := (fun (x344 : (List Int)) (x : X) (φ : Fr) (s : St) => x = .normal ∧ (∃ (a342 a345 : A), AddrOk a342 b1 ∧ BufIs a345 x344 ∧ Hp s (.blk b1 (.cells [a342, a345] 67) :: .app a345 5 :: R) ∧ Fl [(0, (.v (.string p0))), (3, (.ptr b1 0)), (8, (.v (.int .i64 ((p0.size : Nat) : Int)))), (9, (.v (.int .i64 y140)))] φ)) x344) ?_ ?_
      · have H := hv410
        refine Ec.block ?_
        refine Ec.seq ?_
        refine Ec.region ?_
        refine Eo.val (x := (.v (.int .i64 y140))) rfl rfl rfl rfl ?_
        refine Eo.val (x := (.v (.int .i64 y140))) rfl rfl rfl rfl ?_
        refine Eo.nil ?_
        refine Ec.seq ?_
        refine Ec.region ?_
        refine Eo.val (x := (.v (.string p0))) rfl rfl rfl rfl ?_
        refine Eo.val (x := (.v (.int .i64 y140))) rfl rfl rfl rfl ?_
        obtain ⟨b347, hvb347, H⟩ := bind_some H
        refine Eo.val (op_byteS hvb347 rfl rfl rfl Tryd.underlying9) rfl rfl rfl ?_
        refine Eo.val (x := (.v (.int .u8 b347))) rfl rfl rfl rfl ?_
        refine Eo.nil ?_
        refine Ec.seq ?_
        refine Ec.region ?_
        refine Eo.val (x := (.v (.int .u8 b347))) rfl rfl rfl rfl ?_
        refine Eo.val (x := (.v (.bool (decide (b347 < 32))))) rfl rfl rfl rfl ?_
        refine Eo.val (x := (.v (.bool (decide (b347 < 32))))) rfl rfl rfl rfl ?_
        refine Eo.cutF 3 [(0, (.v (.string p0))), (3, (.ptr b1 0)), (8, (.v (.int .i64 ((p0.size : Nat) : Int)))), (9, (.v (.int .i64 y140))), (5, (.v (.int .u8 b347))), (20, (.v (.bool ((decide (b347 < 32)) || (decide (b347 > 126))))))] ?_ ?_
        · skip
          cases hc350 : (decide (b347 < 32))
          · skip
            refine Eo.val (x := (.v (.int .u8 b347))) rfl rfl rfl rfl ?_
            refine Eo.val (x := (.v (.bool (decide (b347 > 126))))) rfl rfl rfl rfl ?_
            refine Eo.val (x := (.v (.bool (decide (b347 > 126))))) rfl rfl rfl rfl ?_
            exact Eo.nil (And.intro rfl (And.intro rfl (.cons rfl (.cons rfl (.cons rfl (.cons rfl (.cons rfl (.cons rfl (.nil')))))))))
          · skip
            refine Eo.off rfl rfl rfl ?_
            refine Eo.off rfl rfl rfl ?_
            refine Eo.val (x := (.v (.bool true))) rfl rfl rfl rfl ?_
            exact Eo.nil (And.intro rfl (And.intro rfl (.cons rfl (.cons rfl (.cons rfl (.cons rfl (.cons rfl (.cons rfl (.nil')))))))))
        · skip
          refine Eo.val (x := (.v (.bool ((decide (b347 < 32)) || (decide (b347 > 126)))))) rfl rfl rfl rfl ?_
          refine Eo.cutF 3 [(0, (.v (.string p0))), (3, (.ptr b1 0)), (8, (.v (.int .i64 ((p0.size : Nat) : Int)))), (9, (.v (.int .i64 y140))), (5, (.v (.int .u8 b347))), (24, (.v (.bool (((decide (b347 < 32)) || (decide (b347 > 126))) || (b347 == 34)))))] ?_ ?_
          · skip
            cases hc355 : ((decide (b347 < 32)) || (decide (b347 > 126)))
            · skip
              refine Eo.val (x := (.v (.int .u8 b347))) rfl rfl rfl rfl ?_
              refine Eo.val (x := (.v (.bool (b347 == 34)))) rfl rfl rfl rfl ?_
              refine Eo.val (x := (.v (.bool (b347 == 34)))) rfl rfl rfl rfl ?_
              exact Eo.nil (And.intro rfl (And.intro rfl (.cons rfl (.cons rfl (.cons rfl (.cons rfl (.cons rfl (.cons rfl (.nil')))))))))
            · skip
              refine Eo.off rfl rfl rfl ?_
              refine Eo.off rfl rfl rfl ?_
              refine Eo.val (x := (.v (.bool true))) rfl rfl rfl rfl ?_
              exact Eo.nil (And.intro rfl (And.intro rfl (.cons rfl (.cons rfl (.cons rfl (.cons rfl (.cons rfl (.cons rfl (.nil')))))))))
          · skip
            refine Eo.val (x := (.v (.bool (((decide (b347 < 32)) || (decide (b347 > 126))) || (b347 == 34))))) rfl rfl rfl rfl ?_
            refine Eo.cutF 3 [(0, (.v (.string p0))), (3, (.ptr b1 0)), (8, (.v (.int .i64 ((p0.size : Nat) : Int)))), (9, (.v (.int .i64 y140))), (5, (.v (.int .u8 b347))), (28, (.v (.bool ((((decide (b347 < 32)) || (decide (b347 > 126))) || (b347 == 34)) || (b347 == 92)))))] ?_ ?_
            · skip
              cases hc360 : (((decide (b347 < 32)) || (decide (b347 > 126))) || (b347 == 34))
              · skip
                refine Eo.val (x := (.v (.int .u8 b347))) rfl rfl rfl rfl ?_
                refine Eo.val (x := (.v (.bool (b347 == 92)))) rfl rfl rfl rfl ?_
                refine Eo.val (x := (.v (.bool (b347 == 92)))) rfl rfl rfl rfl ?_
                exact Eo.nil (And.intro rfl (And.intro rfl (.cons rfl (.cons rfl (.cons rfl (.cons rfl (.cons rfl (.cons rfl (.nil')))))))))
              · skip
                refine Eo.off rfl rfl rfl ?_
                refine Eo.off rfl rfl rfl ?_
                refine Eo.val (x := (.v (.bool true))) rfl rfl rfl rfl ?_
                exact Eo.nil (And.intro rfl (And.intro rfl (.cons rfl (.cons rfl (.cons rfl (.cons rfl (.cons rfl (.cons rfl (.nil')))))))))
            · skip
              refine Eo.nil ?_
              refine Ec.cond (t := ((((decide (b347 < 32)) || (decide (b347 > 126))) || (b347 == 34)) || (b347 == 92))) rfl (fun hc363 => ?_) (fun hc363 => ?_)
              · have H := cond_t hc363 H
                obtain ⟨x378, hv397, H⟩ := bind_some H
                refine Ec.cut (J := (fun (x378 : (List Int)) (x : X) (φ : Fr) (s : St) => x = .normal ∧ (∃ (a376 a379 : A), AddrOk a376 b1 ∧ BufIs a379 x378 ∧ Hp s (.blk b1 (.cells [a376, a379] 67) :: .app a379 5 :: R) ∧ Fl [(0, (.v (.string p0))), (3, (.ptr b1 0)), (8, (.v (.int .i64 ((p0.size : Nat) : Int)))), (9, (.v (.int .i64 y140)))] φ)) x378) ?_ ?_
                · have H := hv397
                  refine Ec.drawn2 (by kernel_rfl) ?_
                  refine Eo.val (x := (.v (.int .u8 b347))) rfl rfl rfl rfl ?_
                  refine Eo.val (x := (.v (.int .u8 (Int.fdiv b347 (2 ^ 4))))) rfl rfl rfl rfl ?_
                  refine Eo.val (x := (.v (.int .u8 b347))) rfl rfl rfl rfl ?_
                  refine Eo.val (x := (.v (.int .u8 (Int.fdiv b347 (2 ^ 4))))) rfl rfl rfl rfl ?_
                  refine Eo.val (x := (.v (.int .u8 (IntKind.wrap .u8 ((Int.fdiv b347 (2 ^ 4)) + 1))))) rfl rfl rfl rfl ?_
                  obtain ⟨s381, hvs381, H⟩ := bind_some H
                  refine Eo.val (op_partS hvs381 rfl rfl Tryd.underlying9 (.inr ⟨_, _, rfl, rfl⟩) (.inr ⟨_, _, rfl, rfl⟩)) rfl rfl rfl ?_
                  obtain ⟨s382, hvs382, H⟩ := bind_some H
                  refine Eo.val (op_catS hvs382 rfl rfl rfl) rfl rfl rfl ?_
                  refine Eo.val (x := (.v (.int .u8 b347))) rfl rfl rfl rfl ?_
                  refine Eo.val (x := (.v (.int .u8 (IntKind.wrap .u8 ((BitVec.ofInt 8 b347 &&& BitVec.ofInt 8 15).toNat : Nat))))) rfl rfl rfl rfl ?_
                  refine Eo.val (x := (.v (.int .u8 b347))) rfl rfl rfl rfl ?_
                  refine Eo.val (x := (.v (.int .u8 (IntKind.wrap .u8 ((BitVec.ofInt 8 b347 &&& BitVec.ofInt 8 15).toNat : Nat))))) rfl rfl rfl rfl ?_
                  refine Eo.val (x := (.v (.int .u8 (IntKind.wrap .u8 ((IntKind.wrap .u8 ((BitVec.ofInt 8 b347 &&& BitVec.ofInt 8 15).toNat : Nat)) + 1))))) rfl rfl rfl rfl ?_
                  obtain ⟨s383, hvs383, H⟩ := bind_some H
                  refine Eo.val (op_partS hvs383 rfl rfl Tryd.underlying9 (.inr ⟨_, _, rfl, rfl⟩) (.inr ⟨_, _, rfl, rfl⟩)) rfl rfl rfl ?_
                  obtain ⟨s384, hvs384, H⟩ := bind_some H
                  refine Eo.val (op_catS hvs384 rfl rfl rfl) rfl rfl rfl ?_
                  obtain ⟨l385, hvl385, H⟩ := bind_some H
                  refine Eo.call rfl rfl rfl rfl (bld_WriteString h143 h146 (Hp.front (Hp.front hp0 1) 1) hvl385) ?_
                  rintro _ σ391 ⟨a386, a387, rfl, h388, h389, hp390⟩
                  change Hp σ391 (.blk b1 (.cells [a386, a387] 67) :: .app a387 5 :: R) at hp390
                  refine Eo.nil ?_
                  obtain rfl := Option.some.inj H
                  exact And.intro rfl (And.intro rfl ⟨a386, a387, h388, h389, (Hp.front (Hp.front hp390 1) 1), (.cons rfl (.cons rfl (.cons rfl (.cons rfl (.nil')))))⟩)
                · skip
                  intro x φ394 σ393 hJ
                  obtain ⟨rfl, a376, a379, h377, h380, hp392, hf395⟩ := hJ
                  obtain rfl := Option.some.inj H
                  exact And.intro rfl ⟨a376, a379, h377, h380, (Hp.front (Hp.front hp392 1) 1), (Fl.trans (G := [(0, (.v (.string p0))), (3, (.ptr b1 0)), (8, (.v (.int .i64 ((p0.size : Nat) : Int)))), (9, (.v (.int .i64 y140)))]) (.cons rfl (.cons rfl (.cons rfl (.cons rfl (.nil'))))) hf395)⟩
              · have H := cond_f hc363 H
                refine Ec.region ?_
                refine Eo.val (x := (.v (.int .u8 b347))) rfl rfl rfl rfl ?_
                obtain ⟨l398, hvl398, H⟩ := bind_some H
                refine Eo.call rfl rfl rfl rfl (bld_WriteByte h143 h146 (Hp.front (Hp.front hp0 1) 1) hvl398) ?_
                rintro _ σ404 ⟨a399, a400, rfl, h401, h402, hp403⟩
                change Hp σ404 (.blk b1 (.cells [a399, a400] 67) :: .app a400 5 :: R) at hp403
                refine Eo.nil ?_
                obtain rfl := Option.some.inj H
                exact And.intro rfl ⟨a399, a400, h401, h402, (Hp.front (Hp.front hp403 1) 1), (.cons rfl (.cons rfl (.cons rfl (.cons rfl (.nil')))))⟩
      · skip
        intro x φ407 σ406 hJ
        obtain ⟨rfl, a342, a345, h343, h346, hp405, hf408⟩ := hJ
        refine Ec.of (F := [(0, (.v (.string p0))), (3, (.ptr b1 0)), (8, (.v (.int .i64 ((p0.size : Nat) : Int)))), (9, (.v (.int .i64 y140)))]) hf408 ?_
        refine Ec.region ?_
        refine Eo.val (x := (.v (.int .i64 (IntKind.wrap .i64 (y140 + 1))))) rfl rfl rfl rfl ?_
        refine Eo.val (x := (.v (.int .i64 (IntKind.wrap .i64 (y140 + 1))))) rfl rfl rfl rfl ?_
        refine Eo.nil ?_
        exact Ec.of (.cons rfl (.cons rfl (.cons rfl (.cons rfl (.nil'))))) (ih (((IntKind.wrap .i64 (y140 + 1)), x344), (a342, a345)) _ ⟨h343, h346, (Hp.front (Hp.front hp405 1) 1)⟩ H)
    · have H := cond_f hc282 H
      refine Ec.exit ?_
      obtain rfl := Option.some.inj H
      exact And.intro rfl ⟨a142, a145, h143, h146, (Hp.front (Hp.front hp0 1) 1), (.cons rfl (.nil'))⟩
  · skip
    intro x φ415 σ414 hJ
    obtain ⟨rfl, a277, a280, h278, h281, hp413, hf416⟩ := hJ
    refine Ec.of (F := [(3, (.ptr b1 0))]) hf416 ?_
    refine Ec.seq ?_
    refine Ec.region ?_
    obtain ⟨l417, hvl417, H⟩ := bind_some H
    refine Eo.call rfl rfl rfl rfl (bld_WriteByte h278 h281 (Hp.front (Hp.front hp413 1) 1) hvl417) ?_
    rintro _ σ423 ⟨a418, a419, rfl, h420, h421, hp422⟩
    change Hp σ423 (.blk b1 (.cells [a418, a419] 67) :: .app a419 5 :: R) at hp422
    refine Eo.nil ?_
    refine Ec.seq ?_
    refine Ec.region ?_
    obtain ⟨s424, hvs424, H⟩ := bind_some H
    refine Eo.call rfl rfl rfl rfl (bld_String h420 h421 (Hp.front (Hp.front hp422 1) 1) hvs424) ?_
    rintro _ σ426 ⟨rfl, hp425⟩
    change Hp σ426 (.blk b1 (.cells [a418, a419] 67) :: .app a419 5 :: R) at hp425
    refine Eo.val (x := (.v (.string s424))) rfl rfl rfl rfl ?_
    refine Eo.nil ?_
    obtain rfl := Option.some.inj H
    refine Ec.ret ?_
    refine Ret.mk rfl ?_
    exact ⟨rfl, (Hp.drop (Hp.drop hp425 0) 0)⟩

def gasmtext_Join_L1 (N : Nat) (p0 : (List TTok)) : Nat → (List ByteArray) → Int → Option ((List ByteArray))
  | 0, _, _ => none
  | m + 1, y75, y78 => (cond (decide (y78 < ((p0.length : Nat) : Int))) (((((atL p0 y78).bind fun x189 => (cond (x189.f_Kind == 3) (((gasmtext_quote N x189.f_Text).bind fun r199 => ((appL 16 y75 ([r199] : List ByteArray)).bind fun l206 => some l206))) (((appL 16 y75 ([x189.f_Text] : List ByteArray)).bind fun l215 => some l215)))) : Option ((List ByteArray))).bind fun x186 => gasmtext_Join_L1 N p0 m x186 (IntKind.wrap .i64 (y78 + 1)))) (some y75))

def gasmtext_Join (n : Nat) (p0 : (List TTok)) : Option (ByteArray) := ((gasmtext_Join_L1 n p0 n ([] : List ByteArray) 0).bind fun x151 => ((joinT x151 (ByteArray.mk #[32])).bind fun r232 => some r232))

def gasmtext_Join_post (R : List Res) (r : ByteArray) (x : A) (s : St) : Prop := x = (.v (.string r)) ∧ Hp s (R)

theorem gasmtext_Join_ok {n : Nat} {p0 : (List TTok)} {a1 : A} {R : List Res} {σ : St} (h2 : Sl rTTok a1 p0) (hp : Hp σ R) {r : ByteArray} (H : gasmtext_Join n p0 = some r) : Ca cfg 15 [a1] σ (gasmtext_Join_post R r) := by
  unfold gasmtext_Join at H
  refine Ca.enterL (G := [(0, a1)]) Tryd.func15 rfl rfl rfl rfl ?_
  refine Ec.seq ?_
  refine Ec.region ?_
  refine Eo.val (x := (.v (.string (ByteArray.mk #[])))) rfl rfl rfl rfl ?_
  refine Eo.nil ?_
  refine Ec.seq ?_
  refine Ec.region ?_
  refine Eo.val (x := nilS) rfl rfl rfl rfl ?_
  refine Eo.nil ?_
  refine Ec.seq ?_
  refine Ec.seq ?_
  refine Ec.region ?_
  refine Eo.val (x := a1) rfl rfl rfl rfl ?_
  refine Eo.val (x := (.v (.int .i64 ((p0.length : Nat) : Int)))) (op_lenL h2 rfl rfl rfl rfl rfl Tryd.underlying31) rfl rfl rfl ?_
  refine Eo.val (x := (.v (.int .i64 0))) rfl rfl rfl rfl ?_
  refine Eo.nil ?_
  refine Ec.block ?_
  obtain ⟨x151, hv227, H⟩ := bind_some H
  refine Ec.cut (J := (fun (x151 : (List ByteArray)) (x : X) (φ : Fr) (s : St) => x = (.exit 0) ∧ (∃ (a152 : A), Sl rS a152 x151 ∧ Hp s (.app a152 9 :: R) ∧ Fl [(3, a152)] φ)) x151) (Ec.weak (.cons rfl (.cons rfl (.cons rfl (.cons rfl (.nil'))))) (Ec.loopF (f := (fun m (i : ((List ByteArray) × Int) × A) => gasmtext_Join_L1 n p0 m i.1.1 i.1.2)) (G := (fun (i : ((List ByteArray) × Int) × A) => ([(3, i.2), (6, a1), (7, (.v (.int .i64 ((p0.length : Nat) : Int)))), (8, (.v (.int .i64 i.1.2)))] : List (Nat × A)))) (I := (fun (i : ((List ByteArray) × Int) × A) (s : St) => Sl rS i.2 i.1.1 ∧ Hp s (.app i.2 9 :: R))) (J := (fun (x151 : (List ByteArray)) (x : X) (φ : Fr) (s : St) => x = (.exit 0) ∧ (∃ (a152 : A), Sl rS a152 x151 ∧ Hp s (.app a152 9 :: R) ∧ Fl [(3, a152)] φ))) (fun _ => rfl) ?_ n ((([] : List ByteArray), 0), nilS) _ x151 ⟨Sl.nil, (Hp.appNil hp 9)⟩ hv227)) ?_
  · rintro m ⟨⟨y75, y78⟩, a76⟩ σ0 v ⟨h77, hp0⟩ H ih
    change gasmtext_Join_L1 n p0 (m + 1) y75 y78 = some v at H
    rw [gasmtext_Join_L1] at H
    change Ec _ _ _ [(3, a76), (6, a1), (7, (.v (.int .i64 ((p0.length : Nat) : Int)))), (8, (.v (.int .i64 y78)))] σ0 _
    refine Ec.seq ?_
    refine Ec.region ?_
    refine Eo.val (x := (.v (.bool (decide (y78 < ((p0.length : Nat) : Int)))))) rfl rfl rfl rfl ?_
    refine Eo.nil ?_
    refine Ec.seq ?_
    refine Ec.cond (t := (decide (y78 < ((p0.length : Nat) : Int)))) rfl (fun hc154 => ?_) (fun hc154 => ?_)
    · have H := cond_t hc154 H
      refine Ec.skip ?_
      refine Ec.seq ?_
      obtain ⟨x186, hv225, H⟩ := bind_some H
      refine Ec.cut (J := (fun (x186 : (List ByteArray)) (x : X) (φ : Fr) (s : St) => x = .normal ∧ (∃ (a187 : A), Sl rS a187 x186 ∧ Hp s (.app a187 9 :: R) ∧ Fl [(3, a187), (6, a1), (7, (.v (.int .i64 ((p0.length : Nat) : Int)))), (8, (.v (.int .i64 y78)))] φ)) x186) ?_ ?_
      · have H := hv225
        refine Ec.block ?_
        refine Ec.seq ?_
        refine Ec.region ?_
        obtain ⟨x189, hvx189, H⟩ := bind_some H
        refine Eo.idx h2 hvx189 rfl rfl rfl Tryd.underlying31 rfl rfl rfl rfl ?_
        rintro cs190 p191 _ hat192 rfl
        refine Eo.val (x := (.agg [(.v (.int .i64 x189.f_Kind)), (.v (.string x189.f_Text))])) (op_loadSpAgg hat192 0 rfl rfl rfl rfl rfl rfl) rfl rfl rfl ?_
        refine Eo.alloc (z := [(.v (.int .i64 0)), (.v (.string (ByteArray.mk #[])))]) hp0 rfl rfl rfl rfl rfl ?_
        intro b193 σ195 hp194
        refine Eo.store hp194 0 rfl (storeCells_mk rfl rfl rfl rfl rfl rfl) rfl rfl rfl rfl rfl ?_
        intro σ197 hp196
        change Hp σ197 (.blk b193 (.cells [(.v (.int .i64 x189.f_Kind)), (.v (.string x189.f_Text))] 48) :: .app a76 9 :: R) at hp196
        refine Eo.nil ?_
        refine Ec.seq ?_
        refine Ec.region ?_
        refine Eo.val (x := (.ptr b193 0)) rfl rfl rfl rfl ?_
        refine Eo.val (x := (.v (.int .i64 x189.f_Kind))) (op_loadB hp196 0 rfl rfl rfl rfl) rfl rfl rfl ?_
        refine Eo.val (x := (.v (.bool (x189.f_Kind == 3)))) rfl rfl rfl rfl ?_
        refine Eo.nil ?_
        refine Ec.cond (t := (x189.f_Kind == 3)) rfl (fun hc198 => ?_) (fun hc198 => ?_)
        · have H := cond_t hc198 H
          refine Ec.region ?_
          refine Eo.val (x := a76) rfl rfl rfl rfl ?_
          refine Eo.val (x := (.ptr b193 1)) rfl rfl rfl rfl ?_
          refine Eo.val (x := (.v (.string x189.f_Text))) (op_loadB hp196 0 rfl rfl rfl rfl) rfl rfl rfl ?_
          obtain ⟨r199, hvr199, H⟩ := bind_some H
          refine Eo.call rfl rfl rfl rfl (gasmtext_quote_ok hp196 hvr199) ?_
          rintro _ σ201 ⟨rfl, hp200⟩
          refine Eo.val (x := (.sl 1 [(.v (.string r199))] .ex)) (op_buildS (lay_cons rfl rfl rfl rfl rfl lay_nil) rfl (parts_cons rfl rfl rfl) Tryd.underlying44 rfl rfl rfl rfl (by decide) rfl) rfl rfl rfl ?_
          have h205 : Sl rS (.sl 1 [(.v (.string r199))] .ex) ([r199] : List ByteArray) := .inr ⟨_, _, rfl, (.cons (c := [(.v (.string r199))]) rfl .nil)⟩
          have hp204 := Hp.appEx hp200 9 1 [(.v (.string r199))]
          obtain ⟨l206, hvl206, H⟩ := bind_some H
          refine Eo.append hp204 2 rfl h77 (New.of h205) hvl206 rfl rfl rfl rfl rfl rfl rfl Tryd.underlying44 rfl Tryd.underlying44 rfl rfl rfl rfl rfl rfl rfl rfl ?_
          intro a207 σ210 h208 hp209
          change Hp σ210 (.app (.sl 1 [(.v (.string r199))] .ex) 9 :: .blk b193 (.cells [(.v (.int .i64 x189.f_Kind)), (.v (.string x189.f_Text))] 48) :: .app a207 9 :: R) at hp209
          refine Eo.val (x := a207) rfl rfl rfl rfl ?_
          refine Eo.nil ?_
          obtain rfl := Option.some.inj H
          exact And.intro rfl ⟨a207, h208, (Hp.drop (Hp.drop hp209 0) 0), (.cons rfl (.cons rfl (.cons rfl (.cons rfl (.nil')))))⟩
        · have H := cond_f hc198 H
          refine Ec.region ?_
          refine Eo.val (x := a76) rfl rfl rfl rfl ?_
          refine Eo.val (x := (.ptr b193 1)) rfl rfl rfl rfl ?_
          refine Eo.val (x := (.v (.string x189.f_Text))) (op_loadB hp196 0 rfl rfl rfl rfl) rfl rfl rfl ?_
          refine Eo.val (x := (.sl 1 [(.v (.string x189.f_Text))] .ex)) (op_buildS (lay_cons rfl rfl rfl rfl rfl lay_nil) rfl (parts_cons rfl rfl rfl) Tryd.underlying44 rfl rfl rfl rfl (by decide) rfl) rfl rfl rfl ?_
          have h214 : Sl rS (.sl 1 [(.v (.string x189.f_Text))] .ex) ([x189.f_Text] : List ByteArray) := .inr ⟨_, _, rfl, (.cons (c := [(.v (.string x189.f_Text))]) rfl .nil)⟩
          have hp213 := Hp.appEx hp196 9 1 [(.v (.string x189.f_Text))]
          obtain ⟨l215, hvl215, H⟩ := bind_some H
          refine Eo.append hp213 2 rfl h77 (New.of h214) hvl215 rfl rfl rfl rfl rfl rfl rfl Tryd.underlying44 rfl Tryd.underlying44 rfl rfl rfl rfl rfl rfl rfl rfl ?_
          intro a216 σ219 h217 hp218
          change Hp σ219 (.app (.sl 1 [(.v (.string x189.f_Text))] .ex) 9 :: .blk b193 (.cells [(.v (.int .i64 x189.f_Kind)), (.v (.string x189.f_Text))] 48) :: .app a216 9 :: R) at hp218
          refine Eo.val (x := a216) rfl rfl rfl rfl ?_
          refine Eo.nil ?_
          obtain rfl := Option.some.inj H
          exact And.intro rfl ⟨a216, h217, (Hp.drop (Hp.drop hp218 0) 0), (.cons rfl (.cons rfl (.cons rfl (.cons rfl (.nil')))))⟩
      · skip
        intro x φ222 σ221 hJ
        obtain ⟨rfl, a187, h188, hp220, hf223⟩ := hJ
        refine Ec.of (F := [(3, a187), (6, a1), (7, (.v (.int .i64 ((p0.length : Nat) : Int)))), (8, (.v (.int .i64 y78)))]) hf223 ?_
        refine Ec.region ?_
        refine Eo.val (x := (.v (.int .i64 (IntKind.wrap .i64 (y78 + 1))))) rfl rfl rfl rfl ?_
        refine Eo.val (x := (.v (.int .i64 (IntKind.wrap .i64 (y78 + 1))))) rfl rfl rfl rfl ?_
        refine Eo.nil ?_
        exact Ec.of (.cons rfl (.cons rfl (.cons rfl (.cons rfl (.nil'))))) (ih ((x186, (IntKind.wrap .i64 (y78 + 1))), a187) _ ⟨h188, hp220⟩ H)
    · have H := cond_f hc154 H
      refine Ec.exit ?_
      obtain rfl := Option.some.inj H
      exact And.intro rfl ⟨a76, h77, hp0, (.cons rfl (.nil'))⟩
  · skip
    intro x φ230 σ229 hJ
    obtain ⟨rfl, a152, h153, hp228, hf231⟩ := hJ
    refine Ec.of (F := [(3, a152)]) hf231 ?_
    refine Ec.seq ?_
    refine Ec.region ?_
    refine Eo.val (x := a152) rfl rfl rfl rfl ?_
    obtain ⟨r232, hvr232, H⟩ := bind_some H
    refine Eo.call rfl rfl rfl rfl (prim32_ok h153 hp228 hvr232) ?_
    rintro _ σ234 ⟨rfl, hp233⟩
    refine Eo.val (x := (.v (.string r232))) rfl rfl rfl rfl ?_
    refine Eo.nil ?_
    obtain rfl := Option.some.inj H
    refine Ec.ret ?_
    refine Ret.mk rfl ?_
    exact ⟨rfl, (Hp.drop hp233 0)⟩

def gdovetailref13_Join_L2 (N : Nat) (x2272 : TTok) : Nat → (List Int) → Int → Option ((List Int))
  | 0, _, _ => none
  | m + 1, y2447, y2450 => (cond (decide (y2450 < ((x2272.f_Text.size : Nat) : Int))) (((((atS x2272.f_Text y2450).bind fun b2639 => (cond ((((decide (b2639 < 32)) || (decide (b2639 > 126))) || (b2639 == 34)) || (b2639 == 92)) (((((atS (ByteArray.mk #[48, 49, 50, 51, 52, 53, 54, 55, 56, 57, 97, 98, 99, 100, 101, 102]) (IntKind.wrap .u8 (Int.tdiv b2639 16))).bind fun b2670 => ((atS (ByteArray.mk #[48, 49, 50, 51, 52, 53, 54, 55, 56, 57, 97, 98, 99, 100, 101, 102]) (Int.tmod b2639 16)).bind fun b2671 => ((appL 1 y2447 ([92, 120, b2670, b2671] : List Int)).bind fun l2676 => some l2676))) : Option ((List Int))).bind fun x2667 => some x2667)) (((appL 1 y2447 ([b2639] : List Int)).bind fun l2691 => some l2691)))) : Option ((List Int))).bind fun x2636 => gdovetailref13_Join_L2 N x2272 m x2636 (IntKind.wrap .i64 (y2450 + 1)))) (some y2447))

def gdovetailref13_Join_L1 (N : Nat) (p0 : (List TTok)) : Nat → (List Int) → Int → Option ((List Int))
  | 0, _, _ => none
  | m + 1, y910, y913 => (cond (decide (y913 < ((p0.length : Nat) : Int))) (((((atL p0 y913).bind fun x2272 => (((cond (decide (y913 > 0)) (((appL 1 y910 ([32] : List Int)).bind fun l2299 => some l2299)) (some y910)) : Option ((List Int))).bind fun x2291 => (cond (x2272.f_Kind != 3) (((appL 1 x2291 (bs x2272.f_Text)).bind fun l2309 => some l2309)) (((appL 1 x2291 ([34] : List Int)).bind fun l2318 => ((gdovetailref13_Join_L2 N x2272 N l2318 0).bind fun x2575 => ((appL 1 x2575 ([34] : List Int)).bind fun l2712 => some l2712))))))) : Option ((List Int))).bind fun x2269 => gdovetailref13_Join_L1 N p0 m x2269 (IntKind.wrap .i64 (y913 + 1)))) (some y910))

def gdovetailref13_Join (n : Nat) (p0 : (List TTok)) : Option (ByteArray) := ((gdovetailref13_Join_L1 n p0 n ([] : List Int) 0).bind fun x1818 => some (ofB x1818))

def gdovetailref13_Join_post (R : List Res) (r : ByteArray) (x : A) (s : St) : Prop := x = (.v (.string r)) ∧ Hp s (R)

theorem gdovetailref13_Join_ok {n : Nat} {p0 : (List TTok)} {a1 : A} {R : List Res} {σ : St} (h2 : Sl rTTok a1 p0) (hp : Hp σ R) {r : ByteArray} (H : gdovetailref13_Join n p0 = some r) : Ca cfg 16 [a1] σ (gdovetailref13_Join_post R r) := by
  unfold gdovetailref13_Join at H
  refine Ca.enterL (G := [(0, a1)]) Tryd.func16 rfl rfl rfl rfl ?_
  refine Ec.seq ?_
  refine Ec.region ?_
  refine Eo.val (x := (.v (.string (ByteArray.mk #[])))) rfl rfl rfl rfl ?_
  refine Eo.nil ?_
  refine Ec.seq ?_
  refine Ec.region ?_
  refine Eo.val (x := (.v (.string (ByteArray.mk #[48, 49, 50, 51, 52, 53, 54, 55, 56, 57, 97, 98, 99, 100, 101, 102])))) rfl rfl rfl rfl ?_
  refine Eo.nil ?_
  refine Ec.seq ?_
  refine Ec.region ?_
  refine Eo.val (x := (.sl 1 [] .ex)) rfl rfl rfl rfl ?_
  have hp5 := Hp.appEx hp 5 1 []
  refine Eo.val (x := (.sl 1 [] .ex)) rfl rfl rfl rfl ?_
  refine Eo.nil ?_
  refine Ec.seq ?_
  refine Ec.seq ?_
  refine Ec.region ?_
  refine Eo.val (x := a1) rfl rfl rfl rfl ?_
  refine Eo.val (x := (.v (.int .i64 ((p0.length : Nat) : Int)))) (op_lenL h2 rfl rfl rfl rfl rfl Tryd.underlying31) rfl rfl rfl ?_
  refine Eo.val (x := (.v (.int .i64 0))) rfl rfl rfl rfl ?_
  refine Eo.nil ?_
  refine Ec.block ?_
  obtain ⟨x1818, hv2726, H⟩ := bind_some H
  refine Ec.cut (J := (fun (x1818 : (List Int)) (x : X) (φ : Fr) (s : St) => x = (.exit 0) ∧ (∃ (a1819 : A), Sl (rI .u8) a1819 x1818 ∧ Hp s (.app a1819 5 :: R) ∧ Fl [(4, a1819)] φ)) x1818) (Ec.weak (.cons rfl (.cons rfl (.cons rfl (.cons rfl (.cons rfl (.nil')))))) (Ec.loopF (f := (fun m (i : ((List Int) × Int) × A) => gdovetailref13_Join_L1 n p0 m i.1.1 i.1.2)) (G := (fun (i : ((List Int) × Int) × A) => ([(3, (.v (.string (ByteArray.mk #[48, 49, 50, 51, 52, 53, 54, 55, 56, 57, 97, 98, 99, 100, 101, 102])))), (4, i.2), (10, a1), (11, (.v (.int .i64 ((p0.length : Nat) : Int)))), (12, (.v (.int .i64 i.1.2)))] : List (Nat × A)))) (I := (fun (i : ((List Int) × Int) × A) (s : St) => Sl (rI .u8) i.2 i.1.1 ∧ Hp s (.app i.2 5 :: R))) (J := (fun (x1818 : (List Int)) (x : X) (φ : Fr) (s : St) => x = (.exit 0) ∧ (∃ (a1819 : A), Sl (rI .u8) a1819 x1818 ∧ Hp s (.app a1819 5 :: R) ∧ Fl [(4, a1819)] φ))) (fun _ => rfl) ?_ n ((([] : List Int), 0), (.sl 1 [] .ex)) _ x1818 ⟨(.inr ⟨_, _, rfl, .nil⟩ : Sl (rI .u8) (.sl 1 [] .ex) ([] : List Int)), hp5⟩ hv2726)) ?_
  · rintro m ⟨⟨y910, y913⟩, a911⟩ σ0 v ⟨h912, hp0⟩ H ih
    change gdovetailref13_Join_L1 n p0 (m + 1) y910 y913 = some v at H
    rw [gdovetailref13_Join_L1] at H
    change Ec _ _ _ [(3, (.v (.string (ByteArray.mk #[48, 49, 50, 51, 52, 53, 54, 55, 56, 57, 97, 98, 99, 100, 101, 102])))), (4, a911), (10, a1), (11, (.v (.int .i64 ((p0.length : Nat) : Int)))), (12, (.v (.int .i64 y913)))] σ0 _
    refine Ec.seq ?_
    refine Ec.region ?_
    refine Eo.val (x := (.v (.bool (decide (y913 < ((p0.length : Nat) : Int)))))) rfl rfl rfl rfl ?_
    refine Eo.nil ?_
    refine Ec.seq ?_
    refine Ec.cond (t := (decide (y913 < ((p0.length : Nat) : Int)))) rfl (fun hc1821 => ?_) (fun hc1821 => ?_)
    · have H := cond_t hc1821 H
      refine Ec.skip ?_
      refine Ec.seq ?_
      obtain ⟨x2269, hv2724, H⟩ := bind_some H
      refine Ec.cut (J := (fun (x2269 : (List Int)) (x : X) (φ : Fr) (s : St) => x = .normal ∧ (∃ (a2270 : A), Sl (rI .u8) a2270 x2269 ∧ Hp s (.app a2270 5 :: R) ∧ Fl [(3, (.v (.string (ByteArray.mk #[48, 49, 50, 51, 52, 53, 54, 55, 56, 57, 97, 98, 99, 100, 101, 102])))), (4, a2270), (10, a1), (11, (.v (.int .i64 ((p0.length : Nat) : Int)))), (12, (.v (.int .i64 y913)))] φ)) x2269) ?_ ?_
      · have H := hv2724
        refine Ec.block ?_
        refine Ec.seq ?_
        refine Ec.region ?_
        refine Eo.val (x := (.v (.int .i64 y913))) rfl rfl rfl rfl ?_
        obtain ⟨x2272, hvx2272, H⟩ := bind_some H
        refine Eo.idx h2 hvx2272 rfl rfl rfl Tryd.underlying31 rfl rfl rfl rfl ?_
        rintro cs2273 p2274 _ hat2275 rfl
        refine Eo.val (x := (.agg [(.v (.int .i64 x2272.f_Kind)), (.v (.string x2272.f_Text))])) (op_loadSpAgg hat2275 0 rfl rfl rfl rfl rfl rfl) rfl rfl rfl ?_
        refine Eo.alloc (z := [(.v (.int .i64 0)), (.v (.string (ByteArray.mk #[])))]) hp0 rfl rfl rfl rfl rfl ?_
        intro b2276 σ2278 hp2277
        refine Eo.val (x := (.v (.int .i64 y913))) rfl rfl rfl rfl ?_
        refine Eo.store hp2277 0 rfl (storeCells_mk rfl rfl rfl rfl rfl rfl) rfl rfl rfl rfl rfl ?_
        intro σ2280 hp2279
        change Hp σ2280 (.blk b2276 (.cells [(.v (.int .i64 x2272.f_Kind)), (.v (.string x2272.f_Text))] 48) :: .app a911 5 :: R) at hp2279
        refine Eo.nil ?_
        refine Ec.seq ?_
        refine Ec.seq ?_
        refine Ec.region ?_
        refine Eo.val (x := (.v (.int .i64 y913))) rfl rfl rfl rfl ?_
        refine Eo.val (x := (.v (.bool (decide (y913 > 0))))) rfl rfl rfl rfl ?_
        refine Eo.nil ?_
        obtain ⟨x2291, hv2718, H⟩ := bind_some H
        refine Ec.cut (J := (fun (x2291 : (List Int)) (x : X) (φ : Fr) (s : St) => x = .normal ∧ (∃ (a2292 : A), Sl (rI .u8) a2292 x2291 ∧ Hp s (.blk b2276 (.cells [(.v (.int .i64 x2272.f_Kind)), (.v (.string x2272.f_Text))] 48) :: .app a2292 5 :: R) ∧ Fl [(3, (.v (.string (ByteArray.mk #[48, 49, 50, 51, 52, 53, 54, 55, 56, 57, 97, 98, 99, 100, 101, 102])))), (4, a2292), (6, (.ptr b2276 0)), (10, a1), (11, (.v (.int .i64 ((p0.length : Nat) : Int)))), (12, (.v (.int .i64 y913)))] φ)) x2291) ?_ ?_
        · have H := hv2718
          refine Ec.cond (t := (decide (y913 > 0))) rfl (fun hc2294 => ?_) (fun hc2294 => ?_)
          · have H := cond_t hc2294 H
            refine Ec.region ?_
            refine Eo.val (x := a911) rfl rfl rfl rfl ?_
            refine Eo.val (x := (.sl 1 [(.v (.int .u8 32))] .ex)) (op_buildS (lay_cons rfl rfl rfl rfl rfl lay_nil) rfl (parts_cons rfl rfl rfl) Tryd.underlying61 rfl rfl rfl rfl (by decide) rfl) rfl rfl rfl ?_
            have h2298 : Sl (rI .u8) (.sl 1 [(.v (.int .u8 32))] .ex) ([32] : List Int) := .inr ⟨_, _, rfl, (.cons (c := [(.v (.int .u8 32))]) rfl .nil)⟩
            have hp2297 := Hp.appEx hp2279 5 1 [(.v (.int .u8 32))]
            obtain ⟨l2299, hvl2299, H⟩ := bind_some H
            refine Eo.append hp2297 2 rfl h912 (New.of h2298) hvl2299 rfl rfl rfl rfl rfl rfl rfl Tryd.underlying61 rfl Tryd.underlying61 rfl rfl rfl rfl rfl rfl rfl rfl ?_
            intro a2300 σ2303 h2301 hp2302
            change Hp σ2303 (.app (.sl 1 [(.v (.int .u8 32))] .ex) 5 :: .blk b2276 (.cells [(.v (.int .i64 x2272.f_Kind)), (.v (.string x2272.f_Text))] 48) :: .app a2300 5 :: R) at hp2302
            refine Eo.val (x := a2300) rfl rfl rfl rfl ?_
            refine Eo.nil ?_
            obtain rfl := Option.some.inj H
            exact And.intro rfl ⟨a2300, h2301, (Hp.front (Hp.front (Hp.drop hp2302 0) 1) 1), (.cons rfl (.cons rfl (.cons rfl (.cons rfl (.cons rfl (.cons rfl (.nil')))))))⟩
          · have H := cond_f hc2294 H
            refine Ec.skip ?_
            obtain rfl := Option.some.inj H
            exact And.intro rfl ⟨a911, h912, (Hp.front (Hp.front hp2279 1) 1), (.cons rfl (.cons rfl (.cons rfl (.cons rfl (.cons rfl (.cons rfl (.nil')))))))⟩
        · skip
          intro x φ2306 σ2305 hJ
          obtain ⟨rfl, a2292, h2293, hp2304, hf2307⟩ := hJ
          refine Ec.of (F := [(3, (.v (.string (ByteArray.mk #[48, 49, 50, 51, 52, 53, 54, 55, 56, 57, 97, 98, 99, 100, 101, 102])))), (4, a2292), (6, (.ptr b2276 0)), (10, a1), (11, (.v (.int .i64 ((p0.length : Nat) : Int)))), (12, (.v (.int .i64 y913)))]) hf2307 ?_
          refine Ec.seq ?_
          refine Ec.seq ?_
          refine Ec.region ?_
          refine Eo.val (x := (.ptr b2276 0)) rfl rfl rfl rfl ?_
          refine Eo.val (x := (.v (.int .i64 x2272.f_Kind))) (op_loadB hp2304 0 rfl rfl rfl rfl) rfl rfl rfl ?_
          refine Eo.val (x := (.v (.bool (x2272.f_Kind != 3)))) rfl rfl rfl rfl ?_
          refine Eo.nil ?_
          refine Ec.cond (t := (x2272.f_Kind != 3)) rfl (fun hc2308 => ?_) (fun hc2308 => ?_)
          · have H := cond_t hc2308 H
            refine Ec.seq ?_
            refine Ec.region ?_
            refine Eo.val (x := a2292) rfl rfl rfl rfl ?_
            refine Eo.val (x := (.ptr b2276 1)) rfl rfl rfl rfl ?_
            refine Eo.val (x := (.v (.string x2272.f_Text))) (op_loadB hp2304 0 rfl rfl rfl rfl) rfl rfl rfl ?_
            obtain ⟨l2309, hvl2309, H⟩ := bind_some H
            refine Eo.append hp2304 1 rfl h2293 New.str hvl2309 rfl rfl rfl rfl rfl rfl rfl Tryd.underlying9 rfl Tryd.underlying61 rfl rfl rfl rfl rfl rfl rfl rfl ?_
            intro a2310 σ2313 h2311 hp2312
            change Hp σ2313 (.blk b2276 (.cells [(.v (.int .i64 x2272.f_Kind)), (.v (.string x2272.f_Text))] 48) :: .app a2310 5 :: R) at hp2312
            refine Eo.val (x := a2310) rfl rfl rfl rfl ?_
            refine Eo.nil ?_
            refine Ec.exit ?_
            obtain rfl := Option.some.inj H
            exact And.intro rfl ⟨a2310, h2311, (Hp.drop hp2312 0), (.cons rfl (.cons rfl (.cons rfl (.cons rfl (.cons rfl (.nil'))))))⟩
          · have H := cond_f hc2308 H
            refine Ec.skip ?_
            refine Ec.seq ?_
            refine Ec.region ?_
            refine Eo.val (x := a2292) rfl rfl rfl rfl ?_
            refine Eo.val (x := (.sl 1 [(.v (.int .u8 34))] .ex)) (op_buildS (lay_cons rfl rfl rfl rfl rfl lay_nil) rfl (parts_cons rfl rfl rfl) Tryd.underlying61 rfl rfl rfl rfl (by decide) rfl) rfl rfl rfl ?_
            have h2317 : Sl (rI .u8) (.sl 1 [(.v (.int .u8 34))] .ex) ([34] : List Int) := .inr ⟨_, _, rfl, (.cons (c := [(.v (.int .u8 34))]) rfl .nil)⟩
            have hp2316 := Hp.appEx hp2304 5 1 [(.v (.int .u8 34))]
            obtain ⟨l2318, hvl2318, H⟩ := bind_some H
            refine Eo.append hp2316 2 rfl h2293 (New.of h2317) hvl2318 rfl rfl rfl rfl rfl rfl rfl Tryd.underlying61 rfl Tryd.underlying61 rfl rfl rfl rfl rfl rfl rfl rfl ?_
            intro a2319 σ2322 h2320 hp2321
            change Hp σ2322 (.app (.sl 1 [(.v (.int .u8 34))] .ex) 5 :: .blk b2276 (.cells [(.v (.int .i64 x2272.f_Kind)), (.v (.string x2272.f_Text))] 48) :: .app a2319 5 :: R) at hp2321
            refine Eo.val (x := a2319) rfl rfl rfl rfl ?_
            refine Eo.nil ?_
            refine Ec.seq ?_
            refine Ec.seq ?_
            refine Ec.region ?_
            refine Eo.val (x := (.v (.int .i64 0))) rfl rfl rfl rfl ?_
            refine Eo.nil ?_
            refine Ec.block ?_
            obtain ⟨x2575, hv2703, H⟩ := bind_some H
            refine Ec.cut (J := (fun (x2575 : (List Int)) (x : X) (φ : Fr) (s : St) => x = (.exit 2) ∧ (∃ (a2576 : A), Sl (rI .u8) a2576 x2575 ∧ Hp s (.app a2576 5 :: R) ∧ Fl [(3, (.v (.string (ByteArray.mk #[48, 49, 50, 51, 52, 53, 54, 55, 56, 57, 97, 98, 99, 100, 101, 102])))), (4, a2576), (10, a1), (11, (.v (.int .i64 ((p0.length : Nat) : Int)))), (12, (.v (.int .i64 y913)))] φ)) x2575) (Ec.weak (.cons rfl (.cons rfl (.cons rfl (.cons rfl (.cons rfl (.cons rfl (.cons rfl (.nil')))))))) (Ec.loopF (f := (fun m (i : ((List Int) × Int) × A) => gdovetailref13_Join_L2 n x2272 m i.1.1 i.1.2)) (G := (fun (i : ((List Int) × Int) × A) => ([(3, (.v (.string (ByteArray.mk #[48, 49, 50, 51, 52, 53, 54, 55, 56, 57, 97, 98, 99, 100, 101, 102])))), (4, i.2), (6, (.ptr b2276 0)), (7, (.v (.int .i64 i.1.2))), (10, a1), (11, (.v (.int .i64 ((p0.length : Nat) : Int)))), (12, (.v (.int .i64 y913)))] : List (Nat × A)))) (I := (fun (i : ((List Int) × Int) × A) (s : St) => Sl (rI .u8) i.2 i.1.1 ∧ Hp s (.blk b2276 (.cells [(.v (.int .i64 x2272.f_Kind)), (.v (.string x2272.f_Text))] 48) :: .app i.2 5 :: R))) (J := (fun (x2575 : (List Int)) (x : X) (φ : Fr) (s : St) => x = (.exit 2) ∧ (∃ (a2576 : A), Sl (rI .u8) a2576 x2575 ∧ Hp s (.app a2576 5 :: R) ∧ Fl [(3, (.v (.string (ByteArray.mk #[48, 49, 50, 51, 52, 53, 54, 55, 56, 57, 97, 98, 99, 100, 101, 102])))), (4, a2576), (10, a1), (11, (.v (.int .i64 ((p0.length : Nat) : Int)))), (12, (.v (.int .i64 y913)))] φ))) (fun _ => rfl) ?_ n ((l2318, 0), a2319) _ x2575 ⟨h2320, (Hp.front (Hp.front (Hp.drop hp2321 0) 1) 1)⟩ hv2703)) ?_
            · rintro m ⟨⟨y2447, y2450⟩, a2448⟩ σ0 v ⟨h2449, hp0⟩ H ih
              change gdovetailref13_Join_L2 n x2272 (m + 1) y2447 y2450 = some v at H
              rw [gdovetailref13_Join_L2] at H
              change Ec _ _ _ [(3, (.v (.string (ByteArray.mk #[48, 49, 50, 51, 52, 53, 54, 55, 56, 57, 97, 98, 99, 100, 101, 102])))), (4, a2448), (6, (.ptr b2276 0)), (7, (.v (.int .i64 y2450))), (10, a1), (11, (.v (.int .i64 ((p0.length : Nat) : Int)))), (12, (.v (.int .i64 y913)))] σ0 _
              refine Ec.seq ?_
              refine Ec.seq ?_
              refine Ec.region ?_
              refine Eo.val (x := (.v (.int .i64 y2450))) rfl rfl rfl rfl ?_
              refine Eo.val (x := (.ptr b2276 1)) rfl rfl rfl rfl ?_
              refine Eo.val (x := (.v (.string x2272.f_Text))) (op_loadB hp0 0 rfl rfl rfl rfl) rfl rfl rfl ?_
              refine Eo.val (x := (.v (.int .i64 ((x2272.f_Text.size : Nat) : Int)))) (op_len rfl rfl rfl rfl rfl Tryd.underlying9) rfl rfl rfl ?_
              refine Eo.val (x := (.v (.bool (decide (y2450 < ((x2272.f_Text.size : Nat) : Int)))))) rfl rfl rfl rfl ?_
              refine Eo.nil ?_
              refine Ec.cond (t := (decide (y2450 < ((x2272.f_Text.size : Nat) : Int)))) rfl (fun hc2578 => ?_) (fun hc2578 => ?_)
              · have H := cond_t hc2578 H
                refine Ec.skip ?_
                refine Ec.seq ?_
                obtain ⟨x2636, hv2701, H⟩ := bind_some H
                refine Ec.cut (J := (fun (x2636 : (List Int)) (x : X) (φ : Fr) (s : St) => x = .normal ∧ (∃ (a2637 : A), Sl (rI .u8) a2637 x2636 ∧ Hp s (.blk b2276 (.cells [(.v (.int .i64 x2272.f_Kind)), (.v (.string x2272.f_Text))] 48) :: .app a2637 5 :: R) ∧ Fl [(3, (.v (.string (ByteArray.mk #[48, 49, 50, 51, 52, 53, 54, 55, 56, 57, 97, 98, 99, 100, 101, 102])))), (4, a2637), (6, (.ptr b2276 0)), (7, (.v (.int .i64 y2450))), (10, a1), (11, (.v (.int .i64 ((p0.length : Nat) : Int)))), (12, (.v (.int .i64 y913)))] φ)) x2636) ?_ ?_
                · have H := hv2701
                  refine Ec.block ?_
                  refine Ec.seq ?_
                  refine Ec.region ?_
                  refine Eo.val (x := (.ptr b2276 1)) rfl rfl rfl rfl ?_
                  refine Eo.val (x := (.v (.string x2272.f_Text))) (op_loadB hp0 0 rfl rfl rfl rfl) rfl rfl rfl ?_
                  refine Eo.val (x := (.v (.int .i64 y2450))) rfl rfl rfl rfl ?_
                  obtain ⟨b2639, hvb2639, H⟩ := bind_some H
                  refine Eo.val (op_byteS hvb2639 rfl rfl rfl Tryd.underlying9) rfl rfl rfl ?_
                  refine Eo.val (x := (.v (.int .u8 b2639))) rfl rfl rfl rfl ?_
                  refine Eo.nil ?_
                  refine Ec.seq ?_
                  refine Ec.region ?_
                  refine Eo.val (x := (.v (.int .u8 b2639))) rfl rfl rfl rfl ?_
                  refine Eo.val (x := (.v (.bool (decide (b2639 < 32))))) rfl rfl rfl rfl ?_
                  refine Eo.val (x := (.v (.bool (decide (b2639 < 32))))) rfl rfl rfl rfl ?_
                  refine Eo.cutF 3 [(3, (.v (.string (ByteArray.mk #[48, 49, 50, 51, 52, 53, 54, 55, 56, 57, 97, 98, 99, 100, 101, 102])))), (4, a2448), (6, (.ptr b2276 0)), (7, (.v (.int .i64 y2450))), (10, a1), (11, (.v (.int .i64 ((p0.length : Nat) : Int)))), (12, (.v (.int .i64 y913))), (8, (.v (.int .u8 b2639))), (48, (.v (.bool ((decide (b2639 < 32)) || (decide (b2639 > 126))))))] ?_ ?_
                  · skip
                    cases hc2642 : (decide (b2639 < 32))
                    · skip
                      refine Eo.val (x := (.v (.int .u8 b2639))) rfl rfl rfl rfl ?_
                      refine Eo.val (x := (.v (.bool (decide (b2639 > 126))))) rfl rfl rfl rfl ?_
                      refine Eo.val (x := (.v (.bool (decide (b2639 > 126))))) rfl rfl rfl rfl ?_
                      exact Eo.nil (And.intro rfl (And.intro rfl (.cons rfl (.cons rfl (.cons rfl (.cons rfl (.cons rfl (.cons rfl (.cons rfl (.cons rfl (.cons rfl (.nil'))))))))))))
                    · skip
                      refine Eo.off rfl rfl rfl ?_
                      refine Eo.off rfl rfl rfl ?_
                      refine Eo.val (x := (.v (.bool true))) rfl rfl rfl rfl ?_
                      exact Eo.nil (And.intro rfl (And.intro rfl (.cons rfl (.cons rfl (.cons rfl (.cons rfl (.cons rfl (.cons rfl (.cons rfl (.cons rfl (.cons rfl (.nil'))))))))))))
                  · skip
                    refine Eo.val (x := (.v (.bool ((decide (b2639 < 32)) || (decide (b2639 > 126)))))) rfl rfl rfl rfl ?_
                    refine Eo.cutF 3 [(3, (.v (.string (ByteArray.mk #[48, 49, 50, 51, 52, 53, 54, 55, 56, 57, 97, 98, 99, 100, 101, 102])))), (4, a2448), (6, (.ptr b2276 0)), (7, (.v (.int .i64 y2450))), (10, a1), (11, (.v (.int .i64 ((p0.length : Nat) : Int)))), (12, (.v (.int .i64 y913))), (8, (.v (.int .u8 b2639))), (52, (.v (.bool (((decide (b2639 < 32)) || (decide (b2639 > 126))) || (b2639 == 34)))))] ?_ ?_
                    · skip
                      cases hc2647 : ((decide (b2639 < 32)) || (decide (b2639 > 126)))
                      · skip
                        refine Eo.val (x := (.v (.int .u8 b2639))) rfl rfl rfl rfl ?_
                        refine Eo.val (x := (.v (.bool (b2639 == 34)))) rfl rfl rfl rfl ?_
                        refine Eo.val (x := (.v (.bool (b2639 == 34)))) rfl rfl rfl rfl ?_
                        exact Eo.nil (And.intro rfl (And.intro rfl (.cons rfl (.cons rfl (.cons rfl (.cons rfl (.cons rfl (.cons rfl (.cons rfl (.cons rfl (.cons rfl (.nil'))))))))))))
                      · skip
                        refine Eo.off rfl rfl rfl ?_
                        refine Eo.off rfl rfl rfl ?_
                        refine Eo.val (x := (.v (.bool true))) rfl rfl rfl rfl ?_
                        exact Eo.nil (And.intro rfl (And.intro rfl (.cons rfl (.cons rfl (.cons rfl (.cons rfl (.cons rfl (.cons rfl (.cons rfl (.cons rfl (.cons rfl (.nil'))))))))))))
                    · skip
                      refine Eo.val (x := (.v (.bool (((decide (b2639 < 32)) || (decide (b2639 > 126))) || (b2639 == 34))))) rfl rfl rfl rfl ?_
                      refine Eo.cutF 3 [(3, (.v (.string (ByteArray.mk #[48, 49, 50, 51, 52, 53, 54, 55, 56, 57, 97, 98, 99, 100, 101, 102])))), (4, a2448), (6, (.ptr b2276 0)), (7, (.v (.int .i64 y2450))), (10, a1), (11, (.v (.int .i64 ((p0.length : Nat) : Int)))), (12, (.v (.int .i64 y913))), (8, (.v (.int .u8 b2639))), (56, (.v (.bool ((((decide (b2639 < 32)) || (decide (b2639 > 126))) || (b2639 == 34)) || (b2639 == 92)))))] ?_ ?_
                      · skip
                        cases hc2652 : (((decide (b2639 < 32)) || (decide (b2639 > 126))) || (b2639 == 34))
                        · skip
                          refine Eo.val (x := (.v (.int .u8 b2639))) rfl rfl rfl rfl ?_
                          refine Eo.val (x := (.v (.bool (b2639 == 92)))) rfl rfl rfl rfl ?_
                          refine Eo.val (x := (.v (.bool (b2639 == 92)))) rfl rfl rfl rfl ?_
                          exact Eo.nil (And.intro rfl (And.intro rfl (.cons rfl (.cons rfl (.cons rfl (.cons rfl (.cons rfl (.cons rfl (.cons rfl (.cons rfl (.cons rfl (.nil'))))))))))))
                        · skip
                          refine Eo.off rfl rfl rfl ?_
                          refine Eo.off rfl rfl rfl ?_
                          refine Eo.val (x := (.v (.bool true))) rfl rfl rfl rfl ?_
                          exact Eo.nil (And.intro rfl (And.intro rfl (.cons rfl (.cons rfl (.cons rfl (.cons rfl (.cons rfl (.cons rfl (.cons rfl (.cons rfl (.cons rfl (.nil'))))))))))))
                      · skip
                        refine Eo.nil ?_
                        refine Ec.cond (t := ((((decide (b2639 < 32)) || (decide (b2639 > 126))) || (b2639 == 34)) || (b2639 == 92))) rfl (fun hc2655 => ?_) (fun hc2655 => ?_)
                        · have H := cond_t hc2655 H
                          obtain ⟨x2667, hv2686, H⟩ := bind_some H
                          refine Ec.cut (J := (fun (x2667 : (List Int)) (x : X) (φ : Fr) (s : St) => x = .normal ∧ (∃ (a2668 : A), Sl (rI .u8) a2668 x2667 ∧ Hp s (.blk b2276 (.cells [(.v (.int .i64 x2272.f_Kind)), (.v (.string x2272.f_Text))] 48) :: .app a2668 5 :: R) ∧ Fl [(3, (.v (.string (ByteArray.mk #[48, 49, 50, 51, 52, 53, 54, 55, 56, 57, 97, 98, 99, 100, 101, 102])))), (4, a2668), (6, (.ptr b2276 0)), (7, (.v (.int .i64 y2450))), (10, a1), (11, (.v (.int .i64 ((p0.length : Nat) : Int)))), (12, (.v (.int .i64 y913)))] φ)) x2667) ?_ ?_
                          · have H := hv2686
                            refine Ec.drawn2 (by kernel_rfl) ?_
                            refine Eo.val (x := a2448) rfl rfl rfl rfl ?_
                            refine Eo.val (x := (.v (.string (ByteArray.mk #[48, 49, 50, 51, 52, 53, 54, 55, 56, 57, 97, 98, 99, 100, 101, 102])))) rfl rfl rfl rfl ?_
                            refine Eo.val (x := (.v (.int .u8 b2639))) rfl rfl rfl rfl ?_
                            refine Eo.val (x := (.v (.int .u8 (IntKind.wrap .u8 (Int.tdiv b2639 16))))) rfl rfl rfl rfl ?_
                            obtain ⟨b2670, hvb2670, H⟩ := bind_some H
                            refine Eo.val (op_byteS hvb2670 rfl rfl rfl Tryd.underlying9) rfl rfl rfl ?_
                            refine Eo.val (x := (.v (.string (ByteArray.mk #[48, 49, 50, 51, 52, 53, 54, 55, 56, 57, 97, 98, 99, 100, 101, 102])))) rfl rfl rfl rfl ?_
                            refine Eo.val (x := (.v (.int .u8 b2639))) rfl rfl rfl rfl ?_
                            refine Eo.val (x := (.v (.int .u8 (Int.tmod b2639 16)))) rfl rfl rfl rfl ?_
                            obtain ⟨b2671, hvb2671, H⟩ := bind_some H
                            refine Eo.val (op_byteS hvb2671 rfl rfl rfl Tryd.underlying9) rfl rfl rfl ?_
                            refine Eo.val (x := (.sl 1 [(.v (.int .u8 92)), (.v (.int .u8 120)), (.v (.int .u8 b2670)), (.v (.int .u8 b2671))] .ex)) (op_buildS (lay_cons rfl rfl rfl rfl rfl (lay_cons rfl rfl rfl rfl rfl (lay_cons rfl rfl rfl rfl rfl (lay_cons rfl rfl rfl rfl rfl lay_nil)))) rfl (parts_cons rfl rfl (parts_cons rfl rfl (parts_cons rfl rfl (parts_cons rfl rfl rfl)))) Tryd.underlying61 rfl rfl rfl rfl (by decide) rfl) rfl rfl rfl ?_
                            have h2675 : Sl (rI .u8) (.sl 1 [(.v (.int .u8 92)), (.v (.int .u8 120)), (.v (.int .u8 b2670)), (.v (.int .u8 b2671))] .ex) ([92, 120, b2670, b2671] : List Int) := .inr ⟨_, _, rfl, (.cons (c := [(.v (.int .u8 92))]) rfl (.cons (c := [(.v (.int .u8 120))]) rfl (.cons (c := [(.v (.int .u8 b2670))]) rfl (.cons (c := [(.v (.int .u8 b2671))]) rfl .nil))))⟩
                            have hp2674 := Hp.appEx hp0 5 1 [(.v (.int .u8 92)), (.v (.int .u8 120)), (.v (.int .u8 b2670)), (.v (.int .u8 b2671))]
                            obtain ⟨l2676, hvl2676, H⟩ := bind_some H
                            refine Eo.append hp2674 2 rfl h2449 (New.of h2675) hvl2676 rfl rfl rfl rfl rfl rfl rfl Tryd.underlying61 rfl Tryd.underlying61 rfl rfl rfl rfl rfl rfl rfl rfl ?_
                            intro a2677 σ2680 h2678 hp2679
                            change Hp σ2680 (.app (.sl 1 [(.v (.int .u8 92)), (.v (.int .u8 120)), (.v (.int .u8 b2670)), (.v (.int .u8 b2671))] .ex) 5 :: .blk b2276 (.cells [(.v (.int .i64 x2272.f_Kind)), (.v (.string x2272.f_Text))] 48) :: .app a2677 5 :: R) at hp2679
                            refine Eo.val (x := a2677) rfl rfl rfl rfl ?_
                            refine Eo.nil ?_
                            obtain rfl := Option.some.inj H
                            exact And.intro rfl (And.intro rfl ⟨a2677, h2678, (Hp.front (Hp.front (Hp.drop hp2679 0) 1) 1), (.cons rfl (.cons rfl (.cons rfl (.cons rfl (.cons rfl (.cons rfl (.cons rfl (.nil'))))))))⟩)
                          · skip
                            intro x φ2683 σ2682 hJ
                            obtain ⟨rfl, a2668, h2669, hp2681, hf2684⟩ := hJ
                            obtain rfl := Option.some.inj H
                            exact And.intro rfl ⟨a2668, h2669, (Hp.front (Hp.front hp2681 1) 1), (Fl.trans (G := [(3, (.v (.string (ByteArray.mk #[48, 49, 50, 51, 52, 53, 54, 55, 56, 57, 97, 98, 99, 100, 101, 102])))), (4, a2668), (6, (.ptr b2276 0)), (7, (.v (.int .i64 y2450))), (10, a1), (11, (.v (.int .i64 ((p0.length : Nat) : Int)))), (12, (.v (.int .i64 y913)))]) (.cons rfl (.cons rfl (.cons rfl (.cons rfl (.cons rfl (.cons rfl (.cons rfl (.nil')))))))) hf2684)⟩
                        · have H := cond_f hc2655 H
                          refine Ec.region ?_
                          refine Eo.val (x := a2448) rfl rfl rfl rfl ?_
                          refine Eo.val (x := (.v (.int .u8 b2639))) rfl rfl rfl rfl ?_
                          refine Eo.val (x := (.sl 1 [(.v (.int .u8 b2639))] .ex)) (op_buildS (lay_cons rfl rfl rfl rfl rfl lay_nil) rfl (parts_cons rfl rfl rfl) Tryd.underlying61 rfl rfl rfl rfl (by decide) rfl) rfl rfl rfl ?_
                          have h2690 : Sl (rI .u8) (.sl 1 [(.v (.int .u8 b2639))] .ex) ([b2639] : List Int) := .inr ⟨_, _, rfl, (.cons (c := [(.v (.int .u8 b2639))]) rfl .nil)⟩
                          have hp2689 := Hp.appEx hp0 5 1 [(.v (.int .u8 b2639))]
                          obtain ⟨l2691, hvl2691, H⟩ := bind_some H
                          refine Eo.append hp2689 2 rfl h2449 (New.of h2690) hvl2691 rfl rfl rfl rfl rfl rfl rfl Tryd.underlying61 rfl Tryd.underlying61 rfl rfl rfl rfl rfl rfl rfl rfl ?_
                          intro a2692 σ2695 h2693 hp2694
                          change Hp σ2695 (.app (.sl 1 [(.v (.int .u8 b2639))] .ex) 5 :: .blk b2276 (.cells [(.v (.int .i64 x2272.f_Kind)), (.v (.string x2272.f_Text))] 48) :: .app a2692 5 :: R) at hp2694
                          refine Eo.val (x := a2692) rfl rfl rfl rfl ?_
                          refine Eo.nil ?_
                          obtain rfl := Option.some.inj H
                          exact And.intro rfl ⟨a2692, h2693, (Hp.front (Hp.front (Hp.drop hp2694 0) 1) 1), (.cons rfl (.cons rfl (.cons rfl (.cons rfl (.cons rfl (.cons rfl (.cons rfl (.nil'))))))))⟩
                · skip
                  intro x φ2698 σ2697 hJ
                  obtain ⟨rfl, a2637, h2638, hp2696, hf2699⟩ := hJ
                  refine Ec.of (F := [(3, (.v (.string (ByteArray.mk #[48, 49, 50, 51, 52, 53, 54, 55, 56, 57, 97, 98, 99, 100, 101, 102])))), (4, a2637), (6, (.ptr b2276 0)), (7, (.v (.int .i64 y2450))), (10, a1), (11, (.v (.int .i64 ((p0.length : Nat) : Int)))), (12, (.v (.int .i64 y913)))]) hf2699 ?_
                  refine Ec.region ?_
                  refine Eo.val (x := (.v (.int .i64 y2450))) rfl rfl rfl rfl ?_
                  refine Eo.val (x := (.v (.int .i64 (IntKind.wrap .i64 (y2450 + 1))))) rfl rfl rfl rfl ?_
                  refine Eo.val (x := (.v (.int .i64 (IntKind.wrap .i64 (y2450 + 1))))) rfl rfl rfl rfl ?_
                  refine Eo.nil ?_
                  exact Ec.of (.cons rfl (.cons rfl (.cons rfl (.cons rfl (.cons rfl (.cons rfl (.cons rfl (.nil')))))))) (ih ((x2636, (IntKind.wrap .i64 (y2450 + 1))), a2637) _ ⟨h2638, (Hp.front (Hp.front hp2696 1) 1)⟩ H)
              · have H := cond_f hc2578 H
                refine Ec.exit ?_
                obtain rfl := Option.some.inj H
                exact And.intro rfl ⟨a2448, h2449, (Hp.drop hp0 0), (.cons rfl (.cons rfl (.cons rfl (.cons rfl (.cons rfl (.nil'))))))⟩
            · skip
              intro x φ2706 σ2705 hJ
              obtain ⟨rfl, a2576, h2577, hp2704, hf2707⟩ := hJ
              refine Ec.of (F := [(3, (.v (.string (ByteArray.mk #[48, 49, 50, 51, 52, 53, 54, 55, 56, 57, 97, 98, 99, 100, 101, 102])))), (4, a2576), (10, a1), (11, (.v (.int .i64 ((p0.length : Nat) : Int)))), (12, (.v (.int .i64 y913)))]) hf2707 ?_
              refine Ec.region ?_
              refine Eo.val (x := a2576) rfl rfl rfl rfl ?_
              refine Eo.val (x := (.sl 1 [(.v (.int .u8 34))] .ex)) (op_buildS (lay_cons rfl rfl rfl rfl rfl lay_nil) rfl (parts_cons rfl rfl rfl) Tryd.underlying61 rfl rfl rfl rfl (by decide) rfl) rfl rfl rfl ?_
              have h2711 : Sl (rI .u8) (.sl 1 [(.v (.int .u8 34))] .ex) ([34] : List Int) := .inr ⟨_, _, rfl, (.cons (c := [(.v (.int .u8 34))]) rfl .nil)⟩
              have hp2710 := Hp.appEx hp2704 5 1 [(.v (.int .u8 34))]
              obtain ⟨l2712, hvl2712, H⟩ := bind_some H
              refine Eo.append hp2710 1 rfl h2577 (New.of h2711) hvl2712 rfl rfl rfl rfl rfl rfl rfl Tryd.underlying61 rfl Tryd.underlying61 rfl rfl rfl rfl rfl rfl rfl rfl ?_
              intro a2713 σ2716 h2714 hp2715
              change Hp σ2716 (.app (.sl 1 [(.v (.int .u8 34))] .ex) 5 :: .app a2713 5 :: R) at hp2715
              refine Eo.val (x := a2713) rfl rfl rfl rfl ?_
              refine Eo.nil ?_
              obtain rfl := Option.some.inj H
              exact And.intro rfl ⟨a2713, h2714, (Hp.drop hp2715 0), (.cons rfl (.cons rfl (.cons rfl (.cons rfl (.cons rfl (.nil'))))))⟩
      · skip
        intro x φ2721 σ2720 hJ
        obtain ⟨rfl, a2270, h2271, hp2719, hf2722⟩ := hJ
        refine Ec.of (F := [(3, (.v (.string (ByteArray.mk #[48, 49, 50, 51, 52, 53, 54, 55, 56, 57, 97, 98, 99, 100, 101, 102])))), (4, a2270), (10, a1), (11, (.v (.int .i64 ((p0.length : Nat) : Int)))), (12, (.v (.int .i64 y913)))]) hf2722 ?_
        refine Ec.region ?_
        refine Eo.val (x := (.v (.int .i64 (IntKind.wrap .i64 (y913 + 1))))) rfl rfl rfl rfl ?_
        refine Eo.val (x := (.v (.int .i64 (IntKind.wrap .i64 (y913 + 1))))) rfl rfl rfl rfl ?_
        refine Eo.nil ?_
        exact Ec.of (.cons rfl (.cons rfl (.cons rfl (.cons rfl (.cons rfl (.nil')))))) (ih ((x2269, (IntKind.wrap .i64 (y913 + 1))), a2270) _ ⟨h2271, hp2719⟩ H)
    · have H := cond_f hc1821 H
      refine Ec.exit ?_
      obtain rfl := Option.some.inj H
      exact And.intro rfl ⟨a911, h912, hp0, (.cons rfl (.nil'))⟩
  · skip
    intro x φ2729 σ2728 hJ
    obtain ⟨rfl, a1819, h1820, hp2727, hf2730⟩ := hJ
    refine Ec.of (F := [(4, a1819)]) hf2730 ?_
    refine Ec.seq ?_
    refine Ec.region ?_
    refine Eo.val (x := a1819) rfl rfl rfl rfl ?_
    refine Eo.val (op_b2s h1820 rfl rfl Tryd.underlying61 Tryd.underlying9 Tryd.underlying5 (fun h => by subst h; rfl)) rfl rfl rfl ?_
    refine Eo.val (x := (.v (.string (ofB x1818)))) rfl rfl rfl rfl ?_
    refine Eo.nil ?_
    obtain rfl := Option.some.inj H
    refine Ec.ret ?_
    refine Ret.mk rfl ?_
    exact ⟨rfl, (Hp.drop hp2727 0)⟩

def gdovetaillaw13_AsmtextWords (n : Nat) (p0 : ByteArray) : Option (Bool) := ((gdovetaillaw13_asmtextAlive n ).bind fun r1 => (cond (!r1) (some false) (((gdovetailref13_Words n p0).bind fun v => match v with | (r6, r7) => ((gasmtext_Words n p0).bind fun v => match v with | (r13, r14) => (((cond (r14 != r7) (some true) (((gdovetailref13_SameToks n r13 r6).bind fun r25 => some (!r25)))) : Option (Bool)).bind fun x23 => (cond x23 (some false) ((cond (r14 != 0) (some true) (((gasmtext_Join n r13).bind fun r34 => ((gasmtext_Words n r34).bind fun v => match v with | (r38, r39) => ((gasmtext_Join n r13).bind fun r44 => ((gdovetailref13_Join n r13).bind fun r47 => (((cond ((decide (r44 = r47)) && (r39 == 0)) (((gdovetailref13_SameToks n r38 r13).bind fun r61 => some r61)) (some false)) : Option (Bool)).bind fun x59 => some x59)))))))))))))))

def gdovetaillaw13_AsmtextWords_post (R : List Res) (r : Bool) (x : A) (s : St) : Prop := x = (.v (.bool r)) ∧ Hp s (R)

theorem gdovetaillaw13_AsmtextWords_ok {n : Nat} {p0 : ByteArray} {R : List Res} {σ : St} (hp : Hp σ R) {r : Bool} (H : gdovetaillaw13_AsmtextWords n p0 = some r) : Ca cfg 5 [(.v (.string p0))] σ (gdovetaillaw13_AsmtextWords_post R r) := by
  unfold gdovetaillaw13_AsmtextWords at H
  refine Ca.enterL (G := [(0, (.v (.string p0)))]) Tryd.func5 rfl rfl rfl rfl ?_
  refine Ec.seq ?_
  refine Ec.region ?_
  refine Eo.val (x := (.v (.bool false))) rfl rfl rfl rfl ?_
  refine Eo.nil ?_
  refine Ec.seq ?_
  refine Ec.seq ?_
  refine Ec.region ?_
  obtain ⟨r1, hvr1, H⟩ := bind_some H
  refine Eo.call rfl rfl rfl rfl (gdovetaillaw13_asmtextAlive_ok hp hvr1) ?_
  rintro _ σ3 ⟨rfl, hp2⟩
  refine Eo.val (x := (.v (.bool (!r1)))) rfl rfl rfl rfl ?_
  refine Eo.nil ?_
  refine Ec.cond (t := (!r1)) rfl (fun hc4 => ?_) (fun hc4 => ?_)
  · have H := cond_t hc4 H
    refine Ec.seq ?_
    refine Ec.region ?_
    refine Eo.val (x := (.v (.bool false))) rfl rfl rfl rfl ?_
    refine Eo.nil ?_
    obtain rfl := Option.some.inj H
    refine Ec.ret ?_
    refine Ret.mk rfl ?_
    exact ⟨rfl, hp2⟩
  · have H := cond_f hc4 H
    refine Ec.skip ?_
    refine Ec.seq ?_
    refine Ec.region ?_
    refine Eo.val (x := (.v (.string p0))) rfl rfl rfl rfl ?_
    obtain ⟨r5, hvr5, H⟩ := bind_some H
    refine Eo.call rfl rfl rfl rfl (gdovetailref13_Words_ok hp2 hvr5) ?_
    obtain ⟨r6, r7⟩ := r5
    rintro _ σ11 ⟨a8, rfl, h9, hp10⟩
    change Hp σ11 (.app a8 48 :: R) at hp10
    refine Eo.val (x := (.tup [a8, (.v (.int .i64 r7))])) rfl rfl rfl rfl ?_
    refine Eo.val (x := a8) rfl rfl rfl rfl ?_
    refine Eo.val (x := (.v (.int .i64 r7))) rfl rfl rfl rfl ?_
    refine Eo.val (x := a8) rfl rfl rfl rfl ?_
    refine Eo.val (x := (.v (.int .i64 r7))) rfl rfl rfl rfl ?_
    refine Eo.nil ?_
    refine Ec.seq ?_
    refine Ec.region ?_
    refine Eo.val (x := (.v (.string p0))) rfl rfl rfl rfl ?_
    obtain ⟨r12, hvr12, H⟩ := bind_some H
    refine Eo.call rfl rfl rfl rfl (gasmtext_Words_ok hp10 hvr12) ?_
    obtain ⟨r13, r14⟩ := r12
    rintro _ σ18 ⟨a15, rfl, h16, hp17⟩
    change Hp σ18 (.app a15 48 :: .app a8 48 :: R) at hp17
    refine Eo.val (x := (.tup [a15, (.v (.int .i64 r14))])) rfl rfl rfl rfl ?_
    refine Eo.val (x := a15) rfl rfl rfl rfl ?_
    refine Eo.val (x := (.v (.int .i64 r14))) rfl rfl rfl rfl ?_
    refine Eo.val (x := a15) rfl rfl rfl rfl ?_
    refine Eo.val (x := (.v (.int .i64 r14))) rfl rfl rfl rfl ?_
    refine Eo.nil ?_
    refine Ec.seq ?_
    refine Ec.seq ?_
    refine Ec.region ?_
    refine Eo.val (x := (.v (.int .i64 r14))) rfl rfl rfl rfl ?_
    refine Eo.val (x := (.v (.int .i64 r7))) rfl rfl rfl rfl ?_
    refine Eo.val (x := (.v (.bool (r14 != r7)))) rfl rfl rfl rfl ?_
    refine Eo.val (x := (.v (.bool (r14 != r7)))) rfl rfl rfl rfl ?_
    obtain ⟨x23, hv71, H⟩ := bind_some H
    refine Eo.cutN 5 (J := (fun (x23 : Bool) (x : X) (φ : Fr) (s : St) => x = .normal ∧ (Hp s (.app a15 48 :: R) ∧ Fl [(5, a15), (6, (.v (.int .i64 r14))), (29, (.v (.bool x23)))] φ)) x23) ?_ ?_
    · have H := hv71
      cases hc24 : (r14 != r7)
      · have H := cond_f hc24 H
        refine Eo.val (x := a15) rfl rfl rfl rfl ?_
        refine Eo.val (x := a8) rfl rfl rfl rfl ?_
        obtain ⟨r25, hvr25, H⟩ := bind_some H
        refine Eo.call rfl rfl rfl rfl (gdovetailref13_SameToks_ok h16 h9 hp17 hvr25) ?_
        rintro _ σ27 ⟨rfl, hp26⟩
        refine Eo.val (x := (.v (.bool (!r25)))) rfl rfl rfl rfl ?_
        refine Eo.val (x := (.v (.bool (!r25)))) rfl rfl rfl rfl ?_
        refine Eo.nil ?_
        obtain rfl := Option.some.inj H
        exact And.intro rfl ⟨(Hp.drop hp26 1), (.cons rfl (.cons rfl (.cons rfl (.nil'))))⟩
      · have H := cond_t hc24 H
        refine Eo.off rfl rfl rfl ?_
        refine Eo.off rfl rfl rfl ?_
        refine Eo.off rfl rfl rfl ?_
        refine Eo.off rfl rfl rfl ?_
        refine Eo.val (x := (.v (.bool true))) rfl rfl rfl rfl ?_
        refine Eo.nil ?_
        obtain rfl := Option.some.inj H
        exact And.intro rfl ⟨(Hp.drop hp17 1), (.cons rfl (.cons rfl (.cons rfl (.nil'))))⟩
    · skip
      intro x φ30 σ29 hJ
      obtain ⟨rfl, hp28, hf31⟩ := hJ
      refine ⟨rfl, Eo.of (F := [(5, a15), (6, (.v (.int .i64 r14))), (29, (.v (.bool x23)))]) hf31 ?_⟩
      refine Eo.nil ?_
      refine Ec.cond (t := x23) rfl (fun hc32 => ?_) (fun hc32 => ?_)
      · have H := cond_t hc32 H
        refine Ec.seq ?_
        refine Ec.region ?_
        refine Eo.val (x := (.v (.bool false))) rfl rfl rfl rfl ?_
        refine Eo.nil ?_
        obtain rfl := Option.some.inj H
        refine Ec.ret ?_
        refine Ret.mk rfl ?_
        exact ⟨rfl, (Hp.drop hp28 0)⟩
      · have H := cond_f hc32 H
        refine Ec.skip ?_
        refine Ec.seq ?_
        refine Ec.seq ?_
        refine Ec.region ?_
        refine Eo.val (x := (.v (.int .i64 r14))) rfl rfl rfl rfl ?_
        refine Eo.val (x := (.v (.bool (r14 != 0)))) rfl rfl rfl rfl ?_
        refine Eo.nil ?_
        refine Ec.cond (t := (r14 != 0)) rfl (fun hc33 => ?_) (fun hc33 => ?_)
        · have H := cond_t hc33 H
          refine Ec.seq ?_
          refine Ec.region ?_
          refine Eo.val (x := (.v (.bool true))) rfl rfl rfl rfl ?_
          refine Eo.nil ?_
          obtain rfl := Option.some.inj H
          refine Ec.ret ?_
          refine Ret.mk rfl ?_
          exact ⟨rfl, (Hp.drop hp28 0)⟩
        · have H := cond_f hc33 H
          refine Ec.skip ?_
          refine Ec.seq ?_
          refine Ec.region ?_
          refine Eo.val (x := a15) rfl rfl rfl rfl ?_
          obtain ⟨r34, hvr34, H⟩ := bind_some H
          refine Eo.call rfl rfl rfl rfl (gasmtext_Join_ok h16 hp28 hvr34) ?_
          rintro _ σ36 ⟨rfl, hp35⟩
          obtain ⟨r37, hvr37, H⟩ := bind_some H
          refine Eo.call rfl rfl rfl rfl (gasmtext_Words_ok hp35 hvr37) ?_
          obtain ⟨r38, r39⟩ := r37
          rintro _ σ43 ⟨a40, rfl, h41, hp42⟩
          change Hp σ43 (.app a40 48 :: .app a15 48 :: R) at hp42
          refine Eo.val (x := (.tup [a40, (.v (.int .i64 r39))])) rfl rfl rfl rfl ?_
          refine Eo.val (x := a40) rfl rfl rfl rfl ?_
          refine Eo.val (x := (.v (.int .i64 r39))) rfl rfl rfl rfl ?_
          refine Eo.val (x := a40) rfl rfl rfl rfl ?_
          refine Eo.val (x := (.v (.int .i64 r39))) rfl rfl rfl rfl ?_
          refine Eo.nil ?_
          refine Ec.seq ?_
          refine Ec.region ?_
          refine Eo.val (x := a15) rfl rfl rfl rfl ?_
          obtain ⟨r44, hvr44, H⟩ := bind_some H
          refine Eo.call rfl rfl rfl rfl (gasmtext_Join_ok h16 hp42 hvr44) ?_
          rintro _ σ46 ⟨rfl, hp45⟩
          refine Eo.val (x := a15) rfl rfl rfl rfl ?_
          obtain ⟨r47, hvr47, H⟩ := bind_some H
          refine Eo.call rfl rfl rfl rfl (gdovetailref13_Join_ok h16 hp45 hvr47) ?_
          rintro _ σ49 ⟨rfl, hp48⟩
          refine Eo.val (x := (.v (.bool (decide (r44 = r47))))) (val_b rfl (seq_eq _ _)) rfl rfl rfl ?_
          refine Eo.val (x := (.v (.bool (decide (r44 = r47))))) rfl rfl rfl rfl ?_
          refine Eo.cutF 3 [(5, a15), (7, a40), (46, (.v (.bool ((decide (r44 = r47)) && (r39 == 0)))))] ?_ ?_
          · skip
            cases hc52 : (decide (r44 = r47))
            · skip
              refine Eo.off rfl rfl rfl ?_
              refine Eo.off rfl rfl rfl ?_
              refine Eo.val (x := (.v (.bool false))) rfl rfl rfl rfl ?_
              exact Eo.nil (And.intro rfl (And.intro rfl (.cons rfl (.cons rfl (.cons rfl (.nil'))))))
            · skip
              refine Eo.val (x := (.v (.int .i64 r39))) rfl rfl rfl rfl ?_
              refine Eo.val (x := (.v (.bool (r39 == 0)))) rfl rfl rfl rfl ?_
              refine Eo.val (x := (.v (.bool (r39 == 0)))) rfl rfl rfl rfl ?_
              exact Eo.nil (And.intro rfl (And.intro rfl (.cons rfl (.cons rfl (.cons rfl (.nil'))))))
          · skip
            refine Eo.val (x := (.v (.bool ((decide (r44 = r47)) && (r39 == 0))))) rfl rfl rfl rfl ?_
            obtain ⟨x59, hv69, H⟩ := bind_some H
            refine Eo.cutN 4 (J := (fun (x59 : Bool) (x : X) (φ : Fr) (s : St) => x = .normal ∧ (Hp s (R) ∧ Fl [(51, (.v (.bool x59)))] φ)) x59) ?_ ?_
            · have H := hv69
              cases hc60 : ((decide (r44 = r47)) && (r39 == 0))
              · have H := cond_f hc60 H
                refine Eo.off rfl rfl rfl ?_
                refine Eo.off rfl rfl rfl ?_
                refine Eo.off rfl rfl rfl ?_
                refine Eo.val (x := (.v (.bool false))) rfl rfl rfl rfl ?_
                refine Eo.nil ?_
                obtain rfl := Option.some.inj H
                exact And.intro rfl ⟨(Hp.drop (Hp.drop hp48 0) 0), (.cons rfl (.nil'))⟩
              · have H := cond_t hc60 H
                refine Eo.val (x := a40) rfl rfl rfl rfl ?_
                refine Eo.val (x := a15) rfl rfl rfl rfl ?_
                obtain ⟨r61, hvr61, H⟩ := bind_some H
                refine Eo.call rfl rfl rfl rfl (gdovetailref13_SameToks_ok h41 h16 hp48 hvr61) ?_
                rintro _ σ63 ⟨rfl, hp62⟩
                refine Eo.val (x := (.v (.bool r61))) rfl rfl rfl rfl ?_
                refine Eo.nil ?_
                obtain rfl := Option.some.inj H
                exact And.intro rfl ⟨(Hp.drop (Hp.drop hp62 0) 0), (.cons rfl (.nil'))⟩
            · skip
              intro x φ66 σ65 hJ
              obtain ⟨rfl, hp64, hf67⟩ := hJ
              refine ⟨rfl, Eo.of (F := [(51, (.v (.bool x59)))]) hf67 ?_⟩
              refine Eo.val (x := (.v (.bool x59))) rfl rfl rfl rfl ?_
              refine Eo.nil ?_
              obtain rfl := Option.some.inj H
              refine Ec.ret ?_
              refine Ret.mk rfl ?_
              exact ⟨rfl, hp64⟩
end Go.DM
