/- Typed functions of the program's functions, and the walks that show that the calls come to them. No condition. -/
import Derived.Test.YtmelajefpihaiaaDoorRuleT
import Derived.Test.YtmelajefpihaiaaDoorWalkT2
namespace Go.DM
open Go Go.Proofs
set_option maxRecDepth 100000
set_option maxHeartbeats 1000000

def gdovetailref03_Count_L1 (N : Nat) (rec : (List TTree) → Option Int) (p0 : (List TTree)) : Nat → Int → Int → Option (Int)
  | 0, _, _ => none
  | m + 1, y19, y20 => (cond (decide (y20 < ((p0.length : Nat) : Int))) (((atL p0 y20).bind fun x39 => ((rec x39.f_Kids).bind fun r51 => gdovetailref03_Count_L1 N rec p0 m (IntKind.wrap .i64 (y19 + r51)) (IntKind.wrap .i64 (y20 + 1))))) (some y19))

def gdovetailref03_Count_rec (N : Nat) : Nat → (List TTree) → Option Int
  | 0, _ => none
  | k + 1, p0 => ((gdovetailref03_Count_L1 N (gdovetailref03_Count_rec N k) p0 N ((p0.length : Nat) : Int) 0).bind fun x37 => some x37)

def gdovetailref03_Count (n : Nat) (p0 : (List TTree)) : Option (Int) := gdovetailref03_Count_rec n n p0

def gdovetailref03_Count_post (R : List Res) (r : Int) (x : A) (s : St) : Prop := x = (.v (.int .i64 r)) ∧ Hp s (R)

theorem gdovetailref03_Count_rec_ok {n : Nat} : ∀ (k : Nat) {p0 : (List TTree)} {a1 : A} {R : List Res} {σ : St} (_h2 : Sl rTTree a1 p0) (_hp : Hp σ R) {r : Int} (_H : gdovetailref03_Count_rec n k p0 = some r), Ca cfg 13 [a1] σ (gdovetailref03_Count_post R r) := by
  intro k
  induction k with
  | zero => intro p0 a1 R σ h2 hp r H; rw [gdovetailref03_Count_rec] at H; cases H
  | succ k ihR =>
    intro p0 a1 R σ h2 hp r H
    rw [gdovetailref03_Count_rec] at H
    refine Ca.enterL (G := [(0, a1)]) Tryd.func13 rfl rfl rfl rfl ?_
    refine Ec.seq ?_
    refine Ec.region ?_
    refine Eo.val (x := (.v (.int .i64 0))) rfl rfl rfl rfl ?_
    refine Eo.nil ?_
    refine Ec.seq ?_
    refine Ec.region ?_
    refine Eo.val (x := a1) rfl rfl rfl rfl ?_
    refine Eo.val (x := (.v (.int .i64 ((p0.length : Nat) : Int)))) (op_lenL h2 rfl rfl rfl rfl rfl Tryd.underlying23) rfl rfl rfl ?_
    refine Eo.val (x := (.v (.int .i64 ((p0.length : Nat) : Int)))) rfl rfl rfl rfl ?_
    refine Eo.nil ?_
    refine Ec.seq ?_
    refine Ec.seq ?_
    refine Ec.region ?_
    refine Eo.val (x := a1) rfl rfl rfl rfl ?_
    refine Eo.val (x := (.v (.int .i64 ((p0.length : Nat) : Int)))) (op_lenL h2 rfl rfl rfl rfl rfl Tryd.underlying23) rfl rfl rfl ?_
    refine Eo.val (x := (.v (.int .i64 0))) rfl rfl rfl rfl ?_
    refine Eo.nil ?_
    refine Ec.block ?_
    obtain ⟨x37, hv55, H⟩ := bind_some H
    refine Ec.cut (J := (fun (x37 : Int) (x : X) (φ : Fr) (s : St) => x = (.exit 0) ∧ (Hp s (R) ∧ Fl [(3, (.v (.int .i64 x37)))] φ)) x37) (Ec.weak (.cons rfl (.cons rfl (.cons rfl (.cons rfl (.nil'))))) (Ec.loopF (f := (fun m (i : (Int × Int) × Unit) => gdovetailref03_Count_L1 n (gdovetailref03_Count_rec n k) p0 m i.1.1 i.1.2)) (G := (fun (i : (Int × Int) × Unit) => ([(3, (.v (.int .i64 i.1.1))), (8, a1), (9, (.v (.int .i64 ((p0.length : Nat) : Int)))), (10, (.v (.int .i64 i.1.2)))] : List (Nat × A)))) (I := (fun (i : (Int × Int) × Unit) (s : St) => Hp s (R))) (J := (fun (x37 : Int) (x : X) (φ : Fr) (s : St) => x = (.exit 0) ∧ (Hp s (R) ∧ Fl [(3, (.v (.int .i64 x37)))] φ))) (fun _ => rfl) ?_ n ((((p0.length : Nat) : Int), 0), ()) _ x37 hp hv55)) ?_
    · rintro m ⟨⟨y19, y20⟩, _⟩ σ0 v hp0 H ih
      change gdovetailref03_Count_L1 n (gdovetailref03_Count_rec n k) p0 (m + 1) y19 y20 = some v at H
      rw [gdovetailref03_Count_L1] at H
      change Ec _ _ _ [(3, (.v (.int .i64 y19))), (8, a1), (9, (.v (.int .i64 ((p0.length : Nat) : Int)))), (10, (.v (.int .i64 y20)))] σ0 _
      refine Ec.seq ?_
      refine Ec.region ?_
      refine Eo.val (x := (.v (.bool (decide (y20 < ((p0.length : Nat) : Int)))))) rfl rfl rfl rfl ?_
      refine Eo.nil ?_
      refine Ec.seq ?_
      refine Ec.cond (t := (decide (y20 < ((p0.length : Nat) : Int)))) rfl (fun hc38 => ?_) (fun hc38 => ?_)
      · have H := cond_t hc38 H
        refine Ec.skip ?_
        refine Ec.seq ?_
        refine Ec.block ?_
        refine Ec.seq ?_
        refine Ec.region ?_
        obtain ⟨x39, hvx39, H⟩ := bind_some H
        refine Eo.idx h2 hvx39 rfl rfl rfl Tryd.underlying23 rfl rfl rfl rfl ?_
        intro cs40 p41 _ hat42 hr45
        obtain ⟨a43, rfl, h44⟩ := rTTree_un hr45
        refine Eo.val (x := (.agg [(.v (.int .i64 x39.f_Kind)), (.v (.string x39.f_Word)), (.v (.int .i64 x39.f_Num)), a43])) (op_loadSpAgg hat42 0 rfl rfl rfl rfl rfl rfl) rfl rfl rfl ?_
        refine Eo.alloc (z := [(.v (.int .i64 0)), (.v (.string (ByteArray.mk #[]))), (.v (.int .i64 0)), nilS]) hp0 rfl rfl rfl rfl rfl ?_
        intro b46 σ48 hp47
        refine Eo.store hp47 0 rfl (storeCells_mk rfl rfl rfl (by simp [allOne, A.cells, h44.isOne]) rfl rfl) rfl rfl rfl rfl rfl ?_
        intro σ50 hp49
        change Hp σ50 (.blk b46 (.cells [(.v (.int .i64 x39.f_Kind)), (.v (.string x39.f_Word)), (.v (.int .i64 x39.f_Num)), a43] 34) :: R) at hp49
        refine Eo.nil ?_
        refine Ec.region ?_
        refine Eo.val (x := (.v (.int .i64 y19))) rfl rfl rfl rfl ?_
        refine Eo.val (x := (.ptr b46 3)) rfl rfl rfl rfl ?_
        refine Eo.val (x := a43) (op_loadB hp49 0 rfl rfl rfl rfl) rfl rfl rfl ?_
        obtain ⟨r51, hvr51, H⟩ := bind_some H
        refine Eo.call rfl rfl rfl rfl (ihR h44 hp49 hvr51) ?_
        rintro _ σ53 ⟨rfl, hp52⟩
        change Hp σ53 (.blk b46 (.cells [(.v (.int .i64 x39.f_Kind)), (.v (.string x39.f_Word)), (.v (.int .i64 x39.f_Num)), a43] 34) :: R) at hp52
        refine Eo.val (x := (.v (.int .i64 (IntKind.wrap .i64 (y19 + r51))))) rfl rfl rfl rfl ?_
        refine Eo.val (x := (.v (.int .i64 (IntKind.wrap .i64 (y19 + r51))))) rfl rfl rfl rfl ?_
        refine Eo.nil ?_
        refine Ec.region ?_
        refine Eo.val (x := (.v (.int .i64 (IntKind.wrap .i64 (y20 + 1))))) rfl rfl rfl rfl ?_
        refine Eo.val (x := (.v (.int .i64 (IntKind.wrap .i64 (y20 + 1))))) rfl rfl rfl rfl ?_
        refine Eo.nil ?_
        exact Ec.of (.cons rfl (.cons rfl (.cons rfl (.cons rfl (.nil'))))) (ih (((IntKind.wrap .i64 (y19 + r51)), (IntKind.wrap .i64 (y20 + 1))), ()) _ (Hp.drop hp52 0) H)
      · have H := cond_f hc38 H
        refine Ec.exit ?_
        obtain rfl := Option.some.inj H
        exact And.intro rfl ⟨hp0, (.cons rfl (.nil'))⟩
    · skip
      intro x φ58 σ57 hJ
      obtain ⟨rfl, hp56, hf59⟩ := hJ
      refine Ec.of (F := [(3, (.v (.int .i64 x37)))]) hf59 ?_
      refine Ec.seq ?_
      refine Ec.region ?_
      refine Eo.val (x := (.v (.int .i64 x37))) rfl rfl rfl rfl ?_
      refine Eo.val (x := (.v (.int .i64 x37))) rfl rfl rfl rfl ?_
      refine Eo.nil ?_
      obtain rfl := Option.some.inj H
      refine Ec.ret ?_
      refine Ret.mk rfl ?_
      exact ⟨rfl, hp56⟩

theorem gdovetailref03_Count_ok {n : Nat} {p0 : (List TTree)} {a1 : A} {R : List Res} {σ : St} (h2 : Sl rTTree a1 p0) (hp : Hp σ R) {r : Int} (H : gdovetailref03_Count n p0 = some r) : Ca cfg 13 [a1] σ (gdovetailref03_Count_post R r) := gdovetailref03_Count_rec_ok n h2 hp H

def gdovetaillaw03_SexpJoins (n : Nat) (p0 : ByteArray) (p1 : ByteArray) : Option (Bool) := ((gdovetaillaw03_sexpAlive n ).bind fun r1 => (cond (!r1) (some false) (((gsexp_Parse n p0).bind fun v => match v with | (r6, _r7, r8) => ((gsexp_Parse n p1).bind fun v => match v with | (r14, _r15, r16) => (((cond ((((r8 != 0) || (r16 != 0)) || (decide (((p0.size : Nat) : Int) ≥ 262144))) || (decide (((p1.size : Nat) : Int) ≥ (IntKind.wrap .i64 (262144 - ((p0.size : Nat) : Int)))))) (some true) (((gdovetailref03_Count n r6).bind fun r45 => ((gdovetailref03_Count n r14).bind fun r48 => some (decide ((IntKind.wrap .i64 (r45 + r48)) > 65536)))))) : Option (Bool)).bind fun x43 => (cond x43 (some true) (((catS p0 (ByteArray.mk #[10])).bind fun s56 => ((catS s56 p1).bind fun s57 => ((gsexp_Parse n s57).bind fun v => match v with | (r59, _r60, r61) => (((cond (r61 == 0) (((appL 56 ([] : List TTree) r6).bind fun l88 => ((appL 56 l88 r14).bind fun l93 => ((gdovetailref03_Same n r59 l93).bind fun r98 => some r98)))) (some false)) : Option (Bool)).bind fun x83 => some x83))))))))))))

def gdovetaillaw03_SexpJoins_post (R : List Res) (r : Bool) (x : A) (s : St) : Prop := x = (.v (.bool r)) ∧ Hp s (R)

theorem gdovetaillaw03_SexpJoins_ok {n : Nat} {p0 : ByteArray} {p1 : ByteArray} {R : List Res} {σ : St} (hp : Hp σ R) {r : Bool} (H : gdovetaillaw03_SexpJoins n p0 p1 = some r) : Ca cfg 5 [(.v (.string p0)), (.v (.string p1))] σ (gdovetaillaw03_SexpJoins_post R r) := by
  unfold gdovetaillaw03_SexpJoins at H
  refine Ca.enterL (G := [(0, (.v (.string p0))), (1, (.v (.string p1)))]) Tryd.func5 rfl rfl rfl rfl ?_
  refine Ec.seq ?_
  refine Ec.region ?_
  refine Eo.val (x := (.v (.bool false))) rfl rfl rfl rfl ?_
  refine Eo.nil ?_
  refine Ec.seq ?_
  refine Ec.seq ?_
  refine Ec.region ?_
  obtain ⟨r1, hvr1, H⟩ := bind_some H
  refine Eo.call rfl rfl rfl rfl (gdovetaillaw03_sexpAlive_ok hp hvr1) ?_
  rintro _ σ3 ⟨rfl, hp2⟩
  refine Eo.val (x := (.v (.bool (!r1)))) rfl rfl rfl rfl ?_
  refine Eo.nil ?_
  refine Ec.cond (t := (!r1)) rfl (fun hc4 => ?_) (fun hc4 => ?_)
  · have H := cond_t hc4 H
    refine Ec.seq ?_
    refine Ec.region ?_
    refine Eo.val (x := (.v (.bool false))) rfl rfl rfl rfl ?_
    refine Eo.nil ?_
    obtain rfl := Option.some.inj H
    refine Ec.ret ?_
    refine Ret.mk rfl ?_
    exact ⟨rfl, hp2⟩
  · have H := cond_f hc4 H
    refine Ec.skip ?_
    refine Ec.seq ?_
    refine Ec.region ?_
    refine Eo.val (x := (.v (.string p0))) rfl rfl rfl rfl ?_
    obtain ⟨r5, hvr5, H⟩ := bind_some H
    refine Eo.call rfl rfl rfl rfl (gsexp_Parse_ok hp2 hvr5) ?_
    obtain ⟨r6, r7, r8⟩ := r5
    rintro _ σ12 ⟨a9, rfl, h10, hp11⟩
    change Hp σ12 (.app a9 34 :: R) at hp11
    refine Eo.val (x := (.tup [a9, (.v (.int .i64 r7)), (.v (.int .i64 r8))])) rfl rfl rfl rfl ?_
    refine Eo.val (x := a9) rfl rfl rfl rfl ?_
    refine Eo.val (x := (.v (.int .i64 r7))) rfl rfl rfl rfl ?_
    refine Eo.val (x := (.v (.int .i64 r8))) rfl rfl rfl rfl ?_
    refine Eo.val (x := a9) rfl rfl rfl rfl ?_
    refine Eo.val (x := (.v (.int .i64 r7))) rfl rfl rfl rfl ?_
    refine Eo.val (x := (.v (.int .i64 r8))) rfl rfl rfl rfl ?_
    refine Eo.nil ?_
    refine Ec.seq ?_
    refine Ec.region ?_
    refine Eo.val (x := (.v (.string p1))) rfl rfl rfl rfl ?_
    obtain ⟨r13, hvr13, H⟩ := bind_some H
    refine Eo.call rfl rfl rfl rfl (gsexp_Parse_ok hp11 hvr13) ?_
    obtain ⟨r14, r15, r16⟩ := r13
    rintro _ σ20 ⟨a17, rfl, h18, hp19⟩
    change Hp σ20 (.app a17 34 :: .app a9 34 :: R) at hp19
    refine Eo.val (x := (.tup [a17, (.v (.int .i64 r15)), (.v (.int .i64 r16))])) rfl rfl rfl rfl ?_
    refine Eo.val (x := a17) rfl rfl rfl rfl ?_
    refine Eo.val (x := (.v (.int .i64 r15))) rfl rfl rfl rfl ?_
    refine Eo.val (x := (.v (.int .i64 r16))) rfl rfl rfl rfl ?_
    refine Eo.val (x := a17) rfl rfl rfl rfl ?_
    refine Eo.val (x := (.v (.int .i64 r15))) rfl rfl rfl rfl ?_
    refine Eo.val (x := (.v (.int .i64 r16))) rfl rfl rfl rfl ?_
    refine Eo.nil ?_
    refine Ec.seq ?_
    refine Ec.seq ?_
    refine Ec.region ?_
    refine Eo.val (x := (.v (.int .i64 r8))) rfl rfl rfl rfl ?_
    refine Eo.val (x := (.v (.bool (r8 != 0)))) rfl rfl rfl rfl ?_
    refine Eo.val (x := (.v (.bool (r8 != 0)))) rfl rfl rfl rfl ?_
    refine Eo.cutF 3 [(0, (.v (.string p0))), (1, (.v (.string p1))), (5, a9), (8, a17), (33, (.v (.bool ((r8 != 0) || (r16 != 0)))))] ?_ ?_
    · skip
      cases hc23 : (r8 != 0)
      · skip
        refine Eo.val (x := (.v (.int .i64 r16))) rfl rfl rfl rfl ?_
        refine Eo.val (x := (.v (.bool (r16 != 0)))) rfl rfl rfl rfl ?_
        refine Eo.val (x := (.v (.bool (r16 != 0)))) rfl rfl rfl rfl ?_
        exact Eo.nil (And.intro rfl (And.intro rfl (.cons rfl (.cons rfl (.cons rfl (.cons rfl (.cons rfl (.nil'))))))))
      · skip
        refine Eo.off rfl rfl rfl ?_
        refine Eo.off rfl rfl rfl ?_
        refine Eo.val (x := (.v (.bool true))) rfl rfl rfl rfl ?_
        exact Eo.nil (And.intro rfl (And.intro rfl (.cons rfl (.cons rfl (.cons rfl (.cons rfl (.cons rfl (.nil'))))))))
    · skip
      refine Eo.val (x := (.v (.bool ((r8 != 0) || (r16 != 0))))) rfl rfl rfl rfl ?_
      refine Eo.cutF 4 [(0, (.v (.string p0))), (1, (.v (.string p1))), (5, a9), (8, a17), (38, (.v (.bool (((r8 != 0) || (r16 != 0)) || (decide (((p0.size : Nat) : Int) ≥ 262144))))))] ?_ ?_
      · skip
        cases hc28 : ((r8 != 0) || (r16 != 0))
        · skip
          refine Eo.val (x := (.v (.string p0))) rfl rfl rfl rfl ?_
          refine Eo.val (x := (.v (.int .i64 ((p0.size : Nat) : Int)))) (op_len rfl rfl rfl rfl rfl Tryd.underlying9) rfl rfl rfl ?_
          refine Eo.val (x := (.v (.bool (decide (((p0.size : Nat) : Int) ≥ 262144))))) rfl rfl rfl rfl ?_
          refine Eo.val (x := (.v (.bool (decide (((p0.size : Nat) : Int) ≥ 262144))))) rfl rfl rfl rfl ?_
          exact Eo.nil (And.intro rfl (And.intro rfl (.cons rfl (.cons rfl (.cons rfl (.cons rfl (.cons rfl (.nil'))))))))
        · skip
          refine Eo.off rfl rfl rfl ?_
          refine Eo.off rfl rfl rfl ?_
          refine Eo.off rfl rfl rfl ?_
          refine Eo.val (x := (.v (.bool true))) rfl rfl rfl rfl ?_
          exact Eo.nil (And.intro rfl (And.intro rfl (.cons rfl (.cons rfl (.cons rfl (.cons rfl (.cons rfl (.nil'))))))))
      · skip
        refine Eo.val (x := (.v (.bool (((r8 != 0) || (r16 != 0)) || (decide (((p0.size : Nat) : Int) ≥ 262144)))))) rfl rfl rfl rfl ?_
        refine Eo.cutF 7 [(0, (.v (.string p0))), (1, (.v (.string p1))), (5, a9), (8, a17), (46, (.v (.bool ((((r8 != 0) || (r16 != 0)) || (decide (((p0.size : Nat) : Int) ≥ 262144))) || (decide (((p1.size : Nat) : Int) ≥ (IntKind.wrap .i64 (262144 - ((p0.size : Nat) : Int)))))))))] ?_ ?_
        · skip
          cases hc33 : (((r8 != 0) || (r16 != 0)) || (decide (((p0.size : Nat) : Int) ≥ 262144)))
          · skip
            refine Eo.val (x := (.v (.string p1))) rfl rfl rfl rfl ?_
            refine Eo.val (x := (.v (.int .i64 ((p1.size : Nat) : Int)))) (op_len rfl rfl rfl rfl rfl Tryd.underlying9) rfl rfl rfl ?_
            refine Eo.val (x := (.v (.string p0))) rfl rfl rfl rfl ?_
            refine Eo.val (x := (.v (.int .i64 ((p0.size : Nat) : Int)))) (op_len rfl rfl rfl rfl rfl Tryd.underlying9) rfl rfl rfl ?_
            refine Eo.val (x := (.v (.int .i64 (IntKind.wrap .i64 (262144 - ((p0.size : Nat) : Int)))))) rfl rfl rfl rfl ?_
            refine Eo.val (x := (.v (.bool (decide (((p1.size : Nat) : Int) ≥ (IntKind.wrap .i64 (262144 - ((p0.size : Nat) : Int)))))))) rfl rfl rfl rfl ?_
            refine Eo.val (x := (.v (.bool (decide (((p1.size : Nat) : Int) ≥ (IntKind.wrap .i64 (262144 - ((p0.size : Nat) : Int)))))))) rfl rfl rfl rfl ?_
            exact Eo.nil (And.intro rfl (And.intro rfl (.cons rfl (.cons rfl (.cons rfl (.cons rfl (.cons rfl (.nil'))))))))
          · skip
            refine Eo.off rfl rfl rfl ?_
            refine Eo.off rfl rfl rfl ?_
            refine Eo.off rfl rfl rfl ?_
            refine Eo.off rfl rfl rfl ?_
            refine Eo.off rfl rfl rfl ?_
            refine Eo.off rfl rfl rfl ?_
            refine Eo.val (x := (.v (.bool true))) rfl rfl rfl rfl ?_
            exact Eo.nil (And.intro rfl (And.intro rfl (.cons rfl (.cons rfl (.cons rfl (.cons rfl (.cons rfl (.nil'))))))))
        · skip
          refine Eo.val (x := (.v (.bool ((((r8 != 0) || (r16 != 0)) || (decide (((p0.size : Nat) : Int) ≥ 262144))) || (decide (((p1.size : Nat) : Int) ≥ (IntKind.wrap .i64 (262144 - ((p0.size : Nat) : Int))))))))) rfl rfl rfl rfl ?_
          obtain ⟨x43, hv108, H⟩ := bind_some H
          refine Eo.cutN 7 (J := (fun (x43 : Bool) (x : X) (φ : Fr) (s : St) => x = .normal ∧ (Hp s (.app a9 34 :: .app a17 34 :: R) ∧ Fl [(0, (.v (.string p0))), (1, (.v (.string p1))), (5, a9), (8, a17), (54, (.v (.bool x43)))] φ)) x43) ?_ ?_
          · have H := hv108
            cases hc44 : ((((r8 != 0) || (r16 != 0)) || (decide (((p0.size : Nat) : Int) ≥ 262144))) || (decide (((p1.size : Nat) : Int) ≥ (IntKind.wrap .i64 (262144 - ((p0.size : Nat) : Int))))))
            · have H := cond_f hc44 H
              refine Eo.val (x := a9) rfl rfl rfl rfl ?_
              obtain ⟨r45, hvr45, H⟩ := bind_some H
              refine Eo.call rfl rfl rfl rfl (gdovetailref03_Count_ok h10 hp19 hvr45) ?_
              rintro _ σ47 ⟨rfl, hp46⟩
              refine Eo.val (x := a17) rfl rfl rfl rfl ?_
              obtain ⟨r48, hvr48, H⟩ := bind_some H
              refine Eo.call rfl rfl rfl rfl (gdovetailref03_Count_ok h18 hp46 hvr48) ?_
              rintro _ σ50 ⟨rfl, hp49⟩
              refine Eo.val (x := (.v (.int .i64 (IntKind.wrap .i64 (r45 + r48))))) rfl rfl rfl rfl ?_
              refine Eo.val (x := (.v (.bool (decide ((IntKind.wrap .i64 (r45 + r48)) > 65536))))) rfl rfl rfl rfl ?_
              refine Eo.val (x := (.v (.bool (decide ((IntKind.wrap .i64 (r45 + r48)) > 65536))))) rfl rfl rfl rfl ?_
              refine Eo.nil ?_
              obtain rfl := Option.some.inj H
              exact And.intro rfl ⟨(Hp.front hp49 1), (.cons rfl (.cons rfl (.cons rfl (.cons rfl (.cons rfl (.nil'))))))⟩
            · have H := cond_t hc44 H
              refine Eo.off rfl rfl rfl ?_
              refine Eo.off rfl rfl rfl ?_
              refine Eo.off rfl rfl rfl ?_
              refine Eo.off rfl rfl rfl ?_
              refine Eo.off rfl rfl rfl ?_
              refine Eo.off rfl rfl rfl ?_
              refine Eo.val (x := (.v (.bool true))) rfl rfl rfl rfl ?_
              refine Eo.nil ?_
              obtain rfl := Option.some.inj H
              exact And.intro rfl ⟨(Hp.front hp19 1), (.cons rfl (.cons rfl (.cons rfl (.cons rfl (.cons rfl (.nil'))))))⟩
          · skip
            intro x φ53 σ52 hJ
            obtain ⟨rfl, hp51, hf54⟩ := hJ
            refine ⟨rfl, Eo.of (F := [(0, (.v (.string p0))), (1, (.v (.string p1))), (5, a9), (8, a17), (54, (.v (.bool x43)))]) hf54 ?_⟩
            refine Eo.nil ?_
            refine Ec.cond (t := x43) rfl (fun hc55 => ?_) (fun hc55 => ?_)
            · have H := cond_t hc55 H
              refine Ec.seq ?_
              refine Ec.region ?_
              refine Eo.val (x := (.v (.bool true))) rfl rfl rfl rfl ?_
              refine Eo.nil ?_
              obtain rfl := Option.some.inj H
              refine Ec.ret ?_
              refine Ret.mk rfl ?_
              exact ⟨rfl, (Hp.drop (Hp.drop hp51 0) 0)⟩
            · have H := cond_f hc55 H
              refine Ec.skip ?_
              refine Ec.seq ?_
              refine Ec.region ?_
              refine Eo.val (x := (.v (.string p0))) rfl rfl rfl rfl ?_
              obtain ⟨s56, hvs56, H⟩ := bind_some H
              refine Eo.val (op_catS hvs56 rfl rfl rfl) rfl rfl rfl ?_
              refine Eo.val (x := (.v (.string p1))) rfl rfl rfl rfl ?_
              obtain ⟨s57, hvs57, H⟩ := bind_some H
              refine Eo.val (op_catS hvs57 rfl rfl rfl) rfl rfl rfl ?_
              obtain ⟨r58, hvr58, H⟩ := bind_some H
              refine Eo.call rfl rfl rfl rfl (gsexp_Parse_ok hp51 hvr58) ?_
              obtain ⟨r59, r60, r61⟩ := r58
              rintro _ σ65 ⟨a62, rfl, h63, hp64⟩
              change Hp σ65 (.app a62 34 :: .app a9 34 :: .app a17 34 :: R) at hp64
              refine Eo.val (x := (.tup [a62, (.v (.int .i64 r60)), (.v (.int .i64 r61))])) rfl rfl rfl rfl ?_
              refine Eo.val (x := a62) rfl rfl rfl rfl ?_
              refine Eo.val (x := (.v (.int .i64 r60))) rfl rfl rfl rfl ?_
              refine Eo.val (x := (.v (.int .i64 r61))) rfl rfl rfl rfl ?_
              refine Eo.val (x := a62) rfl rfl rfl rfl ?_
              refine Eo.val (x := (.v (.int .i64 r60))) rfl rfl rfl rfl ?_
              refine Eo.val (x := (.v (.int .i64 r61))) rfl rfl rfl rfl ?_
              refine Eo.nil ?_
              refine Ec.seq ?_
              refine Ec.region ?_
              refine Eo.val (x := (.v (.int .i64 r61))) rfl rfl rfl rfl ?_
              refine Eo.val (x := (.v (.bool (r61 == 0)))) rfl rfl rfl rfl ?_
              refine Eo.val (x := (.v (.bool (r61 == 0)))) rfl rfl rfl rfl ?_
              obtain ⟨x83, hv106, H⟩ := bind_some H
              refine Eo.cutN 8 (J := (fun (x83 : Bool) (x : X) (φ : Fr) (s : St) => x = .normal ∧ (Hp s (R) ∧ Fl [(74, (.v (.bool x83)))] φ)) x83) ?_ ?_
              · have H := hv106
                cases hc84 : (r61 == 0)
                · have H := cond_f hc84 H
                  refine Eo.off rfl rfl rfl ?_
                  refine Eo.off rfl rfl rfl ?_
                  refine Eo.off rfl rfl rfl ?_
                  refine Eo.off rfl rfl rfl ?_
                  refine Eo.off rfl rfl rfl ?_
                  refine Eo.off rfl rfl rfl ?_
                  refine Eo.off rfl rfl rfl ?_
                  refine Eo.val (x := (.v (.bool false))) rfl rfl rfl rfl ?_
                  refine Eo.nil ?_
                  obtain rfl := Option.some.inj H
                  exact And.intro rfl ⟨(Hp.drop (Hp.drop (Hp.drop hp64 0) 0) 0), (.cons rfl (.nil'))⟩
                · have H := cond_t hc84 H
                  refine Eo.val (x := a62) rfl rfl rfl rfl ?_
                  refine Eo.val (x := (.sl 4 [] .ex)) rfl rfl rfl rfl ?_
                  have hp87 := Hp.appEx hp64 34 4 []
                  refine Eo.val (x := a9) rfl rfl rfl rfl ?_
                  obtain ⟨l88, hvl88, H⟩ := bind_some H
                  refine Eo.append hp87 0 rfl (.inr ⟨_, _, rfl, .nil⟩ : Sl rTTree (.sl 4 [] .ex) ([] : List TTree)) (New.of h10) hvl88 rfl rfl rfl rfl rfl rfl rfl Tryd.underlying23 rfl Tryd.underlying23 rfl rfl rfl rfl rfl rfl rfl rfl ?_
                  intro a89 σ92 h90 hp91
                  change Hp σ92 (.app a89 34 :: .app a62 34 :: .app a9 34 :: .app a17 34 :: R) at hp91
                  refine Eo.val (x := a17) rfl rfl rfl rfl ?_
                  obtain ⟨l93, hvl93, H⟩ := bind_some H
                  refine Eo.append hp91 0 rfl h90 (New.of h18) hvl93 rfl rfl rfl rfl rfl rfl rfl Tryd.underlying23 rfl Tryd.underlying23 rfl rfl rfl rfl rfl rfl rfl rfl ?_
                  intro a94 σ97 h95 hp96
                  change Hp σ97 (.app a94 34 :: .app a62 34 :: .app a9 34 :: .app a17 34 :: R) at hp96
                  obtain ⟨r98, hvr98, H⟩ := bind_some H
                  refine Eo.call rfl rfl rfl rfl (gdovetailref03_Same_ok h63 h95 hp96 hvr98) ?_
                  rintro _ σ100 ⟨rfl, hp99⟩
                  refine Eo.val (x := (.v (.bool r98))) rfl rfl rfl rfl ?_
                  refine Eo.nil ?_
                  obtain rfl := Option.some.inj H
                  exact And.intro rfl ⟨(Hp.drop (Hp.drop (Hp.drop (Hp.drop hp99 0) 0) 0) 0), (.cons rfl (.nil'))⟩
              · skip
                intro x φ103 σ102 hJ
                obtain ⟨rfl, hp101, hf104⟩ := hJ
                refine ⟨rfl, Eo.of (F := [(74, (.v (.bool x83)))]) hf104 ?_⟩
                refine Eo.val (x := (.v (.bool x83))) rfl rfl rfl rfl ?_
                refine Eo.nil ?_
                obtain rfl := Option.some.inj H
                refine Ec.ret ?_
                refine Ret.mk rfl ?_
                exact ⟨rfl, hp101⟩

def gdovetailref03_Deep_L1 (N : Nat) (rec : (List TTree) → Option Int) (p0 : (List TTree)) : Nat → Int → Int → Option (Int)
  | 0, _, _ => none
  | m + 1, y45, y46 => (cond (decide (y46 < ((p0.length : Nat) : Int))) (((((atL p0 y46).bind fun x109 => (cond (x109.f_Kind == 4) (((rec x109.f_Kids).bind fun r122 => (cond (decide ((IntKind.wrap .i64 (r122 + 1)) > y45)) (some (IntKind.wrap .i64 (r122 + 1))) (some y45)))) (some y45))) : Option (Int)).bind fun x108 => gdovetailref03_Deep_L1 N rec p0 m x108 (IntKind.wrap .i64 (y46 + 1)))) (some y45))

def gdovetailref03_Deep_rec (N : Nat) : Nat → (List TTree) → Option Int
  | 0, _ => none
  | k + 1, p0 => ((gdovetailref03_Deep_L1 N (gdovetailref03_Deep_rec N k) p0 N 0 0).bind fun x89 => some x89)

def gdovetailref03_Deep (n : Nat) (p0 : (List TTree)) : Option (Int) := gdovetailref03_Deep_rec n n p0

def gdovetailref03_Deep_post (R : List Res) (r : Int) (x : A) (s : St) : Prop := x = (.v (.int .i64 r)) ∧ Hp s (R)

theorem gdovetailref03_Deep_rec_ok {n : Nat} : ∀ (k : Nat) {p0 : (List TTree)} {a1 : A} {R : List Res} {σ : St} (_h2 : Sl rTTree a1 p0) (_hp : Hp σ R) {r : Int} (_H : gdovetailref03_Deep_rec n k p0 = some r), Ca cfg 14 [a1] σ (gdovetailref03_Deep_post R r) := by
  intro k
  induction k with
  | zero => intro p0 a1 R σ h2 hp r H; rw [gdovetailref03_Deep_rec] at H; cases H
  | succ k ihR =>
    intro p0 a1 R σ h2 hp r H
    rw [gdovetailref03_Deep_rec] at H
    refine Ca.enterL (G := [(0, a1)]) Tryd.func14 rfl rfl rfl rfl ?_
    refine Ec.seq ?_
    refine Ec.region ?_
    refine Eo.val (x := (.v (.int .i64 0))) rfl rfl rfl rfl ?_
    refine Eo.nil ?_
    refine Ec.seq ?_
    refine Ec.region ?_
    refine Eo.val (x := (.v (.int .i64 0))) rfl rfl rfl rfl ?_
    refine Eo.nil ?_
    refine Ec.seq ?_
    refine Ec.seq ?_
    refine Ec.region ?_
    refine Eo.val (x := a1) rfl rfl rfl rfl ?_
    refine Eo.val (x := (.v (.int .i64 ((p0.length : Nat) : Int)))) (op_lenL h2 rfl rfl rfl rfl rfl Tryd.underlying23) rfl rfl rfl ?_
    refine Eo.val (x := (.v (.int .i64 0))) rfl rfl rfl rfl ?_
    refine Eo.nil ?_
    refine Ec.block ?_
    obtain ⟨x89, hv133, H⟩ := bind_some H
    refine Ec.cut (J := (fun (x89 : Int) (x : X) (φ : Fr) (s : St) => x = (.exit 0) ∧ (Hp s (R) ∧ Fl [(3, (.v (.int .i64 x89)))] φ)) x89) (Ec.weak (.cons rfl (.cons rfl (.cons rfl (.cons rfl (.nil'))))) (Ec.loopF (f := (fun m (i : (Int × Int) × Unit) => gdovetailref03_Deep_L1 n (gdovetailref03_Deep_rec n k) p0 m i.1.1 i.1.2)) (G := (fun (i : (Int × Int) × Unit) => ([(3, (.v (.int .i64 i.1.1))), (7, a1), (8, (.v (.int .i64 ((p0.length : Nat) : Int)))), (9, (.v (.int .i64 i.1.2)))] : List (Nat × A)))) (I := (fun (i : (Int × Int) × Unit) (s : St) => Hp s (R))) (J := (fun (x89 : Int) (x : X) (φ : Fr) (s : St) => x = (.exit 0) ∧ (Hp s (R) ∧ Fl [(3, (.v (.int .i64 x89)))] φ))) (fun _ => rfl) ?_ n ((0, 0), ()) _ x89 hp hv133)) ?_
    · rintro m ⟨⟨y45, y46⟩, _⟩ σ0 v hp0 H ih
      change gdovetailref03_Deep_L1 n (gdovetailref03_Deep_rec n k) p0 (m + 1) y45 y46 = some v at H
      rw [gdovetailref03_Deep_L1] at H
      change Ec _ _ _ [(3, (.v (.int .i64 y45))), (7, a1), (8, (.v (.int .i64 ((p0.length : Nat) : Int)))), (9, (.v (.int .i64 y46)))] σ0 _
      refine Ec.seq ?_
      refine Ec.region ?_
      refine Eo.val (x := (.v (.bool (decide (y46 < ((p0.length : Nat) : Int)))))) rfl rfl rfl rfl ?_
      refine Eo.nil ?_
      refine Ec.seq ?_
      refine Ec.cond (t := (decide (y46 < ((p0.length : Nat) : Int)))) rfl (fun hc90 => ?_) (fun hc90 => ?_)
      · have H := cond_t hc90 H
        refine Ec.skip ?_
        refine Ec.seq ?_
        obtain ⟨x108, hv131, H⟩ := bind_some H
        refine Ec.cut (J := (fun (x108 : Int) (x : X) (φ : Fr) (s : St) => x = .normal ∧ (Hp s (R) ∧ Fl [(3, (.v (.int .i64 x108))), (7, a1), (8, (.v (.int .i64 ((p0.length : Nat) : Int)))), (9, (.v (.int .i64 y46)))] φ)) x108) ?_ ?_
        · have H := hv131
          refine Ec.block ?_
          refine Ec.seq ?_
          refine Ec.region ?_
          obtain ⟨x109, hvx109, H⟩ := bind_some H
          refine Eo.idx h2 hvx109 rfl rfl rfl Tryd.underlying23 rfl rfl rfl rfl ?_
          intro cs110 p111 _ hat112 hr115
          obtain ⟨a113, rfl, h114⟩ := rTTree_un hr115
          refine Eo.val (x := (.agg [(.v (.int .i64 x109.f_Kind)), (.v (.string x109.f_Word)), (.v (.int .i64 x109.f_Num)), a113])) (op_loadSpAgg hat112 0 rfl rfl rfl rfl rfl rfl) rfl rfl rfl ?_
          refine Eo.alloc (z := [(.v (.int .i64 0)), (.v (.string (ByteArray.mk #[]))), (.v (.int .i64 0)), nilS]) hp0 rfl rfl rfl rfl rfl ?_
          intro b116 σ118 hp117
          refine Eo.store hp117 0 rfl (storeCells_mk rfl rfl rfl (by simp [allOne, A.cells, h114.isOne]) rfl rfl) rfl rfl rfl rfl rfl ?_
          intro σ120 hp119
          change Hp σ120 (.blk b116 (.cells [(.v (.int .i64 x109.f_Kind)), (.v (.string x109.f_Word)), (.v (.int .i64 x109.f_Num)), a113] 34) :: R) at hp119
          refine Eo.nil ?_
          refine Ec.seq ?_
          refine Ec.region ?_
          refine Eo.val (x := (.ptr b116 0)) rfl rfl rfl rfl ?_
          refine Eo.val (x := (.v (.int .i64 x109.f_Kind))) (op_loadB hp119 0 rfl rfl rfl rfl) rfl rfl rfl ?_
          refine Eo.val (x := (.v (.bool (x109.f_Kind == 4)))) rfl rfl rfl rfl ?_
          refine Eo.nil ?_
          refine Ec.cond (t := (x109.f_Kind == 4)) rfl (fun hc121 => ?_) (fun hc121 => ?_)
          · have H := cond_t hc121 H
            refine Ec.seq ?_
            refine Ec.region ?_
            refine Eo.val (x := (.ptr b116 3)) rfl rfl rfl rfl ?_
            refine Eo.val (x := a113) (op_loadB hp119 0 rfl rfl rfl rfl) rfl rfl rfl ?_
            obtain ⟨r122, hvr122, H⟩ := bind_some H
            refine Eo.call rfl rfl rfl rfl (ihR h114 hp119 hvr122) ?_
            rintro _ σ124 ⟨rfl, hp123⟩
            change Hp σ124 (.blk b116 (.cells [(.v (.int .i64 x109.f_Kind)), (.v (.string x109.f_Word)), (.v (.int .i64 x109.f_Num)), a113] 34) :: R) at hp123
            refine Eo.val (x := (.v (.int .i64 (IntKind.wrap .i64 (r122 + 1))))) rfl rfl rfl rfl ?_
            refine Eo.val (x := (.v (.int .i64 (IntKind.wrap .i64 (r122 + 1))))) rfl rfl rfl rfl ?_
            refine Eo.nil ?_
            refine Ec.seq ?_
            refine Ec.region ?_
            refine Eo.val (x := (.v (.int .i64 (IntKind.wrap .i64 (r122 + 1))))) rfl rfl rfl rfl ?_
            refine Eo.val (x := (.v (.int .i64 y45))) rfl rfl rfl rfl ?_
            refine Eo.val (x := (.v (.bool (decide ((IntKind.wrap .i64 (r122 + 1)) > y45))))) rfl rfl rfl rfl ?_
            refine Eo.nil ?_
            refine Ec.cond (t := (decide ((IntKind.wrap .i64 (r122 + 1)) > y45))) rfl (fun hc125 => ?_) (fun hc125 => ?_)
            · have H := cond_t hc125 H
              refine Ec.region ?_
              refine Eo.val (x := (.v (.int .i64 (IntKind.wrap .i64 (r122 + 1))))) rfl rfl rfl rfl ?_
              refine Eo.val (x := (.v (.int .i64 (IntKind.wrap .i64 (r122 + 1))))) rfl rfl rfl rfl ?_
              refine Eo.nil ?_
              obtain rfl := Option.some.inj H
              exact And.intro rfl ⟨(Hp.drop hp123 0), (.cons rfl (.cons rfl (.cons rfl (.cons rfl (.nil')))))⟩
            · have H := cond_f hc125 H
              refine Ec.skip ?_
              obtain rfl := Option.some.inj H
              exact And.intro rfl ⟨(Hp.drop hp123 0), (.cons rfl (.cons rfl (.cons rfl (.cons rfl (.nil')))))⟩
          · have H := cond_f hc121 H
            refine Ec.skip ?_
            obtain rfl := Option.some.inj H
            exact And.intro rfl ⟨(Hp.drop hp119 0), (.cons rfl (.cons rfl (.cons rfl (.cons rfl (.nil')))))⟩
        · skip
          intro x φ128 σ127 hJ
          obtain ⟨rfl, hp126, hf129⟩ := hJ
          refine Ec.of (F := [(3, (.v (.int .i64 x108))), (7, a1), (8, (.v (.int .i64 ((p0.length : Nat) : Int)))), (9, (.v (.int .i64 y46)))]) hf129 ?_
          refine Ec.region ?_
          refine Eo.val (x := (.v (.int .i64 (IntKind.wrap .i64 (y46 + 1))))) rfl rfl rfl rfl ?_
          refine Eo.val (x := (.v (.int .i64 (IntKind.wrap .i64 (y46 + 1))))) rfl rfl rfl rfl ?_
          refine Eo.nil ?_
          exact Ec.of (.cons rfl (.cons rfl (.cons rfl (.cons rfl (.nil'))))) (ih ((x108, (IntKind.wrap .i64 (y46 + 1))), ()) _ hp126 H)
      · have H := cond_f hc90 H
        refine Ec.exit ?_
        obtain rfl := Option.some.inj H
        exact And.intro rfl ⟨hp0, (.cons rfl (.nil'))⟩
    · skip
      intro x φ136 σ135 hJ
      obtain ⟨rfl, hp134, hf137⟩ := hJ
      refine Ec.of (F := [(3, (.v (.int .i64 x89)))]) hf137 ?_
      refine Ec.seq ?_
      refine Ec.region ?_
      refine Eo.val (x := (.v (.int .i64 x89))) rfl rfl rfl rfl ?_
      refine Eo.val (x := (.v (.int .i64 x89))) rfl rfl rfl rfl ?_
      refine Eo.nil ?_
      obtain rfl := Option.some.inj H
      refine Ec.ret ?_
      refine Ret.mk rfl ?_
      exact ⟨rfl, hp134⟩

theorem gdovetailref03_Deep_ok {n : Nat} {p0 : (List TTree)} {a1 : A} {R : List Res} {σ : St} (h2 : Sl rTTree a1 p0) (hp : Hp σ R) {r : Int} (H : gdovetailref03_Deep n p0 = some r) : Ca cfg 14 [a1] σ (gdovetailref03_Deep_post R r) := gdovetailref03_Deep_rec_ok n h2 hp H

def gdovetaillaw03_SexpWrapped (n : Nat) (p0 : ByteArray) : Option (Bool) := ((gdovetaillaw03_sexpAlive n ).bind fun r1 => (cond (!r1) (some false) (((gsexp_Parse n p0).bind fun v => match v with | (r6, _r7, r8) => (((cond ((r8 != 0) || (decide (((p0.size : Nat) : Int) > 262000))) (some true) (((gdovetailref03_Count n r6).bind fun r24 => some (decide (r24 ≥ 65536))))) : Option (Bool)).bind fun x22 => (((cond x22 (some true) (((gdovetailref03_Deep n r6).bind fun r37 => some (decide (r37 ≥ 32))))) : Option (Bool)).bind fun x35 => (cond x35 (some true) (((catS (ByteArray.mk #[40]) p0).bind fun s45 => ((catS s45 (ByteArray.mk #[10, 41])).bind fun s46 => ((gsexp_Parse n s46).bind fun v => match v with | (r48, _r49, r50) => (((cond ((r50 == 0) && (((r48.length : Nat) : Int) == 1)) (((atL r48 0).bind fun x70 => some (x70.f_Kind == 4))) (some false)) : Option (Bool)).bind fun x68 => (((cond x68 (((atL r48 0).bind fun x94 => ((gdovetailref03_Same n x94.f_Kids r6).bind fun r101 => some r101))) (some false)) : Option (Bool)).bind fun x92 => some x92)))))))))))))

def gdovetaillaw03_SexpWrapped_post (R : List Res) (r : Bool) (x : A) (s : St) : Prop := x = (.v (.bool r)) ∧ Hp s (R)

theorem gdovetaillaw03_SexpWrapped_ok {n : Nat} {p0 : ByteArray} {R : List Res} {σ : St} (hp : Hp σ R) {r : Bool} (H : gdovetaillaw03_SexpWrapped n p0 = some r) : Ca cfg 6 [(.v (.string p0))] σ (gdovetaillaw03_SexpWrapped_post R r) := by
  unfold gdovetaillaw03_SexpWrapped at H
  refine Ca.enterL (G := [(0, (.v (.string p0)))]) Tryd.func6 rfl rfl rfl rfl ?_
  refine Ec.seq ?_
  refine Ec.region ?_
  refine Eo.val (x := (.v (.bool false))) rfl rfl rfl rfl ?_
  refine Eo.nil ?_
  refine Ec.seq ?_
  refine Ec.seq ?_
  refine Ec.region ?_
  obtain ⟨r1, hvr1, H⟩ := bind_some H
  refine Eo.call rfl rfl rfl rfl (gdovetaillaw03_sexpAlive_ok hp hvr1) ?_
  rintro _ σ3 ⟨rfl, hp2⟩
  refine Eo.val (x := (.v (.bool (!r1)))) rfl rfl rfl rfl ?_
  refine Eo.nil ?_
  refine Ec.cond (t := (!r1)) rfl (fun hc4 => ?_) (fun hc4 => ?_)
  · have H := cond_t hc4 H
    refine Ec.seq ?_
    refine Ec.region ?_
    refine Eo.val (x := (.v (.bool false))) rfl rfl rfl rfl ?_
    refine Eo.nil ?_
    obtain rfl := Option.some.inj H
    refine Ec.ret ?_
    refine Ret.mk rfl ?_
    exact ⟨rfl, hp2⟩
  · have H := cond_f hc4 H
    refine Ec.skip ?_
    refine Ec.seq ?_
    refine Ec.region ?_
    refine Eo.val (x := (.v (.string p0))) rfl rfl rfl rfl ?_
    obtain ⟨r5, hvr5, H⟩ := bind_some H
    refine Eo.call rfl rfl rfl rfl (gsexp_Parse_ok hp2 hvr5) ?_
    obtain ⟨r6, r7, r8⟩ := r5
    rintro _ σ12 ⟨a9, rfl, h10, hp11⟩
    change Hp σ12 (.app a9 34 :: R) at hp11
    refine Eo.val (x := (.tup [a9, (.v (.int .i64 r7)), (.v (.int .i64 r8))])) rfl rfl rfl rfl ?_
    refine Eo.val (x := a9) rfl rfl rfl rfl ?_
    refine Eo.val (x := (.v (.int .i64 r7))) rfl rfl rfl rfl ?_
    refine Eo.val (x := (.v (.int .i64 r8))) rfl rfl rfl rfl ?_
    refine Eo.val (x := a9) rfl rfl rfl rfl ?_
    refine Eo.val (x := (.v (.int .i64 r7))) rfl rfl rfl rfl ?_
    refine Eo.val (x := (.v (.int .i64 r8))) rfl rfl rfl rfl ?_
    refine Eo.nil ?_
    refine Ec.seq ?_
    refine Ec.seq ?_
    refine Ec.region ?_
    refine Eo.val (x := (.v (.int .i64 r8))) rfl rfl rfl rfl ?_
    refine Eo.val (x := (.v (.bool (r8 != 0)))) rfl rfl rfl rfl ?_
    refine Eo.val (x := (.v (.bool (r8 != 0)))) rfl rfl rfl rfl ?_
    refine Eo.cutF 4 [(0, (.v (.string p0))), (3, a9), (23, (.v (.bool ((r8 != 0) || (decide (((p0.size : Nat) : Int) > 262000))))))] ?_ ?_
    · skip
      cases hc15 : (r8 != 0)
      · skip
        refine Eo.val (x := (.v (.string p0))) rfl rfl rfl rfl ?_
        refine Eo.val (x := (.v (.int .i64 ((p0.size : Nat) : Int)))) (op_len rfl rfl rfl rfl rfl Tryd.underlying9) rfl rfl rfl ?_
        refine Eo.val (x := (.v (.bool (decide (((p0.size : Nat) : Int) > 262000))))) rfl rfl rfl rfl ?_
        refine Eo.val (x := (.v (.bool (decide (((p0.size : Nat) : Int) > 262000))))) rfl rfl rfl rfl ?_
        exact Eo.nil (And.intro rfl (And.intro rfl (.cons rfl (.cons rfl (.cons rfl (.nil'))))))
      · skip
        refine Eo.off rfl rfl rfl ?_
        refine Eo.off rfl rfl rfl ?_
        refine Eo.off rfl rfl rfl ?_
        refine Eo.val (x := (.v (.bool true))) rfl rfl rfl rfl ?_
        exact Eo.nil (And.intro rfl (And.intro rfl (.cons rfl (.cons rfl (.cons rfl (.nil'))))))
    · skip
      refine Eo.val (x := (.v (.bool ((r8 != 0) || (decide (((p0.size : Nat) : Int) > 262000)))))) rfl rfl rfl rfl ?_
      obtain ⟨x22, hv115, H⟩ := bind_some H
      refine Eo.cutN 4 (J := (fun (x22 : Bool) (x : X) (φ : Fr) (s : St) => x = .normal ∧ (Hp s (.app a9 34 :: R) ∧ Fl [(0, (.v (.string p0))), (3, a9), (28, (.v (.bool x22)))] φ)) x22) ?_ ?_
      · have H := hv115
        cases hc23 : ((r8 != 0) || (decide (((p0.size : Nat) : Int) > 262000)))
        · have H := cond_f hc23 H
          refine Eo.val (x := a9) rfl rfl rfl rfl ?_
          obtain ⟨r24, hvr24, H⟩ := bind_some H
          refine Eo.call rfl rfl rfl rfl (gdovetailref03_Count_ok h10 hp11 hvr24) ?_
          rintro _ σ26 ⟨rfl, hp25⟩
          refine Eo.val (x := (.v (.bool (decide (r24 ≥ 65536))))) rfl rfl rfl rfl ?_
          refine Eo.val (x := (.v (.bool (decide (r24 ≥ 65536))))) rfl rfl rfl rfl ?_
          refine Eo.nil ?_
          obtain rfl := Option.some.inj H
          exact And.intro rfl ⟨hp25, (.cons rfl (.cons rfl (.cons rfl (.nil'))))⟩
        · have H := cond_t hc23 H
          refine Eo.off rfl rfl rfl ?_
          refine Eo.off rfl rfl rfl ?_
          refine Eo.off rfl rfl rfl ?_
          refine Eo.val (x := (.v (.bool true))) rfl rfl rfl rfl ?_
          refine Eo.nil ?_
          obtain rfl := Option.some.inj H
          exact And.intro rfl ⟨hp11, (.cons rfl (.cons rfl (.cons rfl (.nil'))))⟩
      · skip
        intro x φ29 σ28 hJ
        obtain ⟨rfl, hp27, hf30⟩ := hJ
        refine ⟨rfl, Eo.of (F := [(0, (.v (.string p0))), (3, a9), (28, (.v (.bool x22)))]) hf30 ?_⟩
        refine Eo.val (x := (.v (.bool x22))) rfl rfl rfl rfl ?_
        obtain ⟨x35, hv113, H⟩ := bind_some H
        refine Eo.cutN 4 (J := (fun (x35 : Bool) (x : X) (φ : Fr) (s : St) => x = .normal ∧ (Hp s (.app a9 34 :: R) ∧ Fl [(0, (.v (.string p0))), (3, a9), (33, (.v (.bool x35)))] φ)) x35) ?_ ?_
        · have H := hv113
          cases hc36 : x22
          · have H := cond_f hc36 H
            refine Eo.val (x := a9) rfl rfl rfl rfl ?_
            obtain ⟨r37, hvr37, H⟩ := bind_some H
            refine Eo.call rfl rfl rfl rfl (gdovetailref03_Deep_ok h10 hp27 hvr37) ?_
            rintro _ σ39 ⟨rfl, hp38⟩
            refine Eo.val (x := (.v (.bool (decide (r37 ≥ 32))))) rfl rfl rfl rfl ?_
            refine Eo.val (x := (.v (.bool (decide (r37 ≥ 32))))) rfl rfl rfl rfl ?_
            refine Eo.nil ?_
            obtain rfl := Option.some.inj H
            exact And.intro rfl ⟨hp38, (.cons rfl (.cons rfl (.cons rfl (.nil'))))⟩
          · have H := cond_t hc36 H
            refine Eo.off rfl rfl rfl ?_
            refine Eo.off rfl rfl rfl ?_
            refine Eo.off rfl rfl rfl ?_
            refine Eo.val (x := (.v (.bool true))) rfl rfl rfl rfl ?_
            refine Eo.nil ?_
            obtain rfl := Option.some.inj H
            exact And.intro rfl ⟨hp27, (.cons rfl (.cons rfl (.cons rfl (.nil'))))⟩
        · skip
          intro x φ42 σ41 hJ
          obtain ⟨rfl, hp40, hf43⟩ := hJ
          refine ⟨rfl, Eo.of (F := [(0, (.v (.string p0))), (3, a9), (33, (.v (.bool x35)))]) hf43 ?_⟩
          refine Eo.nil ?_
          refine Ec.cond (t := x35) rfl (fun hc44 => ?_) (fun hc44 => ?_)
          · have H := cond_t hc44 H
            refine Ec.seq ?_
            refine Ec.region ?_
            refine Eo.val (x := (.v (.bool true))) rfl rfl rfl rfl ?_
            refine Eo.nil ?_
            obtain rfl := Option.some.inj H
            refine Ec.ret ?_
            refine Ret.mk rfl ?_
            exact ⟨rfl, (Hp.drop hp40 0)⟩
          · have H := cond_f hc44 H
            refine Ec.skip ?_
            refine Ec.seq ?_
            refine Ec.region ?_
            refine Eo.val (x := (.v (.string p0))) rfl rfl rfl rfl ?_
            obtain ⟨s45, hvs45, H⟩ := bind_some H
            refine Eo.val (op_catS hvs45 rfl rfl rfl) rfl rfl rfl ?_
            obtain ⟨s46, hvs46, H⟩ := bind_some H
            refine Eo.val (op_catS hvs46 rfl rfl rfl) rfl rfl rfl ?_
            obtain ⟨r47, hvr47, H⟩ := bind_some H
            refine Eo.call rfl rfl rfl rfl (gsexp_Parse_ok hp40 hvr47) ?_
            obtain ⟨r48, r49, r50⟩ := r47
            rintro _ σ54 ⟨a51, rfl, h52, hp53⟩
            change Hp σ54 (.app a51 34 :: .app a9 34 :: R) at hp53
            refine Eo.val (x := (.tup [a51, (.v (.int .i64 r49)), (.v (.int .i64 r50))])) rfl rfl rfl rfl ?_
            refine Eo.val (x := a51) rfl rfl rfl rfl ?_
            refine Eo.val (x := (.v (.int .i64 r49))) rfl rfl rfl rfl ?_
            refine Eo.val (x := (.v (.int .i64 r50))) rfl rfl rfl rfl ?_
            refine Eo.val (x := a51) rfl rfl rfl rfl ?_
            refine Eo.val (x := (.v (.int .i64 r49))) rfl rfl rfl rfl ?_
            refine Eo.val (x := (.v (.int .i64 r50))) rfl rfl rfl rfl ?_
            refine Eo.nil ?_
            refine Ec.seq ?_
            refine Ec.region ?_
            refine Eo.val (x := (.v (.int .i64 r50))) rfl rfl rfl rfl ?_
            refine Eo.val (x := (.v (.bool (r50 == 0)))) rfl rfl rfl rfl ?_
            refine Eo.val (x := (.v (.bool (r50 == 0)))) rfl rfl rfl rfl ?_
            refine Eo.cutF 4 [(3, a9), (6, a51), (48, (.v (.bool ((r50 == 0) && (((r48.length : Nat) : Int) == 1)))))] ?_ ?_
            · skip
              cases hc57 : (r50 == 0)
              · skip
                refine Eo.off rfl rfl rfl ?_
                refine Eo.off rfl rfl rfl ?_
                refine Eo.off rfl rfl rfl ?_
                refine Eo.val (x := (.v (.bool false))) rfl rfl rfl rfl ?_
                exact Eo.nil (And.intro rfl (And.intro rfl (.cons rfl (.cons rfl (.cons rfl (.nil'))))))
              · skip
                refine Eo.val (x := a51) rfl rfl rfl rfl ?_
                refine Eo.val (x := (.v (.int .i64 ((r48.length : Nat) : Int)))) (op_lenL h52 rfl rfl rfl rfl rfl Tryd.underlying23) rfl rfl rfl ?_
                refine Eo.val (x := (.v (.bool (((r48.length : Nat) : Int) == 1)))) rfl rfl rfl rfl ?_
                refine Eo.val (x := (.v (.bool (((r48.length : Nat) : Int) == 1)))) rfl rfl rfl rfl ?_
                exact Eo.nil (And.intro rfl (And.intro rfl (.cons rfl (.cons rfl (.cons rfl (.nil'))))))
            · skip
              refine Eo.val (x := (.v (.bool ((r50 == 0) && (((r48.length : Nat) : Int) == 1))))) rfl rfl rfl rfl ?_
              obtain ⟨x68, hv111, H⟩ := bind_some H
              refine Eo.cutN 6 (J := (fun (x68 : Bool) (x : X) (φ : Fr) (s : St) => x = .normal ∧ (Hp s (.app a9 34 :: .app a51 34 :: R) ∧ Fl [(3, a9), (6, a51), (55, (.v (.bool x68)))] φ)) x68) ?_ ?_
              · have H := hv111
                cases hc69 : ((r50 == 0) && (((r48.length : Nat) : Int) == 1))
                · have H := cond_f hc69 H
                  refine Eo.off rfl rfl rfl ?_
                  refine Eo.off rfl rfl rfl ?_
                  refine Eo.off rfl rfl rfl ?_
                  refine Eo.off rfl rfl rfl ?_
                  refine Eo.off rfl rfl rfl ?_
                  refine Eo.val (x := (.v (.bool false))) rfl rfl rfl rfl ?_
                  refine Eo.nil ?_
                  obtain rfl := Option.some.inj H
                  exact And.intro rfl ⟨(Hp.front hp53 1), (.cons rfl (.cons rfl (.cons rfl (.nil'))))⟩
                · have H := cond_t hc69 H
                  refine Eo.val (x := a51) rfl rfl rfl rfl ?_
                  obtain ⟨x70, hvx70, H⟩ := bind_some H
                  refine Eo.idx h52 hvx70 rfl rfl rfl Tryd.underlying23 rfl rfl rfl rfl ?_
                  intro cs71 p72 _ hat73 hr76
                  obtain ⟨a74, rfl, h75⟩ := rTTree_un hr76
                  refine Eo.val (x := (.sp cs71 p72 .no)) rfl rfl rfl rfl ?_
                  refine Eo.val (x := (.v (.int .i64 x70.f_Kind))) (op_loadSp hat73 0 rfl rfl rfl rfl rfl) rfl rfl rfl ?_
                  refine Eo.val (x := (.v (.bool (x70.f_Kind == 4)))) rfl rfl rfl rfl ?_
                  refine Eo.val (x := (.v (.bool (x70.f_Kind == 4)))) rfl rfl rfl rfl ?_
                  refine Eo.nil ?_
                  obtain rfl := Option.some.inj H
                  exact And.intro rfl ⟨(Hp.front hp53 1), (.cons rfl (.cons rfl (.cons rfl (.nil'))))⟩
              · skip
                intro x φ79 σ78 hJ
                obtain ⟨rfl, hp77, hf80⟩ := hJ
                refine ⟨rfl, Eo.of (F := [(3, a9), (6, a51), (55, (.v (.bool x68)))]) hf80 ?_⟩
                refine Eo.val (x := (.v (.bool x68))) rfl rfl rfl rfl ?_
                obtain ⟨x92, hv109, H⟩ := bind_some H
                refine Eo.cutN 7 (J := (fun (x92 : Bool) (x : X) (φ : Fr) (s : St) => x = .normal ∧ (Hp s (R) ∧ Fl [(63, (.v (.bool x92)))] φ)) x92) ?_ ?_
                · have H := hv109
                  cases hc93 : x68
                  · have H := cond_f hc93 H
                    refine Eo.off rfl rfl rfl ?_
                    refine Eo.off rfl rfl rfl ?_
                    refine Eo.off rfl rfl rfl ?_
                    refine Eo.off rfl rfl rfl ?_
                    refine Eo.off rfl rfl rfl ?_
                    refine Eo.off rfl rfl rfl ?_
                    refine Eo.val (x := (.v (.bool false))) rfl rfl rfl rfl ?_
                    refine Eo.nil ?_
                    obtain rfl := Option.some.inj H
                    exact And.intro rfl ⟨(Hp.drop (Hp.drop hp77 0) 0), (.cons rfl (.nil'))⟩
                  · have H := cond_t hc93 H
                    refine Eo.val (x := a51) rfl rfl rfl rfl ?_
                    obtain ⟨x94, hvx94, H⟩ := bind_some H
                    refine Eo.idx h52 hvx94 rfl rfl rfl Tryd.underlying23 rfl rfl rfl rfl ?_
                    intro cs95 p96 _ hat97 hr100
                    obtain ⟨a98, rfl, h99⟩ := rTTree_un hr100
                    refine Eo.val (x := (.sp cs95 (p96 + 3) .no)) rfl rfl rfl rfl ?_
                    refine Eo.val (x := a98) (op_loadSp hat97 3 rfl rfl rfl rfl rfl) rfl rfl rfl ?_
                    refine Eo.val (x := a9) rfl rfl rfl rfl ?_
                    obtain ⟨r101, hvr101, H⟩ := bind_some H
                    refine Eo.call rfl rfl rfl rfl (gdovetailref03_Same_ok h99 h10 hp77 hvr101) ?_
                    rintro _ σ103 ⟨rfl, hp102⟩
                    refine Eo.val (x := (.v (.bool r101))) rfl rfl rfl rfl ?_
                    refine Eo.nil ?_
                    obtain rfl := Option.some.inj H
                    exact And.intro rfl ⟨(Hp.drop (Hp.drop hp102 0) 0), (.cons rfl (.nil'))⟩
                · skip
                  intro x φ106 σ105 hJ
                  obtain ⟨rfl, hp104, hf107⟩ := hJ
                  refine ⟨rfl, Eo.of (F := [(63, (.v (.bool x92)))]) hf107 ?_⟩
                  refine Eo.val (x := (.v (.bool x92))) rfl rfl rfl rfl ?_
                  refine Eo.nil ?_
                  obtain rfl := Option.some.inj H
                  refine Ec.ret ?_
                  refine Ret.mk rfl ?_
                  exact ⟨rfl, hp104⟩

def gdovetailref03_Copy_L1 (N : Nat) (rec : (List TTree) → Option (List TTree)) (p0 : (List TTree)) : Nat → (List TTree) → Int → Option ((List TTree))
  | 0, _, _ => none
  | m + 1, y37, y40 => (cond (decide (y40 < ((p0.length : Nat) : Int))) (((atL p0 y40).bind fun x74 => ((rec x74.f_Kids).bind fun r86 => ((appL 56 y37 ([(TTree.mk x74.f_Kind x74.f_Word x74.f_Num r86)] : List TTree)).bind fun l97 => gdovetailref03_Copy_L1 N rec p0 m l97 (IntKind.wrap .i64 (y40 + 1)))))) (some y37))

def gdovetailref03_Copy_rec (N : Nat) : Nat → (List TTree) → Option (List TTree)
  | 0, _ => none
  | k + 1, p0 => ((gdovetailref03_Copy_L1 N (gdovetailref03_Copy_rec N k) p0 N ([] : List TTree) 0).bind fun x70 => some x70)

def gdovetailref03_Copy (n : Nat) (p0 : (List TTree)) : Option ((List TTree)) := gdovetailref03_Copy_rec n n p0

def gdovetailref03_Copy_post (R : List Res) (r : (List TTree)) (x : A) (s : St) : Prop := ∃ (a3 : A), x = a3 ∧ Sl rTTree a3 r ∧ Hp s (.app a3 34 :: R)

theorem gdovetailref03_Copy_rec_ok {n : Nat} : ∀ (k : Nat) {p0 : (List TTree)} {a1 : A} {R : List Res} {σ : St} (_h2 : Sl rTTree a1 p0) (_hp : Hp σ R) {r : (List TTree)} (_H : gdovetailref03_Copy_rec n k p0 = some r), Ca cfg 15 [a1] σ (gdovetailref03_Copy_post R r) := by
  intro k
  induction k with
  | zero => intro p0 a1 R σ h2 hp r H; rw [gdovetailref03_Copy_rec] at H; cases H
  | succ k ihR =>
    intro p0 a1 R σ h2 hp r H
    rw [gdovetailref03_Copy_rec] at H
    refine Ca.enterL (G := [(0, a1)]) Tryd.func15 rfl rfl rfl rfl ?_
    refine Ec.seq ?_
    refine Ec.region ?_
    refine Eo.val (x := nilS) rfl rfl rfl rfl ?_
    refine Eo.nil ?_
    refine Ec.seq ?_
    refine Ec.region ?_
    refine Eo.val (x := (.sl 4 [] .ex)) rfl rfl rfl rfl ?_
    have hp7 := Hp.appEx hp 34 4 []
    refine Eo.val (x := (.sl 4 [] .ex)) rfl rfl rfl rfl ?_
    refine Eo.nil ?_
    refine Ec.seq ?_
    refine Ec.seq ?_
    refine Ec.region ?_
    refine Eo.val (x := a1) rfl rfl rfl rfl ?_
    refine Eo.val (x := (.v (.int .i64 ((p0.length : Nat) : Int)))) (op_lenL h2 rfl rfl rfl rfl rfl Tryd.underlying23) rfl rfl rfl ?_
    refine Eo.val (x := (.v (.int .i64 0))) rfl rfl rfl rfl ?_
    refine Eo.nil ?_
    refine Ec.block ?_
    obtain ⟨x70, hv103, H⟩ := bind_some H
    refine Ec.cut (J := (fun (x70 : (List TTree)) (x : X) (φ : Fr) (s : St) => x = (.exit 0) ∧ (∃ (a71 : A), Sl rTTree a71 x70 ∧ Hp s (.app a71 34 :: R) ∧ Fl [(3, a71)] φ)) x70) (Ec.weak (.cons rfl (.cons rfl (.cons rfl (.cons rfl (.nil'))))) (Ec.loopF (f := (fun m (i : ((List TTree) × Int) × A) => gdovetailref03_Copy_L1 n (gdovetailref03_Copy_rec n k) p0 m i.1.1 i.1.2)) (G := (fun (i : ((List TTree) × Int) × A) => ([(3, i.2), (7, a1), (8, (.v (.int .i64 ((p0.length : Nat) : Int)))), (9, (.v (.int .i64 i.1.2)))] : List (Nat × A)))) (I := (fun (i : ((List TTree) × Int) × A) (s : St) => Sl rTTree i.2 i.1.1 ∧ Hp s (.app i.2 34 :: R))) (J := (fun (x70 : (List TTree)) (x : X) (φ : Fr) (s : St) => x = (.exit 0) ∧ (∃ (a71 : A), Sl rTTree a71 x70 ∧ Hp s (.app a71 34 :: R) ∧ Fl [(3, a71)] φ))) (fun _ => rfl) ?_ n ((([] : List TTree), 0), (.sl 4 [] .ex)) _ x70 ⟨(.inr ⟨_, _, rfl, .nil⟩ : Sl rTTree (.sl 4 [] .ex) ([] : List TTree)), hp7⟩ hv103)) ?_
    · rintro m ⟨⟨y37, y40⟩, a38⟩ σ0 v ⟨h39, hp0⟩ H ih
      change gdovetailref03_Copy_L1 n (gdovetailref03_Copy_rec n k) p0 (m + 1) y37 y40 = some v at H
      rw [gdovetailref03_Copy_L1] at H
      change Ec _ _ _ [(3, a38), (7, a1), (8, (.v (.int .i64 ((p0.length : Nat) : Int)))), (9, (.v (.int .i64 y40)))] σ0 _
      refine Ec.seq ?_
      refine Ec.region ?_
      refine Eo.val (x := (.v (.bool (decide (y40 < ((p0.length : Nat) : Int)))))) rfl rfl rfl rfl ?_
      refine Eo.nil ?_
      refine Ec.seq ?_
      refine Ec.cond (t := (decide (y40 < ((p0.length : Nat) : Int)))) rfl (fun hc73 => ?_) (fun hc73 => ?_)
      · have H := cond_t hc73 H
        refine Ec.skip ?_
        refine Ec.seq ?_
        refine Ec.block ?_
        refine Ec.seq ?_
        refine Ec.region ?_
        obtain ⟨x74, hvx74, H⟩ := bind_some H
        refine Eo.idx h2 hvx74 rfl rfl rfl Tryd.underlying23 rfl rfl rfl rfl ?_
        intro cs75 p76 _ hat77 hr80
        obtain ⟨a78, rfl, h79⟩ := rTTree_un hr80
        refine Eo.val (x := (.agg [(.v (.int .i64 x74.f_Kind)), (.v (.string x74.f_Word)), (.v (.int .i64 x74.f_Num)), a78])) (op_loadSpAgg hat77 0 rfl rfl rfl rfl rfl rfl) rfl rfl rfl ?_
        refine Eo.alloc (z := [(.v (.int .i64 0)), (.v (.string (ByteArray.mk #[]))), (.v (.int .i64 0)), nilS]) hp0 rfl rfl rfl rfl rfl ?_
        intro b81 σ83 hp82
        refine Eo.store hp82 0 rfl (storeCells_mk rfl rfl rfl (by simp [allOne, A.cells, h79.isOne]) rfl rfl) rfl rfl rfl rfl rfl ?_
        intro σ85 hp84
        change Hp σ85 (.blk b81 (.cells [(.v (.int .i64 x74.f_Kind)), (.v (.string x74.f_Word)), (.v (.int .i64 x74.f_Num)), a78] 34) :: .app a38 34 :: R) at hp84
        refine Eo.nil ?_
        refine Ec.seq ?_
        refine Ec.region ?_
        refine Eo.val (x := (.ptr b81 3)) rfl rfl rfl rfl ?_
        refine Eo.val (x := a78) (op_loadB hp84 0 rfl rfl rfl rfl) rfl rfl rfl ?_
        obtain ⟨r86, hvr86, H⟩ := bind_some H
        refine Eo.call rfl rfl rfl rfl (ihR h79 hp84 hvr86) ?_
        rintro a87 σ90 ⟨_, rfl, h88, hp89⟩
        change Hp σ90 (.app a87 34 :: .blk b81 (.cells [(.v (.int .i64 x74.f_Kind)), (.v (.string x74.f_Word)), (.v (.int .i64 x74.f_Num)), a78] 34) :: .app a38 34 :: R) at hp89
        refine Eo.val (x := (.ptr b81 3)) rfl rfl rfl rfl ?_
        refine Eo.store hp89 1 rfl (storeCells_mk (h88.cells) rfl rfl (by simp [allOne, h88.isOne]) rfl rfl) rfl rfl rfl rfl rfl ?_
        intro σ92 hp91
        change Hp σ92 (.app a87 34 :: .blk b81 (.cells [(.v (.int .i64 x74.f_Kind)), (.v (.string x74.f_Word)), (.v (.int .i64 x74.f_Num)), a87] 34) :: .app a38 34 :: R) at hp91
        refine Eo.nil ?_
        refine Ec.region ?_
        refine Eo.val (x := a38) rfl rfl rfl rfl ?_
        refine Eo.val (x := (.agg [(.v (.int .i64 x74.f_Kind)), (.v (.string x74.f_Word)), (.v (.int .i64 x74.f_Num)), a87])) (op_loadB hp91 1 rfl rfl rfl rfl) rfl rfl rfl ?_
        refine Eo.val (x := (.sl 4 [(.v (.int .i64 x74.f_Kind)), (.v (.string x74.f_Word)), (.v (.int .i64 x74.f_Num)), a87] .ex)) (op_buildS (lay_cons rfl rfl rfl rfl rfl lay_nil) rfl (parts_cons rfl rfl rfl) Tryd.underlying23 rfl rfl rfl rfl (by decide) rfl) rfl rfl rfl ?_
        have h96 : Sl rTTree (.sl 4 [(.v (.int .i64 x74.f_Kind)), (.v (.string x74.f_Word)), (.v (.int .i64 x74.f_Num)), a87] .ex) ([(TTree.mk x74.f_Kind x74.f_Word x74.f_Num r86)] : List TTree) := .inr ⟨_, _, rfl, (.cons (c := [(.v (.int .i64 x74.f_Kind)), (.v (.string x74.f_Word)), (.v (.int .i64 x74.f_Num)), a87]) (rTTree_of ⟨a87, rfl, h88⟩) .nil)⟩
        have hp95 := Hp.appEx hp91 34 4 [(.v (.int .i64 x74.f_Kind)), (.v (.string x74.f_Word)), (.v (.int .i64 x74.f_Num)), a87]
        obtain ⟨l97, hvl97, H⟩ := bind_some H
        refine Eo.append hp95 3 rfl h39 (New.of h96) hvl97 rfl rfl rfl rfl rfl rfl rfl Tryd.underlying23 rfl Tryd.underlying23 rfl rfl rfl rfl rfl rfl rfl rfl ?_
        intro a98 σ101 h99 hp100
        change Hp σ101 (.app (.sl 4 [(.v (.int .i64 x74.f_Kind)), (.v (.string x74.f_Word)), (.v (.int .i64 x74.f_Num)), a87] .ex) 34 :: .app a87 34 :: .blk b81 (.cells [(.v (.int .i64 x74.f_Kind)), (.v (.string x74.f_Word)), (.v (.int .i64 x74.f_Num)), a87] 34) :: .app a98 34 :: R) at hp100
        refine Eo.val (x := a98) rfl rfl rfl rfl ?_
        refine Eo.nil ?_
        refine Ec.region ?_
        refine Eo.val (x := (.v (.int .i64 (IntKind.wrap .i64 (y40 + 1))))) rfl rfl rfl rfl ?_
        refine Eo.val (x := (.v (.int .i64 (IntKind.wrap .i64 (y40 + 1))))) rfl rfl rfl rfl ?_
        refine Eo.nil ?_
        exact Ec.of (.cons rfl (.cons rfl (.cons rfl (.cons rfl (.nil'))))) (ih ((l97, (IntKind.wrap .i64 (y40 + 1))), a98) _ ⟨h99, (Hp.drop (Hp.drop (Hp.drop hp100 0) 0) 0)⟩ H)
      · have H := cond_f hc73 H
        refine Ec.exit ?_
        obtain rfl := Option.some.inj H
        exact And.intro rfl ⟨a38, h39, hp0, (.cons rfl (.nil'))⟩
    · skip
      intro x φ106 σ105 hJ
      obtain ⟨rfl, a71, h72, hp104, hf107⟩ := hJ
      refine Ec.of (F := [(3, a71)]) hf107 ?_
      refine Ec.seq ?_
      refine Ec.region ?_
      refine Eo.val (x := a71) rfl rfl rfl rfl ?_
      refine Eo.val (x := a71) rfl rfl rfl rfl ?_
      refine Eo.nil ?_
      obtain rfl := Option.some.inj H
      refine Ec.ret ?_
      refine Ret.mk rfl ?_
      exact ⟨a71, rfl, h72, hp104⟩

theorem gdovetailref03_Copy_ok {n : Nat} {p0 : (List TTree)} {a1 : A} {R : List Res} {σ : St} (h2 : Sl rTTree a1 p0) (hp : Hp σ R) {r : (List TTree)} (H : gdovetailref03_Copy n p0 = some r) : Ca cfg 15 [a1] σ (gdovetailref03_Copy_post R r) := gdovetailref03_Copy_rec_ok n h2 hp H

def gdovetailref03_In (_n : Nat) (p0 : Int) : Option (Bool) := some ((((((decide (p0 > 32)) && (decide (p0 < 127))) && (p0 != 40)) && (p0 != 41)) && (p0 != 34)) && (p0 != 59))

def gdovetailref03_In_post (R : List Res) (r : Bool) (x : A) (s : St) : Prop := x = (.v (.bool r)) ∧ Hp s (R)

theorem gdovetailref03_In_ok {n : Nat} {p0 : Int} {R : List Res} {σ : St} (hp : Hp σ R) {r : Bool} (H : gdovetailref03_In n p0 = some r) : Ca cfg 29 [(.v (.int .u8 p0))] σ (gdovetailref03_In_post R r) := by
  unfold gdovetailref03_In at H
  refine Ca.enterL (G := [(0, (.v (.int .u8 p0)))]) Tryd.func29 rfl rfl rfl rfl ?_
  refine Ec.seq ?_
  refine Ec.region ?_
  refine Eo.val (x := (.v (.bool false))) rfl rfl rfl rfl ?_
  refine Eo.nil ?_
  refine Ec.seq ?_
  refine Ec.region ?_
  refine Eo.val (x := (.v (.int .u8 p0))) rfl rfl rfl rfl ?_
  refine Eo.val (x := (.v (.bool (decide (p0 > 32))))) rfl rfl rfl rfl ?_
  refine Eo.val (x := (.v (.bool (decide (p0 > 32))))) rfl rfl rfl rfl ?_
  refine Eo.cutF 3 [(0, (.v (.int .u8 p0))), (2, (.v (.bool false))), (8, (.v (.bool ((decide (p0 > 32)) && (decide (p0 < 127))))))] ?_ ?_
  · skip
    cases hc3 : (decide (p0 > 32))
    · skip
      refine Eo.off rfl rfl rfl ?_
      refine Eo.off rfl rfl rfl ?_
      refine Eo.val (x := (.v (.bool false))) rfl rfl rfl rfl ?_
      exact Eo.nil (And.intro rfl (And.intro rfl (.cons rfl (.cons rfl (.cons rfl (.nil'))))))
    · skip
      refine Eo.val (x := (.v (.int .u8 p0))) rfl rfl rfl rfl ?_
      refine Eo.val (x := (.v (.bool (decide (p0 < 127))))) rfl rfl rfl rfl ?_
      refine Eo.val (x := (.v (.bool (decide (p0 < 127))))) rfl rfl rfl rfl ?_
      exact Eo.nil (And.intro rfl (And.intro rfl (.cons rfl (.cons rfl (.cons rfl (.nil'))))))
  · skip
    refine Eo.val (x := (.v (.bool ((decide (p0 > 32)) && (decide (p0 < 127)))))) rfl rfl rfl rfl ?_
    refine Eo.cutF 3 [(0, (.v (.int .u8 p0))), (2, (.v (.bool false))), (12, (.v (.bool (((decide (p0 > 32)) && (decide (p0 < 127))) && (p0 != 40)))))] ?_ ?_
    · skip
      cases hc8 : ((decide (p0 > 32)) && (decide (p0 < 127)))
      · skip
        refine Eo.off rfl rfl rfl ?_
        refine Eo.off rfl rfl rfl ?_
        refine Eo.val (x := (.v (.bool false))) rfl rfl rfl rfl ?_
        exact Eo.nil (And.intro rfl (And.intro rfl (.cons rfl (.cons rfl (.cons rfl (.nil'))))))
      · skip
        refine Eo.val (x := (.v (.int .u8 p0))) rfl rfl rfl rfl ?_
        refine Eo.val (x := (.v (.bool (p0 != 40)))) rfl rfl rfl rfl ?_
        refine Eo.val (x := (.v (.bool (p0 != 40)))) rfl rfl rfl rfl ?_
        exact Eo.nil (And.intro rfl (And.intro rfl (.cons rfl (.cons rfl (.cons rfl (.nil'))))))
    · skip
      refine Eo.val (x := (.v (.bool (((decide (p0 > 32)) && (decide (p0 < 127))) && (p0 != 40))))) rfl rfl rfl rfl ?_
      refine Eo.cutF 3 [(0, (.v (.int .u8 p0))), (2, (.v (.bool false))), (16, (.v (.bool ((((decide (p0 > 32)) && (decide (p0 < 127))) && (p0 != 40)) && (p0 != 41)))))] ?_ ?_
      · skip
        cases hc13 : (((decide (p0 > 32)) && (decide (p0 < 127))) && (p0 != 40))
        · skip
          refine Eo.off rfl rfl rfl ?_
          refine Eo.off rfl rfl rfl ?_
          refine Eo.val (x := (.v (.bool false))) rfl rfl rfl rfl ?_
          exact Eo.nil (And.intro rfl (And.intro rfl (.cons rfl (.cons rfl (.cons rfl (.nil'))))))
        · skip
          refine Eo.val (x := (.v (.int .u8 p0))) rfl rfl rfl rfl ?_
          refine Eo.val (x := (.v (.bool (p0 != 41)))) rfl rfl rfl rfl ?_
          refine Eo.val (x := (.v (.bool (p0 != 41)))) rfl rfl rfl rfl ?_
          exact Eo.nil (And.intro rfl (And.intro rfl (.cons rfl (.cons rfl (.cons rfl (.nil'))))))
      · skip
        refine Eo.val (x := (.v (.bool ((((decide (p0 > 32)) && (decide (p0 < 127))) && (p0 != 40)) && (p0 != 41))))) rfl rfl rfl rfl ?_
        refine Eo.cutF 3 [(0, (.v (.int .u8 p0))), (2, (.v (.bool false))), (20, (.v (.bool (((((decide (p0 > 32)) && (decide (p0 < 127))) && (p0 != 40)) && (p0 != 41)) && (p0 != 34)))))] ?_ ?_
        · skip
          cases hc18 : ((((decide (p0 > 32)) && (decide (p0 < 127))) && (p0 != 40)) && (p0 != 41))
          · skip
            refine Eo.off rfl rfl rfl ?_
            refine Eo.off rfl rfl rfl ?_
            refine Eo.val (x := (.v (.bool false))) rfl rfl rfl rfl ?_
            exact Eo.nil (And.intro rfl (And.intro rfl (.cons rfl (.cons rfl (.cons rfl (.nil'))))))
          · skip
            refine Eo.val (x := (.v (.int .u8 p0))) rfl rfl rfl rfl ?_
            refine Eo.val (x := (.v (.bool (p0 != 34)))) rfl rfl rfl rfl ?_
            refine Eo.val (x := (.v (.bool (p0 != 34)))) rfl rfl rfl rfl ?_
            exact Eo.nil (And.intro rfl (And.intro rfl (.cons rfl (.cons rfl (.cons rfl (.nil'))))))
        · skip
          refine Eo.val (x := (.v (.bool (((((decide (p0 > 32)) && (decide (p0 < 127))) && (p0 != 40)) && (p0 != 41)) && (p0 != 34))))) rfl rfl rfl rfl ?_
          refine Eo.cutF 3 [(2, (.v (.bool false))), (24, (.v (.bool ((((((decide (p0 > 32)) && (decide (p0 < 127))) && (p0 != 40)) && (p0 != 41)) && (p0 != 34)) && (p0 != 59)))))] ?_ ?_
          · skip
            cases hc23 : (((((decide (p0 > 32)) && (decide (p0 < 127))) && (p0 != 40)) && (p0 != 41)) && (p0 != 34))
            · skip
              refine Eo.off rfl rfl rfl ?_
              refine Eo.off rfl rfl rfl ?_
              refine Eo.val (x := (.v (.bool false))) rfl rfl rfl rfl ?_
              exact Eo.nil (And.intro rfl (And.intro rfl (.cons rfl (.cons rfl (.nil')))))
            · skip
              refine Eo.val (x := (.v (.int .u8 p0))) rfl rfl rfl rfl ?_
              refine Eo.val (x := (.v (.bool (p0 != 59)))) rfl rfl rfl rfl ?_
              refine Eo.val (x := (.v (.bool (p0 != 59)))) rfl rfl rfl rfl ?_
              exact Eo.nil (And.intro rfl (And.intro rfl (.cons rfl (.cons rfl (.nil')))))
          · skip
            refine Eo.val (x := (.v (.bool ((((((decide (p0 > 32)) && (decide (p0 < 127))) && (p0 != 40)) && (p0 != 41)) && (p0 != 34)) && (p0 != 59))))) rfl rfl rfl rfl ?_
            refine Eo.nil ?_
            obtain rfl := Option.some.inj H
            refine Ec.ret ?_
            refine Ret.mk rfl ?_
            exact ⟨rfl, hp⟩

def gdovetailref03_IsWord_L1 (N : Nat) (p0 : ByteArray) : Nat → Int → Option (LR Unit Bool)
  | 0, _ => none
  | m + 1, y7 => (cond (decide (y7 < ((p0.size : Nat) : Int))) (((atS p0 y7).bind fun b15 => ((gdovetailref03_In N b15).bind fun r16 => (cond (!r16) (some (.ret false)) (gdovetailref03_IsWord_L1 N p0 m (IntKind.wrap .i64 (y7 + 1))))))) (some (.out ())))

def gdovetailref03_IsWord (n : Nat) (p0 : ByteArray) : Option (Bool) := ((gdovetailref03_IsWord_L1 n p0 n 0).bind fun v => match v with | .out _ => (((cond (decide (((p0.size : Nat) : Int) > 0)) (((atS p0 0).bind fun b30 => some (b30 != 45))) (some false)) : Option (Bool)).bind fun x28 => (((cond x28 (((atS p0 0).bind fun b41 => (cond (decide (b41 < 48)) (some true) (((atS p0 0).bind fun b43 => some (decide (b43 > 57))))))) (some false)) : Option (Bool)).bind fun x39 => some x39)) | .ret r52 => some r52)

def gdovetailref03_IsWord_post (R : List Res) (r : Bool) (x : A) (s : St) : Prop := x = (.v (.bool r)) ∧ Hp s (R)

theorem gdovetailref03_IsWord_ok {n : Nat} {p0 : ByteArray} {R : List Res} {σ : St} (hp : Hp σ R) {r : Bool} (H : gdovetailref03_IsWord n p0 = some r) : Ca cfg 37 [(.v (.string p0))] σ (gdovetailref03_IsWord_post R r) := by
  unfold gdovetailref03_IsWord at H
  refine Ca.enterL (G := [(0, (.v (.string p0)))]) Tryd.func37 rfl rfl rfl rfl ?_
  refine Ec.seq ?_
  refine Ec.region ?_
  refine Eo.val (x := (.v (.bool false))) rfl rfl rfl rfl ?_
  refine Eo.nil ?_
  refine Ec.seq ?_
  refine Ec.seq ?_
  refine Ec.region ?_
  refine Eo.val (x := (.v (.int .i64 0))) rfl rfl rfl rfl ?_
  refine Eo.nil ?_
  refine Ec.block ?_
  obtain ⟨v20, hv21, H⟩ := bind_some H
  refine Ec.cut (J := (fun (v : LR Unit Bool) (x : X) (φ : Fr) (s : St) => match v with | .out _ => x = (.exit 0) ∧ (Hp s (R) ∧ Fl [(0, (.v (.string p0)))] φ) | .ret r => x = .ret ∧ Ret cfg Tryd.f37 (gdovetailref03_IsWord_post R r) .ret φ s) v20) (Ec.weak (.cons rfl (.cons rfl (.nil'))) (Ec.loopF (f := (fun m (i : Int × Unit) => gdovetailref03_IsWord_L1 n p0 m i.1)) (G := (fun (i : Int × Unit) => ([(0, (.v (.string p0))), (3, (.v (.int .i64 i.1)))] : List (Nat × A)))) (I := (fun (i : Int × Unit) (s : St) => Hp s (R))) (J := (fun (v : LR Unit Bool) (x : X) (φ : Fr) (s : St) => match v with | .out _ => x = (.exit 0) ∧ (Hp s (R) ∧ Fl [(0, (.v (.string p0)))] φ) | .ret r => x = .ret ∧ Ret cfg Tryd.f37 (gdovetailref03_IsWord_post R r) .ret φ s)) (fun _ => rfl) ?_ n (0, ()) _ v20 hp hv21)) ?_
  · rintro m ⟨y7, _⟩ σ0 v hp0 H ih
    change gdovetailref03_IsWord_L1 n p0 (m + 1) y7 = some v at H
    rw [gdovetailref03_IsWord_L1] at H
    change Ec _ _ _ [(0, (.v (.string p0))), (3, (.v (.int .i64 y7)))] σ0 _
    refine Ec.seq ?_
    refine Ec.seq ?_
    refine Ec.region ?_
    refine Eo.val (x := (.v (.int .i64 y7))) rfl rfl rfl rfl ?_
    refine Eo.val (x := (.v (.string p0))) rfl rfl rfl rfl ?_
    refine Eo.val (x := (.v (.int .i64 ((p0.size : Nat) : Int)))) (op_len rfl rfl rfl rfl rfl Tryd.underlying9) rfl rfl rfl ?_
    refine Eo.val (x := (.v (.bool (decide (y7 < ((p0.size : Nat) : Int)))))) rfl rfl rfl rfl ?_
    refine Eo.nil ?_
    refine Ec.cond (t := (decide (y7 < ((p0.size : Nat) : Int)))) rfl (fun hc14 => ?_) (fun hc14 => ?_)
    · have H := cond_t hc14 H
      refine Ec.skip ?_
      refine Ec.seq ?_
      refine Ec.block ?_
      refine Ec.seq ?_
      refine Ec.region ?_
      refine Eo.val (x := (.v (.string p0))) rfl rfl rfl rfl ?_
      refine Eo.val (x := (.v (.int .i64 y7))) rfl rfl rfl rfl ?_
      obtain ⟨b15, hvb15, H⟩ := bind_some H
      refine Eo.val (op_byteS hvb15 rfl rfl rfl Tryd.underlying9) rfl rfl rfl ?_
      obtain ⟨r16, hvr16, H⟩ := bind_some H
      refine Eo.call rfl rfl rfl rfl (gdovetailref03_In_ok hp0 hvr16) ?_
      rintro _ σ18 ⟨rfl, hp17⟩
      refine Eo.val (x := (.v (.bool (!r16)))) rfl rfl rfl rfl ?_
      refine Eo.nil ?_
      refine Ec.cond (t := (!r16)) rfl (fun hc19 => ?_) (fun hc19 => ?_)
      · have H := cond_t hc19 H
        refine Ec.seq ?_
        refine Ec.region ?_
        refine Eo.val (x := (.v (.bool false))) rfl rfl rfl rfl ?_
        refine Eo.nil ?_
        obtain rfl := Option.some.inj H
        refine Ec.ret ?_
        refine And.intro rfl (Ret.mk rfl ?_)
        exact ⟨rfl, hp17⟩
      · have H := cond_f hc19 H
        refine Ec.skip ?_
        refine Ec.region ?_
        refine Eo.val (x := (.v (.int .i64 y7))) rfl rfl rfl rfl ?_
        refine Eo.val (x := (.v (.int .i64 (IntKind.wrap .i64 (y7 + 1))))) rfl rfl rfl rfl ?_
        refine Eo.val (x := (.v (.int .i64 (IntKind.wrap .i64 (y7 + 1))))) rfl rfl rfl rfl ?_
        refine Eo.nil ?_
        exact Ec.of (.cons rfl (.cons rfl (.nil'))) (ih ((IntKind.wrap .i64 (y7 + 1)), ()) _ hp17 H)
    · have H := cond_f hc14 H
      refine Ec.exit ?_
      obtain rfl := Option.some.inj H
      exact And.intro rfl ⟨hp0, (.cons rfl (.nil'))⟩
  · rcases v20 with _ | r52
    · intro x φ24 σ23 hJ
      obtain ⟨rfl, hp22, hf25⟩ := hJ
      refine Ec.of (F := [(0, (.v (.string p0)))]) hf25 ?_
      refine Ec.seq ?_
      refine Ec.region ?_
      refine Eo.val (x := (.v (.string p0))) rfl rfl rfl rfl ?_
      refine Eo.val (x := (.v (.int .i64 ((p0.size : Nat) : Int)))) (op_len rfl rfl rfl rfl rfl Tryd.underlying9) rfl rfl rfl ?_
      refine Eo.val (x := (.v (.bool (decide (((p0.size : Nat) : Int) > 0))))) rfl rfl rfl rfl ?_
      refine Eo.val (x := (.v (.bool (decide (((p0.size : Nat) : Int) > 0))))) rfl rfl rfl rfl ?_
      obtain ⟨x28, hv51, H⟩ := bind_some H
      refine Eo.cutN 4 (J := (fun (x28 : Bool) (x : X) (φ : Fr) (s : St) => x = .normal ∧ (Hp s (R) ∧ Fl [(0, (.v (.string p0))), (22, (.v (.bool x28)))] φ)) x28) ?_ ?_
      · have H := hv51
        cases hc29 : (decide (((p0.size : Nat) : Int) > 0))
        · have H := cond_f hc29 H
          refine Eo.off rfl rfl rfl ?_
          refine Eo.off rfl rfl rfl ?_
          refine Eo.off rfl rfl rfl ?_
          refine Eo.val (x := (.v (.bool false))) rfl rfl rfl rfl ?_
          refine Eo.nil ?_
          obtain rfl := Option.some.inj H
          exact And.intro rfl ⟨hp22, (.cons rfl (.cons rfl (.nil')))⟩
        · have H := cond_t hc29 H
          refine Eo.val (x := (.v (.string p0))) rfl rfl rfl rfl ?_
          obtain ⟨b30, hvb30, H⟩ := bind_some H
          refine Eo.val (op_byteS hvb30 rfl rfl rfl Tryd.underlying9) rfl rfl rfl ?_
          refine Eo.val (x := (.v (.bool (b30 != 45)))) rfl rfl rfl rfl ?_
          refine Eo.val (x := (.v (.bool (b30 != 45)))) rfl rfl rfl rfl ?_
          refine Eo.nil ?_
          obtain rfl := Option.some.inj H
          exact And.intro rfl ⟨hp22, (.cons rfl (.cons rfl (.nil')))⟩
      · skip
        intro x φ33 σ32 hJ
        obtain ⟨rfl, hp31, hf34⟩ := hJ
        refine ⟨rfl, Eo.of (F := [(0, (.v (.string p0))), (22, (.v (.bool x28)))]) hf34 ?_⟩
        refine Eo.val (x := (.v (.bool x28))) rfl rfl rfl rfl ?_
        obtain ⟨x39, hv49, H⟩ := bind_some H
        refine Eo.cutN 9 (J := (fun (x39 : Bool) (x : X) (φ : Fr) (s : St) => x = .normal ∧ (Hp s (R) ∧ Fl [(32, (.v (.bool x39)))] φ)) x39) ?_ ?_
        · have H := hv49
          cases hc40 : x28
          · have H := cond_f hc40 H
            refine Eo.off rfl rfl rfl ?_
            refine Eo.off rfl rfl rfl ?_
            refine Eo.off rfl rfl rfl ?_
            refine Eo.off rfl rfl rfl ?_
            refine Eo.off rfl rfl rfl ?_
            refine Eo.off rfl rfl rfl ?_
            refine Eo.off rfl rfl rfl ?_
            refine Eo.off rfl rfl rfl ?_
            refine Eo.val (x := (.v (.bool false))) rfl rfl rfl rfl ?_
            refine Eo.nil ?_
            obtain rfl := Option.some.inj H
            exact And.intro rfl ⟨hp31, (.cons rfl (.nil'))⟩
          · have H := cond_t hc40 H
            refine Eo.val (x := (.v (.string p0))) rfl rfl rfl rfl ?_
            obtain ⟨b41, hvb41, H⟩ := bind_some H
            refine Eo.val (op_byteS hvb41 rfl rfl rfl Tryd.underlying9) rfl rfl rfl ?_
            refine Eo.val (x := (.v (.bool (decide (b41 < 48))))) rfl rfl rfl rfl ?_
            refine Eo.val (x := (.v (.bool (decide (b41 < 48))))) rfl rfl rfl rfl ?_
            cases hc42 : (decide (b41 < 48))
            · have H := cond_f hc42 H
              refine Eo.val (x := (.v (.string p0))) rfl rfl rfl rfl ?_
              obtain ⟨b43, hvb43, H⟩ := bind_some H
              refine Eo.val (op_byteS hvb43 rfl rfl rfl Tryd.underlying9) rfl rfl rfl ?_
              refine Eo.val (x := (.v (.bool (decide (b43 > 57))))) rfl rfl rfl rfl ?_
              refine Eo.val (x := (.v (.bool (decide (b43 > 57))))) rfl rfl rfl rfl ?_
              refine Eo.val (x := (.v (.bool (decide (b43 > 57))))) rfl rfl rfl rfl ?_
              refine Eo.nil ?_
              obtain rfl := Option.some.inj H
              exact And.intro rfl ⟨hp31, (.cons rfl (.nil'))⟩
            · have H := cond_t hc42 H
              refine Eo.off rfl rfl rfl ?_
              refine Eo.off rfl rfl rfl ?_
              refine Eo.off rfl rfl rfl ?_
              refine Eo.val (x := (.v (.bool true))) rfl rfl rfl rfl ?_
              refine Eo.val (x := (.v (.bool true))) rfl rfl rfl rfl ?_
              refine Eo.nil ?_
              obtain rfl := Option.some.inj H
              exact And.intro rfl ⟨hp31, (.cons rfl (.nil'))⟩
        · skip
          intro x φ46 σ45 hJ
          obtain ⟨rfl, hp44, hf47⟩ := hJ
          refine ⟨rfl, Eo.of (F := [(32, (.v (.bool x39)))]) hf47 ?_⟩
          refine Eo.val (x := (.v (.bool x39))) rfl rfl rfl rfl ?_
          refine Eo.nil ?_
          obtain rfl := Option.some.inj H
          refine Ec.ret ?_
          refine Ret.mk rfl ?_
          exact ⟨rfl, hp44⟩
    · intro x φ53 σ54 hJ
      obtain rfl := Option.some.inj H
      obtain ⟨rfl, hr⟩ := hJ
      exact hr

def gdovetailref03_IsText_L1 (N : Nat) (p0 : ByteArray) : Nat → Int → Option (LR Unit Bool)
  | 0, _ => none
  | m + 1, y26 => (cond (decide (y26 < ((p0.size : Nat) : Int))) (((atS p0 y26).bind fun b53 => (((cond (decide (b53 < 32)) (some true) (((atS p0 y26).bind fun b58 => some (decide (b58 > 126))))) : Option (Bool)).bind fun x56 => (((cond x56 (some true) (((atS p0 y26).bind fun b67 => some (b67 == 34)))) : Option (Bool)).bind fun x65 => (cond x65 (some (.ret false)) (gdovetailref03_IsText_L1 N p0 m (IntKind.wrap .i64 (y26 + 1)))))))) (some (.out ())))

def gdovetailref03_IsText (n : Nat) (p0 : ByteArray) : Option (Bool) := ((gdovetailref03_IsText_L1 n p0 n 0).bind fun v => match v with | .out _ => some true | .ret r83 => some r83)

def gdovetailref03_IsText_post (R : List Res) (r : Bool) (x : A) (s : St) : Prop := x = (.v (.bool r)) ∧ Hp s (R)

theorem gdovetailref03_IsText_ok {n : Nat} {p0 : ByteArray} {R : List Res} {σ : St} (hp : Hp σ R) {r : Bool} (H : gdovetailref03_IsText n p0 = some r) : Ca cfg 38 [(.v (.string p0))] σ (gdovetailref03_IsText_post R r) := by
  unfold gdovetailref03_IsText at H
  refine Ca.enterL (G := [(0, (.v (.string p0)))]) Tryd.func38 rfl rfl rfl rfl ?_
  refine Ec.seq ?_
  refine Ec.region ?_
  refine Eo.val (x := (.v (.bool false))) rfl rfl rfl rfl ?_
  refine Eo.nil ?_
  refine Ec.seq ?_
  refine Ec.seq ?_
  refine Ec.region ?_
  refine Eo.val (x := (.v (.int .i64 0))) rfl rfl rfl rfl ?_
  refine Eo.nil ?_
  refine Ec.block ?_
  obtain ⟨v77, hv78, H⟩ := bind_some H
  refine Ec.cut (J := (fun (v : LR Unit Bool) (x : X) (φ : Fr) (s : St) => match v with | .out _ => x = (.exit 0) ∧ (Hp s (R) ∧ Fl [] φ) | .ret r => x = .ret ∧ Ret cfg Tryd.f38 (gdovetailref03_IsText_post R r) .ret φ s) v77) (Ec.weak (.cons rfl (.cons rfl (.nil'))) (Ec.loopF (f := (fun m (i : Int × Unit) => gdovetailref03_IsText_L1 n p0 m i.1)) (G := (fun (i : Int × Unit) => ([(0, (.v (.string p0))), (3, (.v (.int .i64 i.1)))] : List (Nat × A)))) (I := (fun (i : Int × Unit) (s : St) => Hp s (R))) (J := (fun (v : LR Unit Bool) (x : X) (φ : Fr) (s : St) => match v with | .out _ => x = (.exit 0) ∧ (Hp s (R) ∧ Fl [] φ) | .ret r => x = .ret ∧ Ret cfg Tryd.f38 (gdovetailref03_IsText_post R r) .ret φ s)) (fun _ => rfl) ?_ n (0, ()) _ v77 hp hv78)) ?_
  · rintro m ⟨y26, _⟩ σ0 v hp0 H ih
    change gdovetailref03_IsText_L1 n p0 (m + 1) y26 = some v at H
    rw [gdovetailref03_IsText_L1] at H
    change Ec _ _ _ [(0, (.v (.string p0))), (3, (.v (.int .i64 y26)))] σ0 _
    refine Ec.seq ?_
    refine Ec.seq ?_
    refine Ec.region ?_
    refine Eo.val (x := (.v (.int .i64 y26))) rfl rfl rfl rfl ?_
    refine Eo.val (x := (.v (.string p0))) rfl rfl rfl rfl ?_
    refine Eo.val (x := (.v (.int .i64 ((p0.size : Nat) : Int)))) (op_len rfl rfl rfl rfl rfl Tryd.underlying9) rfl rfl rfl ?_
    refine Eo.val (x := (.v (.bool (decide (y26 < ((p0.size : Nat) : Int)))))) rfl rfl rfl rfl ?_
    refine Eo.nil ?_
    refine Ec.cond (t := (decide (y26 < ((p0.size : Nat) : Int)))) rfl (fun hc52 => ?_) (fun hc52 => ?_)
    · have H := cond_t hc52 H
      refine Ec.skip ?_
      refine Ec.seq ?_
      refine Ec.block ?_
      refine Ec.seq ?_
      refine Ec.region ?_
      refine Eo.val (x := (.v (.string p0))) rfl rfl rfl rfl ?_
      refine Eo.val (x := (.v (.int .i64 y26))) rfl rfl rfl rfl ?_
      obtain ⟨b53, hvb53, H⟩ := bind_some H
      refine Eo.val (op_byteS hvb53 rfl rfl rfl Tryd.underlying9) rfl rfl rfl ?_
      refine Eo.val (x := (.v (.bool (decide (b53 < 32))))) rfl rfl rfl rfl ?_
      refine Eo.val (x := (.v (.bool (decide (b53 < 32))))) rfl rfl rfl rfl ?_
      obtain ⟨x56, hv76, H⟩ := bind_some H
      refine Eo.cutN 5 (J := (fun (x56 : Bool) (x : X) (φ : Fr) (s : St) => x = .normal ∧ (Hp s (R) ∧ Fl [(0, (.v (.string p0))), (3, (.v (.int .i64 y26))), (19, (.v (.bool x56)))] φ)) x56) ?_ ?_
      · have H := hv76
        cases hc57 : (decide (b53 < 32))
        · have H := cond_f hc57 H
          refine Eo.val (x := (.v (.string p0))) rfl rfl rfl rfl ?_
          refine Eo.val (x := (.v (.int .i64 y26))) rfl rfl rfl rfl ?_
          obtain ⟨b58, hvb58, H⟩ := bind_some H
          refine Eo.val (op_byteS hvb58 rfl rfl rfl Tryd.underlying9) rfl rfl rfl ?_
          refine Eo.val (x := (.v (.bool (decide (b58 > 126))))) rfl rfl rfl rfl ?_
          refine Eo.val (x := (.v (.bool (decide (b58 > 126))))) rfl rfl rfl rfl ?_
          refine Eo.nil ?_
          obtain rfl := Option.some.inj H
          exact And.intro rfl ⟨hp0, (.cons rfl (.cons rfl (.cons rfl (.nil'))))⟩
        · have H := cond_t hc57 H
          refine Eo.off rfl rfl rfl ?_
          refine Eo.off rfl rfl rfl ?_
          refine Eo.off rfl rfl rfl ?_
          refine Eo.off rfl rfl rfl ?_
          refine Eo.val (x := (.v (.bool true))) rfl rfl rfl rfl ?_
          refine Eo.nil ?_
          obtain rfl := Option.some.inj H
          exact And.intro rfl ⟨hp0, (.cons rfl (.cons rfl (.cons rfl (.nil'))))⟩
      · skip
        intro x φ61 σ60 hJ
        obtain ⟨rfl, hp59, hf62⟩ := hJ
        refine ⟨rfl, Eo.of (F := [(0, (.v (.string p0))), (3, (.v (.int .i64 y26))), (19, (.v (.bool x56)))]) hf62 ?_⟩
        refine Eo.val (x := (.v (.bool x56))) rfl rfl rfl rfl ?_
        obtain ⟨x65, hv74, H⟩ := bind_some H
        refine Eo.cutN 5 (J := (fun (x65 : Bool) (x : X) (φ : Fr) (s : St) => x = .normal ∧ (Hp s (R) ∧ Fl [(0, (.v (.string p0))), (3, (.v (.int .i64 y26))), (25, (.v (.bool x65)))] φ)) x65) ?_ ?_
        · have H := hv74
          cases hc66 : x56
          · have H := cond_f hc66 H
            refine Eo.val (x := (.v (.string p0))) rfl rfl rfl rfl ?_
            refine Eo.val (x := (.v (.int .i64 y26))) rfl rfl rfl rfl ?_
            obtain ⟨b67, hvb67, H⟩ := bind_some H
            refine Eo.val (op_byteS hvb67 rfl rfl rfl Tryd.underlying9) rfl rfl rfl ?_
            refine Eo.val (x := (.v (.bool (b67 == 34)))) rfl rfl rfl rfl ?_
            refine Eo.val (x := (.v (.bool (b67 == 34)))) rfl rfl rfl rfl ?_
            refine Eo.nil ?_
            obtain rfl := Option.some.inj H
            exact And.intro rfl ⟨hp59, (.cons rfl (.cons rfl (.cons rfl (.nil'))))⟩
          · have H := cond_t hc66 H
            refine Eo.off rfl rfl rfl ?_
            refine Eo.off rfl rfl rfl ?_
            refine Eo.off rfl rfl rfl ?_
            refine Eo.off rfl rfl rfl ?_
            refine Eo.val (x := (.v (.bool true))) rfl rfl rfl rfl ?_
            refine Eo.nil ?_
            obtain rfl := Option.some.inj H
            exact And.intro rfl ⟨hp59, (.cons rfl (.cons rfl (.cons rfl (.nil'))))⟩
        · skip
          intro x φ70 σ69 hJ
          obtain ⟨rfl, hp68, hf71⟩ := hJ
          refine ⟨rfl, Eo.of (F := [(0, (.v (.string p0))), (3, (.v (.int .i64 y26))), (25, (.v (.bool x65)))]) hf71 ?_⟩
          refine Eo.nil ?_
          refine Ec.cond (t := x65) rfl (fun hc72 => ?_) (fun hc72 => ?_)
          · have H := cond_t hc72 H
            refine Ec.seq ?_
            refine Ec.region ?_
            refine Eo.val (x := (.v (.bool false))) rfl rfl rfl rfl ?_
            refine Eo.nil ?_
            obtain rfl := Option.some.inj H
            refine Ec.ret ?_
            refine And.intro rfl (Ret.mk rfl ?_)
            exact ⟨rfl, hp68⟩
          · have H := cond_f hc72 H
            refine Ec.skip ?_
            refine Ec.region ?_
            refine Eo.val (x := (.v (.int .i64 y26))) rfl rfl rfl rfl ?_
            refine Eo.val (x := (.v (.int .i64 (IntKind.wrap .i64 (y26 + 1))))) rfl rfl rfl rfl ?_
            refine Eo.val (x := (.v (.int .i64 (IntKind.wrap .i64 (y26 + 1))))) rfl rfl rfl rfl ?_
            refine Eo.nil ?_
            exact Ec.of (.cons rfl (.cons rfl (.nil'))) (ih ((IntKind.wrap .i64 (y26 + 1)), ()) _ hp68 H)
    · have H := cond_f hc52 H
      refine Ec.exit ?_
      obtain rfl := Option.some.inj H
      exact And.intro rfl ⟨hp0, (.nil')⟩
  · rcases v77 with _ | r83
    · intro x φ81 σ80 hJ
      obtain ⟨rfl, hp79, hf82⟩ := hJ
      refine Ec.of (F := []) hf82 ?_
      refine Ec.seq ?_
      refine Ec.region ?_
      refine Eo.val (x := (.v (.bool true))) rfl rfl rfl rfl ?_
      refine Eo.nil ?_
      obtain rfl := Option.some.inj H
      refine Ec.ret ?_
      refine Ret.mk rfl ?_
      exact ⟨rfl, hp79⟩
    · intro x φ84 σ85 hJ
      obtain rfl := Option.some.inj H
      obtain ⟨rfl, hr⟩ := hJ
      exact hr

def gdovetailref03_Sound_L1 (N : Nat) (rec : TTree → Option Bool) (p0 : TTree) : Nat → Int → Option (LR Unit Bool)
  | 0, _ => none
  | m + 1, y68 => (cond (decide (y68 < ((p0.f_Kids.length : Nat) : Int))) (((atL p0.f_Kids y68).bind fun x87 => ((rec x87).bind fun r99 => (cond (!r99) (some (.ret false)) (gdovetailref03_Sound_L1 N rec p0 m (IntKind.wrap .i64 (y68 + 1))))))) (some (.out ())))

def gdovetailref03_Sound_rec (N : Nat) : Nat → TTree → Option Bool
  | 0, _ => none
  | k + 1, p0 => (cond (p0.f_Kind == 1) (((gdovetailref03_IsWord N p0.f_Word).bind fun r7 => some ((r7 && (p0.f_Num == 0)) && (((p0.f_Kids.length : Nat) : Int) == 0)))) ((cond (p0.f_Kind == 2) (some ((((decide (p0.f_Word = (ByteArray.mk #[]))) && (((p0.f_Kids.length : Nat) : Int) == 0)) && (decide (p0.f_Num > (-1000000000000000000)))) && (decide (p0.f_Num < 1000000000000000000)))) ((cond (p0.f_Kind == 3) (((gdovetailref03_IsText N p0.f_Word).bind fun r37 => some ((r37 && (p0.f_Num == 0)) && (((p0.f_Kids.length : Nat) : Int) == 0)))) ((cond (p0.f_Kind == 4) (((gdovetailref03_Sound_L1 N (gdovetailref03_Sound_rec N k) p0 N 0).bind fun v => match v with | .out _ => some ((decide (p0.f_Word = (ByteArray.mk #[]))) && (p0.f_Num == 0)) | .ret r114 => some r114)) (some false))))))))

def gdovetailref03_Sound (n : Nat) (p0 : TTree) : Option (Bool) := gdovetailref03_Sound_rec n n p0

def gdovetailref03_Sound_post (R : List Res) (r : Bool) (x : A) (s : St) : Prop := x = (.v (.bool r)) ∧ Hp s (R)

theorem gdovetailref03_Sound_rec_ok {n : Nat} : ∀ (k : Nat) {p0 : TTree} {a1 : A} {R : List Res} {σ : St} (_h2 : Sl rTTree a1 p0.f_Kids) (_hp : Hp σ R) {r : Bool} (_H : gdovetailref03_Sound_rec n k p0 = some r), Ca cfg 21 [(.agg [(.v (.int .i64 p0.f_Kind)), (.v (.string p0.f_Word)), (.v (.int .i64 p0.f_Num)), a1])] σ (gdovetailref03_Sound_post R r) := by
  intro k
  induction k with
  | zero => intro p0 a1 R σ h2 hp r H; rw [gdovetailref03_Sound_rec] at H; cases H
  | succ k ihR =>
    intro p0 a1 R σ h2 hp r H
    rw [gdovetailref03_Sound_rec] at H
    refine Ca.enterL (G := [(0, (.agg [(.v (.int .i64 p0.f_Kind)), (.v (.string p0.f_Word)), (.v (.int .i64 p0.f_Num)), a1]))]) Tryd.func21 rfl rfl rfl rfl ?_
    refine Ec.seq ?_
    refine Ec.region ?_
    refine Eo.box hp rfl (by simp [allOne, A.cells, h2.isOne]) rfl rfl rfl rfl rfl ?_
    intro b3 σ5 hp4
    refine Eo.val (x := (.v (.bool false))) rfl rfl rfl rfl ?_
    refine Eo.nil ?_
    refine Ec.seq ?_
    refine Ec.seq ?_
    refine Ec.region ?_
    refine Eo.val (x := (.ptr b3 0)) rfl rfl rfl rfl ?_
    refine Eo.val (x := (.v (.int .i64 p0.f_Kind))) (op_loadB hp4 0 rfl rfl rfl rfl) rfl rfl rfl ?_
    refine Eo.nil ?_
    refine Ec.block ?_
    refine Ec.seq ?_
    refine Ec.region ?_
    refine Eo.val (x := (.v (.bool (p0.f_Kind == 1)))) rfl rfl rfl rfl ?_
    refine Eo.val (x := (.v (.bool (p0.f_Kind == 1)))) rfl rfl rfl rfl ?_
    refine Eo.nil ?_
    refine Ec.cond (t := (p0.f_Kind == 1)) rfl (fun hc6 => ?_) (fun hc6 => ?_)
    · have H := cond_t hc6 H
      refine Ec.seq ?_
      refine Ec.region ?_
      refine Eo.val (x := (.ptr b3 1)) rfl rfl rfl rfl ?_
      refine Eo.val (x := (.v (.string p0.f_Word))) (op_loadB hp4 0 rfl rfl rfl rfl) rfl rfl rfl ?_
      obtain ⟨r7, hvr7, H⟩ := bind_some H
      refine Eo.call rfl rfl rfl rfl (gdovetailref03_IsWord_ok hp4 hvr7) ?_
      rintro _ σ9 ⟨rfl, hp8⟩
      refine Eo.val (x := (.v (.bool r7))) rfl rfl rfl rfl ?_
      refine Eo.cutF 4 [(1, (.ptr b3 0)), (2, (.v (.bool false))), (16, (.v (.bool (r7 && (p0.f_Num == 0)))))] ?_ ?_
      · skip
        cases hc12 : r7
        · skip
          refine Eo.off rfl rfl rfl ?_
          refine Eo.off rfl rfl rfl ?_
          refine Eo.off rfl rfl rfl ?_
          refine Eo.val (x := (.v (.bool false))) rfl rfl rfl rfl ?_
          exact Eo.nil (And.intro rfl (And.intro rfl (.cons rfl (.cons rfl (.cons rfl (.nil'))))))
        · skip
          refine Eo.val (x := (.ptr b3 2)) rfl rfl rfl rfl ?_
          refine Eo.val (x := (.v (.int .i64 p0.f_Num))) (op_loadB hp8 0 rfl rfl rfl rfl) rfl rfl rfl ?_
          refine Eo.val (x := (.v (.bool (p0.f_Num == 0)))) rfl rfl rfl rfl ?_
          refine Eo.val (x := (.v (.bool (p0.f_Num == 0)))) rfl rfl rfl rfl ?_
          exact Eo.nil (And.intro rfl (And.intro rfl (.cons rfl (.cons rfl (.cons rfl (.nil'))))))
      · skip
        refine Eo.val (x := (.v (.bool (r7 && (p0.f_Num == 0))))) rfl rfl rfl rfl ?_
        refine Eo.cutF 5 [(2, (.v (.bool false))), (22, (.v (.bool ((r7 && (p0.f_Num == 0)) && (((p0.f_Kids.length : Nat) : Int) == 0)))))] ?_ ?_
        · skip
          cases hc17 : (r7 && (p0.f_Num == 0))
          · skip
            refine Eo.off rfl rfl rfl ?_
            refine Eo.off rfl rfl rfl ?_
            refine Eo.off rfl rfl rfl ?_
            refine Eo.off rfl rfl rfl ?_
            refine Eo.val (x := (.v (.bool false))) rfl rfl rfl rfl ?_
            exact Eo.nil (And.intro rfl (And.intro rfl (.cons rfl (.cons rfl (.nil')))))
          · skip
            refine Eo.val (x := (.ptr b3 3)) rfl rfl rfl rfl ?_
            refine Eo.val (x := a1) (op_loadB hp8 0 rfl rfl rfl rfl) rfl rfl rfl ?_
            refine Eo.val (x := (.v (.int .i64 ((p0.f_Kids.length : Nat) : Int)))) (op_lenL h2 rfl rfl rfl rfl rfl Tryd.underlying23) rfl rfl rfl ?_
            refine Eo.val (x := (.v (.bool (((p0.f_Kids.length : Nat) : Int) == 0)))) rfl rfl rfl rfl ?_
            refine Eo.val (x := (.v (.bool (((p0.f_Kids.length : Nat) : Int) == 0)))) rfl rfl rfl rfl ?_
            exact Eo.nil (And.intro rfl (And.intro rfl (.cons rfl (.cons rfl (.nil')))))
        · skip
          refine Eo.val (x := (.v (.bool ((r7 && (p0.f_Num == 0)) && (((p0.f_Kids.length : Nat) : Int) == 0))))) rfl rfl rfl rfl ?_
          refine Eo.nil ?_
          obtain rfl := Option.some.inj H
          refine Ec.ret ?_
          refine Ret.mk rfl ?_
          exact ⟨rfl, (Hp.drop hp8 0)⟩
    · have H := cond_f hc6 H
      refine Ec.seq ?_
      refine Ec.region ?_
      refine Eo.val (x := (.v (.bool (p0.f_Kind == 2)))) rfl rfl rfl rfl ?_
      refine Eo.val (x := (.v (.bool (p0.f_Kind == 2)))) rfl rfl rfl rfl ?_
      refine Eo.nil ?_
      refine Ec.cond (t := (p0.f_Kind == 2)) rfl (fun hc20 => ?_) (fun hc20 => ?_)
      · have H := cond_t hc20 H
        refine Ec.seq ?_
        refine Ec.region ?_
        refine Eo.val (x := (.ptr b3 1)) rfl rfl rfl rfl ?_
        refine Eo.val (x := (.v (.string p0.f_Word))) (op_loadB hp4 0 rfl rfl rfl rfl) rfl rfl rfl ?_
        refine Eo.val (x := (.v (.bool (decide (p0.f_Word = (ByteArray.mk #[])))))) (val_b rfl (seq_eq _ _)) rfl rfl rfl ?_
        refine Eo.val (x := (.v (.bool (decide (p0.f_Word = (ByteArray.mk #[])))))) rfl rfl rfl rfl ?_
        refine Eo.cutF 5 [(1, (.ptr b3 0)), (2, (.v (.bool false))), (33, (.v (.bool ((decide (p0.f_Word = (ByteArray.mk #[]))) && (((p0.f_Kids.length : Nat) : Int) == 0)))))] ?_ ?_
        · skip
          cases hc23 : (decide (p0.f_Word = (ByteArray.mk #[])))
          · skip
            refine Eo.off rfl rfl rfl ?_
            refine Eo.off rfl rfl rfl ?_
            refine Eo.off rfl rfl rfl ?_
            refine Eo.off rfl rfl rfl ?_
            refine Eo.val (x := (.v (.bool false))) rfl rfl rfl rfl ?_
            exact Eo.nil (And.intro rfl (And.intro rfl (.cons rfl (.cons rfl (.cons rfl (.nil'))))))
          · skip
            refine Eo.val (x := (.ptr b3 3)) rfl rfl rfl rfl ?_
            refine Eo.val (x := a1) (op_loadB hp4 0 rfl rfl rfl rfl) rfl rfl rfl ?_
            refine Eo.val (x := (.v (.int .i64 ((p0.f_Kids.length : Nat) : Int)))) (op_lenL h2 rfl rfl rfl rfl rfl Tryd.underlying23) rfl rfl rfl ?_
            refine Eo.val (x := (.v (.bool (((p0.f_Kids.length : Nat) : Int) == 0)))) rfl rfl rfl rfl ?_
            refine Eo.val (x := (.v (.bool (((p0.f_Kids.length : Nat) : Int) == 0)))) rfl rfl rfl rfl ?_
            exact Eo.nil (And.intro rfl (And.intro rfl (.cons rfl (.cons rfl (.cons rfl (.nil'))))))
        · skip
          refine Eo.val (x := (.v (.bool ((decide (p0.f_Word = (ByteArray.mk #[]))) && (((p0.f_Kids.length : Nat) : Int) == 0))))) rfl rfl rfl rfl ?_
          refine Eo.cutF 4 [(1, (.ptr b3 0)), (2, (.v (.bool false))), (38, (.v (.bool (((decide (p0.f_Word = (ByteArray.mk #[]))) && (((p0.f_Kids.length : Nat) : Int) == 0)) && (decide (p0.f_Num > (-1000000000000000000)))))))] ?_ ?_
          · skip
            cases hc28 : ((decide (p0.f_Word = (ByteArray.mk #[]))) && (((p0.f_Kids.length : Nat) : Int) == 0))
            · skip
              refine Eo.off rfl rfl rfl ?_
              refine Eo.off rfl rfl rfl ?_
              refine Eo.off rfl rfl rfl ?_
              refine Eo.val (x := (.v (.bool false))) rfl rfl rfl rfl ?_
              exact Eo.nil (And.intro rfl (And.intro rfl (.cons rfl (.cons rfl (.cons rfl (.nil'))))))
            · skip
              refine Eo.val (x := (.ptr b3 2)) rfl rfl rfl rfl ?_
              refine Eo.val (x := (.v (.int .i64 p0.f_Num))) (op_loadB hp4 0 rfl rfl rfl rfl) rfl rfl rfl ?_
              refine Eo.val (x := (.v (.bool (decide (p0.f_Num > (-1000000000000000000)))))) rfl rfl rfl rfl ?_
              refine Eo.val (x := (.v (.bool (decide (p0.f_Num > (-1000000000000000000)))))) rfl rfl rfl rfl ?_
              exact Eo.nil (And.intro rfl (And.intro rfl (.cons rfl (.cons rfl (.cons rfl (.nil'))))))
          · skip
            refine Eo.val (x := (.v (.bool (((decide (p0.f_Word = (ByteArray.mk #[]))) && (((p0.f_Kids.length : Nat) : Int) == 0)) && (decide (p0.f_Num > (-1000000000000000000))))))) rfl rfl rfl rfl ?_
            refine Eo.cutF 4 [(2, (.v (.bool false))), (43, (.v (.bool ((((decide (p0.f_Word = (ByteArray.mk #[]))) && (((p0.f_Kids.length : Nat) : Int) == 0)) && (decide (p0.f_Num > (-1000000000000000000)))) && (decide (p0.f_Num < 1000000000000000000))))))] ?_ ?_
            · skip
              cases hc33 : (((decide (p0.f_Word = (ByteArray.mk #[]))) && (((p0.f_Kids.length : Nat) : Int) == 0)) && (decide (p0.f_Num > (-1000000000000000000))))
              · skip
                refine Eo.off rfl rfl rfl ?_
                refine Eo.off rfl rfl rfl ?_
                refine Eo.off rfl rfl rfl ?_
                refine Eo.val (x := (.v (.bool false))) rfl rfl rfl rfl ?_
                exact Eo.nil (And.intro rfl (And.intro rfl (.cons rfl (.cons rfl (.nil')))))
              · skip
                refine Eo.val (x := (.ptr b3 2)) rfl rfl rfl rfl ?_
                refine Eo.val (x := (.v (.int .i64 p0.f_Num))) (op_loadB hp4 0 rfl rfl rfl rfl) rfl rfl rfl ?_
                refine Eo.val (x := (.v (.bool (decide (p0.f_Num < 1000000000000000000))))) rfl rfl rfl rfl ?_
                refine Eo.val (x := (.v (.bool (decide (p0.f_Num < 1000000000000000000))))) rfl rfl rfl rfl ?_
                exact Eo.nil (And.intro rfl (And.intro rfl (.cons rfl (.cons rfl (.nil')))))
            · skip
              refine Eo.val (x := (.v (.bool ((((decide (p0.f_Word = (ByteArray.mk #[]))) && (((p0.f_Kids.length : Nat) : Int) == 0)) && (decide (p0.f_Num > (-1000000000000000000)))) && (decide (p0.f_Num < 1000000000000000000)))))) rfl rfl rfl rfl ?_
              refine Eo.nil ?_
              obtain rfl := Option.some.inj H
              refine Ec.ret ?_
              refine Ret.mk rfl ?_
              exact ⟨rfl, (Hp.drop hp4 0)⟩
      · have H := cond_f hc20 H
        refine Ec.seq ?_
        refine Ec.region ?_
        refine Eo.val (x := (.v (.bool (p0.f_Kind == 3)))) rfl rfl rfl rfl ?_
        refine Eo.val (x := (.v (.bool (p0.f_Kind == 3)))) rfl rfl rfl rfl ?_
        refine Eo.nil ?_
        refine Ec.cond (t := (p0.f_Kind == 3)) rfl (fun hc36 => ?_) (fun hc36 => ?_)
        · have H := cond_t hc36 H
          refine Ec.seq ?_
          refine Ec.region ?_
          refine Eo.val (x := (.ptr b3 1)) rfl rfl rfl rfl ?_
          refine Eo.val (x := (.v (.string p0.f_Word))) (op_loadB hp4 0 rfl rfl rfl rfl) rfl rfl rfl ?_
          obtain ⟨r37, hvr37, H⟩ := bind_some H
          refine Eo.call rfl rfl rfl rfl (gdovetailref03_IsText_ok hp4 hvr37) ?_
          rintro _ σ39 ⟨rfl, hp38⟩
          refine Eo.val (x := (.v (.bool r37))) rfl rfl rfl rfl ?_
          refine Eo.cutF 4 [(1, (.ptr b3 0)), (2, (.v (.bool false))), (53, (.v (.bool (r37 && (p0.f_Num == 0)))))] ?_ ?_
          · skip
            cases hc42 : r37
            · skip
              refine Eo.off rfl rfl rfl ?_
              refine Eo.off rfl rfl rfl ?_
              refine Eo.off rfl rfl rfl ?_
              refine Eo.val (x := (.v (.bool false))) rfl rfl rfl rfl ?_
              exact Eo.nil (And.intro rfl (And.intro rfl (.cons rfl (.cons rfl (.cons rfl (.nil'))))))
            · skip
              refine Eo.val (x := (.ptr b3 2)) rfl rfl rfl rfl ?_
              refine Eo.val (x := (.v (.int .i64 p0.f_Num))) (op_loadB hp38 0 rfl rfl rfl rfl) rfl rfl rfl ?_
              refine Eo.val (x := (.v (.bool (p0.f_Num == 0)))) rfl rfl rfl rfl ?_
              refine Eo.val (x := (.v (.bool (p0.f_Num == 0)))) rfl rfl rfl rfl ?_
              exact Eo.nil (And.intro rfl (And.intro rfl (.cons rfl (.cons rfl (.cons rfl (.nil'))))))
          · skip
            refine Eo.val (x := (.v (.bool (r37 && (p0.f_Num == 0))))) rfl rfl rfl rfl ?_
            refine Eo.cutF 5 [(2, (.v (.bool false))), (59, (.v (.bool ((r37 && (p0.f_Num == 0)) && (((p0.f_Kids.length : Nat) : Int) == 0)))))] ?_ ?_
            · skip
              cases hc47 : (r37 && (p0.f_Num == 0))
              · skip
                refine Eo.off rfl rfl rfl ?_
                refine Eo.off rfl rfl rfl ?_
                refine Eo.off rfl rfl rfl ?_
                refine Eo.off rfl rfl rfl ?_
                refine Eo.val (x := (.v (.bool false))) rfl rfl rfl rfl ?_
                exact Eo.nil (And.intro rfl (And.intro rfl (.cons rfl (.cons rfl (.nil')))))
              · skip
                refine Eo.val (x := (.ptr b3 3)) rfl rfl rfl rfl ?_
                refine Eo.val (x := a1) (op_loadB hp38 0 rfl rfl rfl rfl) rfl rfl rfl ?_
                refine Eo.val (x := (.v (.int .i64 ((p0.f_Kids.length : Nat) : Int)))) (op_lenL h2 rfl rfl rfl rfl rfl Tryd.underlying23) rfl rfl rfl ?_
                refine Eo.val (x := (.v (.bool (((p0.f_Kids.length : Nat) : Int) == 0)))) rfl rfl rfl rfl ?_
                refine Eo.val (x := (.v (.bool (((p0.f_Kids.length : Nat) : Int) == 0)))) rfl rfl rfl rfl ?_
                exact Eo.nil (And.intro rfl (And.intro rfl (.cons rfl (.cons rfl (.nil')))))
            · skip
              refine Eo.val (x := (.v (.bool ((r37 && (p0.f_Num == 0)) && (((p0.f_Kids.length : Nat) : Int) == 0))))) rfl rfl rfl rfl ?_
              refine Eo.nil ?_
              obtain rfl := Option.some.inj H
              refine Ec.ret ?_
              refine Ret.mk rfl ?_
              exact ⟨rfl, (Hp.drop hp38 0)⟩
        · have H := cond_f hc36 H
          refine Ec.seq ?_
          refine Ec.region ?_
          refine Eo.val (x := (.v (.bool (p0.f_Kind == 4)))) rfl rfl rfl rfl ?_
          refine Eo.val (x := (.v (.bool (p0.f_Kind == 4)))) rfl rfl rfl rfl ?_
          refine Eo.nil ?_
          refine Ec.cond (t := (p0.f_Kind == 4)) rfl (fun hc50 => ?_) (fun hc50 => ?_)
          · have H := cond_t hc50 H
            refine Ec.seq ?_
            refine Ec.seq ?_
            refine Ec.region ?_
            refine Eo.val (x := (.ptr b3 3)) rfl rfl rfl rfl ?_
            refine Eo.val (x := a1) (op_loadB hp4 0 rfl rfl rfl rfl) rfl rfl rfl ?_
            refine Eo.val (x := (.v (.int .i64 ((p0.f_Kids.length : Nat) : Int)))) (op_lenL h2 rfl rfl rfl rfl rfl Tryd.underlying23) rfl rfl rfl ?_
            refine Eo.val (x := (.v (.int .i64 0))) rfl rfl rfl rfl ?_
            refine Eo.nil ?_
            refine Ec.block ?_
            obtain ⟨v103, hv104, H⟩ := bind_some H
            refine Ec.cut (J := (fun (v : LR Unit Bool) (x : X) (φ : Fr) (s : St) => match v with | .out _ => x = (.exit 1) ∧ (Hp s (.blk b3 (.cells [(.v (.int .i64 p0.f_Kind)), (.v (.string p0.f_Word)), (.v (.int .i64 p0.f_Num)), a1] 34) :: R) ∧ Fl [(1, (.ptr b3 0))] φ) | .ret r => x = .ret ∧ Ret cfg Tryd.f21 (gdovetailref03_Sound_post R r) .ret φ s) v103) (Ec.weak (.cons rfl (.cons rfl (.cons rfl (.cons rfl (.nil'))))) (Ec.loopF (f := (fun m (i : Int × Unit) => gdovetailref03_Sound_L1 n (gdovetailref03_Sound_rec n k) p0 m i.1)) (G := (fun (i : Int × Unit) => ([(1, (.ptr b3 0)), (63, a1), (64, (.v (.int .i64 ((p0.f_Kids.length : Nat) : Int)))), (65, (.v (.int .i64 i.1)))] : List (Nat × A)))) (I := (fun (i : Int × Unit) (s : St) => Hp s (.blk b3 (.cells [(.v (.int .i64 p0.f_Kind)), (.v (.string p0.f_Word)), (.v (.int .i64 p0.f_Num)), a1] 34) :: R))) (J := (fun (v : LR Unit Bool) (x : X) (φ : Fr) (s : St) => match v with | .out _ => x = (.exit 1) ∧ (Hp s (.blk b3 (.cells [(.v (.int .i64 p0.f_Kind)), (.v (.string p0.f_Word)), (.v (.int .i64 p0.f_Num)), a1] 34) :: R) ∧ Fl [(1, (.ptr b3 0))] φ) | .ret r => x = .ret ∧ Ret cfg Tryd.f21 (gdovetailref03_Sound_post R r) .ret φ s)) (fun _ => rfl) ?_ n (0, ()) _ v103 hp4 hv104)) ?_
            · rintro m ⟨y68, _⟩ σ0 v hp0 H ih
              change gdovetailref03_Sound_L1 n (gdovetailref03_Sound_rec n k) p0 (m + 1) y68 = some v at H
              rw [gdovetailref03_Sound_L1] at H
              change Ec _ _ _ [(1, (.ptr b3 0)), (63, a1), (64, (.v (.int .i64 ((p0.f_Kids.length : Nat) : Int)))), (65, (.v (.int .i64 y68)))] σ0 _
              refine Ec.seq ?_
              refine Ec.region ?_
              refine Eo.val (x := (.v (.bool (decide (y68 < ((p0.f_Kids.length : Nat) : Int)))))) rfl rfl rfl rfl ?_
              refine Eo.nil ?_
              refine Ec.seq ?_
              refine Ec.cond (t := (decide (y68 < ((p0.f_Kids.length : Nat) : Int)))) rfl (fun hc86 => ?_) (fun hc86 => ?_)
              · have H := cond_t hc86 H
                refine Ec.skip ?_
                refine Ec.seq ?_
                refine Ec.block ?_
                refine Ec.seq ?_
                refine Ec.region ?_
                obtain ⟨x87, hvx87, H⟩ := bind_some H
                refine Eo.idx h2 hvx87 rfl rfl rfl Tryd.underlying23 rfl rfl rfl rfl ?_
                intro cs88 p89 _ hat90 hr93
                obtain ⟨a91, rfl, h92⟩ := rTTree_un hr93
                refine Eo.val (x := (.agg [(.v (.int .i64 x87.f_Kind)), (.v (.string x87.f_Word)), (.v (.int .i64 x87.f_Num)), a91])) (op_loadSpAgg hat90 0 rfl rfl rfl rfl rfl rfl) rfl rfl rfl ?_
                refine Eo.alloc (z := [(.v (.int .i64 0)), (.v (.string (ByteArray.mk #[]))), (.v (.int .i64 0)), nilS]) hp0 rfl rfl rfl rfl rfl ?_
                intro b94 σ96 hp95
                refine Eo.store hp95 0 rfl (storeCells_mk rfl rfl rfl (by simp [allOne, A.cells, h92.isOne]) rfl rfl) rfl rfl rfl rfl rfl ?_
                intro σ98 hp97
                change Hp σ98 (.blk b94 (.cells [(.v (.int .i64 x87.f_Kind)), (.v (.string x87.f_Word)), (.v (.int .i64 x87.f_Num)), a91] 34) :: .blk b3 (.cells [(.v (.int .i64 p0.f_Kind)), (.v (.string p0.f_Word)), (.v (.int .i64 p0.f_Num)), a1] 34) :: R) at hp97
                refine Eo.nil ?_
                refine Ec.seq ?_
                refine Ec.region ?_
                refine Eo.val (x := (.agg [(.v (.int .i64 x87.f_Kind)), (.v (.string x87.f_Word)), (.v (.int .i64 x87.f_Num)), a91])) (op_loadB hp97 0 rfl rfl rfl rfl) rfl rfl rfl ?_
                obtain ⟨r99, hvr99, H⟩ := bind_some H
                refine Eo.call rfl rfl rfl rfl (ihR h92 hp97 hvr99) ?_
                rintro _ σ101 ⟨rfl, hp100⟩
                change Hp σ101 (.blk b94 (.cells [(.v (.int .i64 x87.f_Kind)), (.v (.string x87.f_Word)), (.v (.int .i64 x87.f_Num)), a91] 34) :: .blk b3 (.cells [(.v (.int .i64 p0.f_Kind)), (.v (.string p0.f_Word)), (.v (.int .i64 p0.f_Num)), a1] 34) :: R) at hp100
                refine Eo.val (x := (.v (.bool (!r99)))) rfl rfl rfl rfl ?_
                refine Eo.nil ?_
                refine Ec.cond (t := (!r99)) rfl (fun hc102 => ?_) (fun hc102 => ?_)
                · have H := cond_t hc102 H
                  refine Ec.seq ?_
                  refine Ec.region ?_
                  refine Eo.val (x := (.v (.bool false))) rfl rfl rfl rfl ?_
                  refine Eo.nil ?_
                  obtain rfl := Option.some.inj H
                  refine Ec.ret ?_
                  refine And.intro rfl (Ret.mk rfl ?_)
                  exact ⟨rfl, (Hp.drop (Hp.drop hp100 0) 0)⟩
                · have H := cond_f hc102 H
                  refine Ec.skip ?_
                  refine Ec.region ?_
                  refine Eo.val (x := (.v (.int .i64 (IntKind.wrap .i64 (y68 + 1))))) rfl rfl rfl rfl ?_
                  refine Eo.val (x := (.v (.int .i64 (IntKind.wrap .i64 (y68 + 1))))) rfl rfl rfl rfl ?_
                  refine Eo.nil ?_
                  exact Ec.of (.cons rfl (.cons rfl (.cons rfl (.cons rfl (.nil'))))) (ih ((IntKind.wrap .i64 (y68 + 1)), ()) _ (Hp.drop hp100 0) H)
              · have H := cond_f hc86 H
                refine Ec.exit ?_
                obtain rfl := Option.some.inj H
                exact And.intro rfl ⟨hp0, (.cons rfl (.nil'))⟩
            · rcases v103 with _ | r114
              · intro x φ107 σ106 hJ
                obtain ⟨rfl, hp105, hf108⟩ := hJ
                refine Ec.of (F := [(1, (.ptr b3 0))]) hf108 ?_
                refine Ec.seq ?_
                refine Ec.region ?_
                refine Eo.val (x := (.ptr b3 1)) rfl rfl rfl rfl ?_
                refine Eo.val (x := (.v (.string p0.f_Word))) (op_loadB hp105 0 rfl rfl rfl rfl) rfl rfl rfl ?_
                refine Eo.val (x := (.v (.bool (decide (p0.f_Word = (ByteArray.mk #[])))))) (val_b rfl (seq_eq _ _)) rfl rfl rfl ?_
                refine Eo.val (x := (.v (.bool (decide (p0.f_Word = (ByteArray.mk #[])))))) rfl rfl rfl rfl ?_
                refine Eo.cutF 4 [(80, (.v (.bool ((decide (p0.f_Word = (ByteArray.mk #[]))) && (p0.f_Num == 0)))))] ?_ ?_
                · skip
                  cases hc111 : (decide (p0.f_Word = (ByteArray.mk #[])))
                  · skip
                    refine Eo.off rfl rfl rfl ?_
                    refine Eo.off rfl rfl rfl ?_
                    refine Eo.off rfl rfl rfl ?_
                    refine Eo.val (x := (.v (.bool false))) rfl rfl rfl rfl ?_
                    exact Eo.nil (And.intro rfl (And.intro rfl (.cons rfl (.nil'))))
                  · skip
                    refine Eo.val (x := (.ptr b3 2)) rfl rfl rfl rfl ?_
                    refine Eo.val (x := (.v (.int .i64 p0.f_Num))) (op_loadB hp105 0 rfl rfl rfl rfl) rfl rfl rfl ?_
                    refine Eo.val (x := (.v (.bool (p0.f_Num == 0)))) rfl rfl rfl rfl ?_
                    refine Eo.val (x := (.v (.bool (p0.f_Num == 0)))) rfl rfl rfl rfl ?_
                    exact Eo.nil (And.intro rfl (And.intro rfl (.cons rfl (.nil'))))
                · skip
                  refine Eo.val (x := (.v (.bool ((decide (p0.f_Word = (ByteArray.mk #[]))) && (p0.f_Num == 0))))) rfl rfl rfl rfl ?_
                  refine Eo.nil ?_
                  obtain rfl := Option.some.inj H
                  refine Ec.ret ?_
                  refine Ret.mk rfl ?_
                  exact ⟨rfl, (Hp.drop hp105 0)⟩
              · intro x φ115 σ116 hJ
                obtain rfl := Option.some.inj H
                obtain ⟨rfl, hr⟩ := hJ
                exact hr
          · have H := cond_f hc50 H
            refine Ec.skip ?_
            refine Ec.seq ?_
            refine Ec.region ?_
            refine Eo.val (x := (.v (.bool false))) rfl rfl rfl rfl ?_
            refine Eo.nil ?_
            obtain rfl := Option.some.inj H
            refine Ec.ret ?_
            refine Ret.mk rfl ?_
            exact ⟨rfl, (Hp.drop hp4 0)⟩

theorem gdovetailref03_Sound_ok {n : Nat} {p0 : TTree} {a1 : A} {R : List Res} {σ : St} (h2 : Sl rTTree a1 p0.f_Kids) (hp : Hp σ R) {r : Bool} (H : gdovetailref03_Sound n p0 = some r) : Ca cfg 21 [(.agg [(.v (.int .i64 p0.f_Kind)), (.v (.string p0.f_Word)), (.v (.int .i64 p0.f_Num)), a1])] σ (gdovetailref03_Sound_post R r) := gdovetailref03_Sound_rec_ok n h2 hp H

def gdovetailref03_Digits_rec (N : Nat) : Nat → Int → Option ByteArray
  | 0, _ => none
  | k + 1, p0 => (cond (decide (p0 < 0)) ((cond (decide (p0 > (-10))) (((catS (ByteArray.mk #[45]) (ofB ([(IntKind.wrap .u8 (IntKind.wrap .i64 (48 - p0)))] : List Int))).bind fun s7 => some s7)) ((((((gdovetailref03_Digits_rec N k) (IntKind.wrap .i64 (Int.tdiv p0 10))).bind fun r17 => ((catS r17 (ofB ([(IntKind.wrap .u8 (IntKind.wrap .i64 (48 - (Int.tmod p0 10))))] : List Int))).bind fun s24 => some s24)) : Option (ByteArray)).bind fun x16 => some x16)))) ((cond (decide (p0 > 9)) ((((((gdovetailref03_Digits_rec N k) (IntKind.wrap .i64 (Int.tdiv p0 10))).bind fun r41 => ((catS r41 (ofB ([(IntKind.wrap .u8 (IntKind.wrap .i64 (48 + (Int.tmod p0 10))))] : List Int))).bind fun s48 => some s48)) : Option (ByteArray)).bind fun x40 => some x40)) (some (ofB ([(IntKind.wrap .u8 (IntKind.wrap .i64 (48 + p0)))] : List Int))))))

def gdovetailref03_Digits (n : Nat) (p0 : Int) : Option (ByteArray) := gdovetailref03_Digits_rec n n p0

def gdovetailref03_Digits_post (R : List Res) (r : ByteArray) (x : A) (s : St) : Prop := x = (.v (.string r)) ∧ Hp s (R)

theorem gdovetailref03_Digits_rec_ok {n : Nat} : ∀ (k : Nat) {p0 : Int} {R : List Res} {σ : St} (_hp : Hp σ R) {r : ByteArray} (_H : gdovetailref03_Digits_rec n k p0 = some r), Ca cfg 39 [(.v (.int .i64 p0))] σ (gdovetailref03_Digits_post R r) := by
  intro k
  induction k with
  | zero => intro p0 R σ hp r H; rw [gdovetailref03_Digits_rec] at H; cases H
  | succ k ihR =>
    intro p0 R σ hp r H
    rw [gdovetailref03_Digits_rec] at H
    refine Ca.enterL (G := [(0, (.v (.int .i64 p0)))]) Tryd.func39 rfl rfl rfl rfl ?_
    refine Ec.seq ?_
    refine Ec.region ?_
    refine Eo.val (x := (.v (.string (ByteArray.mk #[])))) rfl rfl rfl rfl ?_
    refine Eo.nil ?_
    refine Ec.seq ?_
    refine Ec.seq ?_
    refine Ec.region ?_
    refine Eo.val (x := (.v (.int .i64 p0))) rfl rfl rfl rfl ?_
    refine Eo.val (x := (.v (.bool (decide (p0 < 0))))) rfl rfl rfl rfl ?_
    refine Eo.nil ?_
    refine Ec.cond (t := (decide (p0 < 0))) rfl (fun hc1 => ?_) (fun hc1 => ?_)
    · have H := cond_t hc1 H
      refine Ec.seq ?_
      refine Ec.seq ?_
      refine Ec.region ?_
      refine Eo.val (x := (.v (.int .i64 p0))) rfl rfl rfl rfl ?_
      refine Eo.val (x := (.v (.bool (decide (p0 > (-10)))))) rfl rfl rfl rfl ?_
      refine Eo.nil ?_
      refine Ec.cond (t := (decide (p0 > (-10)))) rfl (fun hc2 => ?_) (fun hc2 => ?_)
      · have H := cond_t hc2 H
        refine Ec.seq ?_
        refine Ec.region ?_
        refine Eo.val (x := (.v (.int .i64 p0))) rfl rfl rfl rfl ?_
        refine Eo.val (x := (.v (.int .i64 (IntKind.wrap .i64 (48 - p0))))) rfl rfl rfl rfl ?_
        refine Eo.val (x := (.v (.int .u8 (IntKind.wrap .u8 (IntKind.wrap .i64 (48 - p0)))))) rfl rfl rfl rfl ?_
        refine Eo.val (x := (.sl 1 [(.v (.int .u8 (IntKind.wrap .u8 (IntKind.wrap .i64 (48 - p0)))))] .ex)) (op_buildS (lay_cons rfl rfl rfl rfl rfl lay_nil) rfl (parts_cons rfl rfl rfl) Tryd.underlying57 rfl rfl rfl rfl (by decide) rfl) rfl rfl rfl ?_
        have h6 : Sl (rI .u8) (.sl 1 [(.v (.int .u8 (IntKind.wrap .u8 (IntKind.wrap .i64 (48 - p0)))))] .ex) ([(IntKind.wrap .u8 (IntKind.wrap .i64 (48 - p0)))] : List Int) := .inr ⟨_, _, rfl, (.cons (c := [(.v (.int .u8 (IntKind.wrap .u8 (IntKind.wrap .i64 (48 - p0)))))]) rfl .nil)⟩
        have hp5 := Hp.appEx hp 5 1 [(.v (.int .u8 (IntKind.wrap .u8 (IntKind.wrap .i64 (48 - p0)))))]
        refine Eo.val (op_b2s h6 rfl rfl Tryd.underlying57 Tryd.underlying9 Tryd.underlying5 (fun h => by first | (subst h; rfl) | cases h)) rfl rfl rfl ?_
        obtain ⟨s7, hvs7, H⟩ := bind_some H
        refine Eo.val (op_catS hvs7 rfl rfl rfl) rfl rfl rfl ?_
        refine Eo.val (x := (.v (.string s7))) rfl rfl rfl rfl ?_
        refine Eo.nil ?_
        obtain rfl := Option.some.inj H
        refine Ec.ret ?_
        refine Ret.mk rfl ?_
        exact ⟨rfl, (Hp.drop hp5 0)⟩
      · have H := cond_f hc2 H
        refine Ec.skip ?_
        refine Ec.seq ?_
        obtain ⟨x16, hv30, H⟩ := bind_some H
        refine Ec.cut (J := (fun (x16 : ByteArray) (x : X) (φ : Fr) (s : St) => x = .normal ∧ (Hp s (R) ∧ Fl [(2, (.v (.string x16)))] φ)) x16) ?_ ?_
        · have H := hv30
          refine Ec.drawnS (by kernel_rfl) ?_
          refine Ed.val (x := (.v (.int .i64 p0))) rfl rfl rfl rfl rfl rfl ?_
          refine Ed.val (x := (.v (.int .i64 (IntKind.wrap .i64 (Int.tdiv p0 10))))) rfl rfl rfl rfl rfl rfl ?_
          obtain ⟨r17, hvr17, H⟩ := bind_some H
          refine Ed.call (ihR hp hvr17) rfl rfl rfl rfl rfl (fun _ _ _ => (stF_pure rfl (stF_pure rfl stF_nil))) ?_
          rintro _ σ19 ⟨rfl, hp18⟩
          change Hp σ19 (R) at hp18
          refine Ed.valP (x := (.v (.int .i64 p0))) rfl rfl rfl rfl rfl (stP_pure rfl stP_nil) ?_
          refine Ed.valP (x := (.v (.int .i64 (Int.tmod p0 10)))) rfl rfl rfl rfl rfl (stP_pure rfl stP_nil) ?_
          refine Ed.valP (x := (.v (.int .i64 (IntKind.wrap .i64 (48 - (Int.tmod p0 10)))))) rfl rfl rfl rfl rfl (stP_pure rfl stP_nil) ?_
          refine Ed.valP (x := (.v (.int .u8 (IntKind.wrap .u8 (IntKind.wrap .i64 (48 - (Int.tmod p0 10))))))) rfl rfl rfl rfl rfl (stP_op rfl rfl stP_nil) ?_
          refine Ed.valP (x := (.sl 1 [(.v (.int .u8 (IntKind.wrap .u8 (IntKind.wrap .i64 (48 - (Int.tmod p0 10))))))] .ex)) (op_buildS (lay_cons rfl rfl rfl rfl rfl lay_nil) rfl (parts_cons rfl rfl rfl) Tryd.underlying57 rfl rfl rfl rfl (by decide) rfl) rfl rfl rfl rfl (stP_pure rfl stP_nil) ?_
          have h23 : Sl (rI .u8) (.sl 1 [(.v (.int .u8 (IntKind.wrap .u8 (IntKind.wrap .i64 (48 - (Int.tmod p0 10))))))] .ex) ([(IntKind.wrap .u8 (IntKind.wrap .i64 (48 - (Int.tmod p0 10))))] : List Int) := .inr ⟨_, _, rfl, (.cons (c := [(.v (.int .u8 (IntKind.wrap .u8 (IntKind.wrap .i64 (48 - (Int.tmod p0 10))))))]) rfl .nil)⟩
          have hp22 := Hp.appEx hp18 5 1 [(.v (.int .u8 (IntKind.wrap .u8 (IntKind.wrap .i64 (48 - (Int.tmod p0 10))))))]
          refine Ed.valP (op_b2s h23 rfl rfl Tryd.underlying57 Tryd.underlying9 Tryd.underlying5 (fun h => by first | (subst h; rfl) | cases h)) rfl rfl rfl rfl (stP_op rfl rfl stP_nil) ?_
          obtain ⟨s24, hvs24, H⟩ := bind_some H
          refine Ed.valP (op_catS hvs24 rfl rfl rfl) rfl rfl rfl rfl (stP_pure rfl stP_nil) ?_
          refine Ed.valP (x := (.v (.string s24))) rfl rfl rfl rfl rfl (stP_pure rfl stP_nil) ?_
          refine Ed.nil ?_
          obtain rfl := Option.some.inj H
          exact And.intro rfl (And.intro rfl ⟨(Hp.drop hp22 0), (.cons rfl (.nil'))⟩)
        · skip
          intro x φ27 σ26 hJ
          obtain ⟨rfl, hp25, hf28⟩ := hJ
          refine Ec.of (F := [(2, (.v (.string x16)))]) hf28 ?_
          obtain rfl := Option.some.inj H
          refine Ec.ret ?_
          refine Ret.mk rfl ?_
          exact ⟨rfl, hp25⟩
    · have H := cond_f hc1 H
      refine Ec.skip ?_
      refine Ec.seq ?_
      refine Ec.seq ?_
      refine Ec.region ?_
      refine Eo.val (x := (.v (.int .i64 p0))) rfl rfl rfl rfl ?_
      refine Eo.val (x := (.v (.bool (decide (p0 > 9))))) rfl rfl rfl rfl ?_
      refine Eo.nil ?_
      refine Ec.cond (t := (decide (p0 > 9))) rfl (fun hc31 => ?_) (fun hc31 => ?_)
      · have H := cond_t hc31 H
        refine Ec.seq ?_
        obtain ⟨x40, hv54, H⟩ := bind_some H
        refine Ec.cut (J := (fun (x40 : ByteArray) (x : X) (φ : Fr) (s : St) => x = .normal ∧ (Hp s (R) ∧ Fl [(2, (.v (.string x40)))] φ)) x40) ?_ ?_
        · have H := hv54
          refine Ec.drawnS (by kernel_rfl) ?_
          refine Ed.val (x := (.v (.int .i64 p0))) rfl rfl rfl rfl rfl rfl ?_
          refine Ed.val (x := (.v (.int .i64 (IntKind.wrap .i64 (Int.tdiv p0 10))))) rfl rfl rfl rfl rfl rfl ?_
          obtain ⟨r41, hvr41, H⟩ := bind_some H
          refine Ed.call (ihR hp hvr41) rfl rfl rfl rfl rfl (fun _ _ _ => (stF_pure rfl (stF_pure rfl stF_nil))) ?_
          rintro _ σ43 ⟨rfl, hp42⟩
          change Hp σ43 (R) at hp42
          refine Ed.valP (x := (.v (.int .i64 p0))) rfl rfl rfl rfl rfl (stP_pure rfl stP_nil) ?_
          refine Ed.valP (x := (.v (.int .i64 (Int.tmod p0 10)))) rfl rfl rfl rfl rfl (stP_pure rfl stP_nil) ?_
          refine Ed.valP (x := (.v (.int .i64 (IntKind.wrap .i64 (48 + (Int.tmod p0 10)))))) rfl rfl rfl rfl rfl (stP_pure rfl stP_nil) ?_
          refine Ed.valP (x := (.v (.int .u8 (IntKind.wrap .u8 (IntKind.wrap .i64 (48 + (Int.tmod p0 10))))))) rfl rfl rfl rfl rfl (stP_op rfl rfl stP_nil) ?_
          refine Ed.valP (x := (.sl 1 [(.v (.int .u8 (IntKind.wrap .u8 (IntKind.wrap .i64 (48 + (Int.tmod p0 10))))))] .ex)) (op_buildS (lay_cons rfl rfl rfl rfl rfl lay_nil) rfl (parts_cons rfl rfl rfl) Tryd.underlying57 rfl rfl rfl rfl (by decide) rfl) rfl rfl rfl rfl (stP_pure rfl stP_nil) ?_
          have h47 : Sl (rI .u8) (.sl 1 [(.v (.int .u8 (IntKind.wrap .u8 (IntKind.wrap .i64 (48 + (Int.tmod p0 10))))))] .ex) ([(IntKind.wrap .u8 (IntKind.wrap .i64 (48 + (Int.tmod p0 10))))] : List Int) := .inr ⟨_, _, rfl, (.cons (c := [(.v (.int .u8 (IntKind.wrap .u8 (IntKind.wrap .i64 (48 + (Int.tmod p0 10))))))]) rfl .nil)⟩
          have hp46 := Hp.appEx hp42 5 1 [(.v (.int .u8 (IntKind.wrap .u8 (IntKind.wrap .i64 (48 + (Int.tmod p0 10))))))]
          refine Ed.valP (op_b2s h47 rfl rfl Tryd.underlying57 Tryd.underlying9 Tryd.underlying5 (fun h => by first | (subst h; rfl) | cases h)) rfl rfl rfl rfl (stP_op rfl rfl stP_nil) ?_
          obtain ⟨s48, hvs48, H⟩ := bind_some H
          refine Ed.valP (op_catS hvs48 rfl rfl rfl) rfl rfl rfl rfl (stP_pure rfl stP_nil) ?_
          refine Ed.valP (x := (.v (.string s48))) rfl rfl rfl rfl rfl (stP_pure rfl stP_nil) ?_
          refine Ed.nil ?_
          obtain rfl := Option.some.inj H
          exact And.intro rfl (And.intro rfl ⟨(Hp.drop hp46 0), (.cons rfl (.nil'))⟩)
        · skip
          intro x φ51 σ50 hJ
          obtain ⟨rfl, hp49, hf52⟩ := hJ
          refine Ec.of (F := [(2, (.v (.string x40)))]) hf52 ?_
          obtain rfl := Option.some.inj H
          refine Ec.ret ?_
          refine Ret.mk rfl ?_
          exact ⟨rfl, hp49⟩
      · have H := cond_f hc31 H
        refine Ec.skip ?_
        refine Ec.seq ?_
        refine Ec.region ?_
        refine Eo.val (x := (.v (.int .i64 p0))) rfl rfl rfl rfl ?_
        refine Eo.val (x := (.v (.int .i64 (IntKind.wrap .i64 (48 + p0))))) rfl rfl rfl rfl ?_
        refine Eo.val (x := (.v (.int .u8 (IntKind.wrap .u8 (IntKind.wrap .i64 (48 + p0)))))) rfl rfl rfl rfl ?_
        refine Eo.val (x := (.sl 1 [(.v (.int .u8 (IntKind.wrap .u8 (IntKind.wrap .i64 (48 + p0)))))] .ex)) (op_buildS (lay_cons rfl rfl rfl rfl rfl lay_nil) rfl (parts_cons rfl rfl rfl) Tryd.underlying57 rfl rfl rfl rfl (by decide) rfl) rfl rfl rfl ?_
        have h58 : Sl (rI .u8) (.sl 1 [(.v (.int .u8 (IntKind.wrap .u8 (IntKind.wrap .i64 (48 + p0)))))] .ex) ([(IntKind.wrap .u8 (IntKind.wrap .i64 (48 + p0)))] : List Int) := .inr ⟨_, _, rfl, (.cons (c := [(.v (.int .u8 (IntKind.wrap .u8 (IntKind.wrap .i64 (48 + p0)))))]) rfl .nil)⟩
        have hp57 := Hp.appEx hp 5 1 [(.v (.int .u8 (IntKind.wrap .u8 (IntKind.wrap .i64 (48 + p0)))))]
        refine Eo.val (op_b2s h58 rfl rfl Tryd.underlying57 Tryd.underlying9 Tryd.underlying5 (fun h => by first | (subst h; rfl) | cases h)) rfl rfl rfl ?_
        refine Eo.val (x := (.v (.string (ofB ([(IntKind.wrap .u8 (IntKind.wrap .i64 (48 + p0)))] : List Int))))) rfl rfl rfl rfl ?_
        refine Eo.nil ?_
        obtain rfl := Option.some.inj H
        refine Ec.ret ?_
        refine Ret.mk rfl ?_
        exact ⟨rfl, (Hp.drop hp57 0)⟩

theorem gdovetailref03_Digits_ok {n : Nat} {p0 : Int} {R : List Res} {σ : St} (hp : Hp σ R) {r : ByteArray} (H : gdovetailref03_Digits n p0 = some r) : Ca cfg 39 [(.v (.int .i64 p0))] σ (gdovetailref03_Digits_post R r) := gdovetailref03_Digits_rec_ok n hp H

def gdovetailref03_write_L1 (N : Nat) (rec : TTree → Option ByteArray) (p0 : TTree) : Nat → ByteArray → Int → Option (ByteArray)
  | 0, _, _ => none
  | m + 1, y76, y77 => (cond (decide (y77 < ((p0.f_Kids.length : Nat) : Int))) (((((atL p0.f_Kids y77).bind fun x170 => (((cond (decide (y77 > 0)) (((catS y76 (ByteArray.mk #[32])).bind fun s186 => some s186)) (some y76)) : Option (ByteArray)).bind fun x184 => ((rec x170).bind fun r191 => ((catS x184 r191).bind fun s194 => some s194)))) : Option (ByteArray)).bind fun x169 => gdovetailref03_write_L1 N rec p0 m x169 (IntKind.wrap .i64 (y77 + 1)))) (some y76))

def gdovetailref03_write_rec (N : Nat) : Nat → TTree → Option ByteArray
  | 0, _ => none
  | k + 1, p0 => (cond (p0.f_Kind == 1) (some p0.f_Word) ((cond (p0.f_Kind == 2) (((gdovetailref03_Digits N p0.f_Num).bind fun r8 => some r8)) ((cond (p0.f_Kind == 3) (((catS (ByteArray.mk #[34]) p0.f_Word).bind fun s12 => ((catS s12 (ByteArray.mk #[34])).bind fun s13 => some s13))) (((gdovetailref03_write_L1 N (gdovetailref03_write_rec N k) p0 N (ByteArray.mk #[40]) 0).bind fun x140 => ((catS x140 (ByteArray.mk #[41])).bind fun s209 => some s209))))))))

def gdovetailref03_write (n : Nat) (p0 : TTree) : Option (ByteArray) := gdovetailref03_write_rec n n p0

def gdovetailref03_write_post (R : List Res) (r : ByteArray) (x : A) (s : St) : Prop := x = (.v (.string r)) ∧ Hp s (R)

theorem gdovetailref03_write_rec_ok {n : Nat} : ∀ (k : Nat) {p0 : TTree} {a1 : A} {R : List Res} {σ : St} (_h2 : Sl rTTree a1 p0.f_Kids) (_hp : Hp σ R) {r : ByteArray} (_H : gdovetailref03_write_rec n k p0 = some r), Ca cfg 22 [(.agg [(.v (.int .i64 p0.f_Kind)), (.v (.string p0.f_Word)), (.v (.int .i64 p0.f_Num)), a1])] σ (gdovetailref03_write_post R r) := by
  intro k
  induction k with
  | zero => intro p0 a1 R σ h2 hp r H; rw [gdovetailref03_write_rec] at H; cases H
  | succ k ihR =>
    intro p0 a1 R σ h2 hp r H
    rw [gdovetailref03_write_rec] at H
    refine Ca.enterL (G := [(0, (.agg [(.v (.int .i64 p0.f_Kind)), (.v (.string p0.f_Word)), (.v (.int .i64 p0.f_Num)), a1]))]) Tryd.func22 rfl rfl rfl rfl ?_
    refine Ec.seq ?_
    refine Ec.region ?_
    refine Eo.box hp rfl (by simp [allOne, A.cells, h2.isOne]) rfl rfl rfl rfl rfl ?_
    intro b3 σ5 hp4
    refine Eo.val (x := (.v (.string (ByteArray.mk #[])))) rfl rfl rfl rfl ?_
    refine Eo.nil ?_
    refine Ec.seq ?_
    refine Ec.seq ?_
    refine Ec.region ?_
    refine Eo.val (x := (.ptr b3 0)) rfl rfl rfl rfl ?_
    refine Eo.val (x := (.v (.int .i64 p0.f_Kind))) (op_loadB hp4 0 rfl rfl rfl rfl) rfl rfl rfl ?_
    refine Eo.nil ?_
    refine Ec.block ?_
    refine Ec.seq ?_
    refine Ec.region ?_
    refine Eo.val (x := (.v (.bool (p0.f_Kind == 1)))) rfl rfl rfl rfl ?_
    refine Eo.val (x := (.v (.bool (p0.f_Kind == 1)))) rfl rfl rfl rfl ?_
    refine Eo.nil ?_
    refine Ec.cond (t := (p0.f_Kind == 1)) rfl (fun hc6 => ?_) (fun hc6 => ?_)
    · have H := cond_t hc6 H
      refine Ec.seq ?_
      refine Ec.region ?_
      refine Eo.val (x := (.ptr b3 1)) rfl rfl rfl rfl ?_
      refine Eo.val (x := (.v (.string p0.f_Word))) (op_loadB hp4 0 rfl rfl rfl rfl) rfl rfl rfl ?_
      refine Eo.val (x := (.v (.string p0.f_Word))) rfl rfl rfl rfl ?_
      refine Eo.nil ?_
      obtain rfl := Option.some.inj H
      refine Ec.ret ?_
      refine Ret.mk rfl ?_
      exact ⟨rfl, (Hp.drop hp4 0)⟩
    · have H := cond_f hc6 H
      refine Ec.seq ?_
      refine Ec.region ?_
      refine Eo.val (x := (.v (.bool (p0.f_Kind == 2)))) rfl rfl rfl rfl ?_
      refine Eo.val (x := (.v (.bool (p0.f_Kind == 2)))) rfl rfl rfl rfl ?_
      refine Eo.nil ?_
      refine Ec.cond (t := (p0.f_Kind == 2)) rfl (fun hc7 => ?_) (fun hc7 => ?_)
      · have H := cond_t hc7 H
        refine Ec.seq ?_
        refine Ec.region ?_
        refine Eo.val (x := (.ptr b3 2)) rfl rfl rfl rfl ?_
        refine Eo.val (x := (.v (.int .i64 p0.f_Num))) (op_loadB hp4 0 rfl rfl rfl rfl) rfl rfl rfl ?_
        obtain ⟨r8, hvr8, H⟩ := bind_some H
        refine Eo.call rfl rfl rfl rfl (gdovetailref03_Digits_ok hp4 hvr8) ?_
        rintro _ σ10 ⟨rfl, hp9⟩
        refine Eo.val (x := (.v (.string r8))) rfl rfl rfl rfl ?_
        refine Eo.nil ?_
        obtain rfl := Option.some.inj H
        refine Ec.ret ?_
        refine Ret.mk rfl ?_
        exact ⟨rfl, (Hp.drop hp9 0)⟩
      · have H := cond_f hc7 H
        refine Ec.seq ?_
        refine Ec.region ?_
        refine Eo.val (x := (.v (.bool (p0.f_Kind == 3)))) rfl rfl rfl rfl ?_
        refine Eo.val (x := (.v (.bool (p0.f_Kind == 3)))) rfl rfl rfl rfl ?_
        refine Eo.nil ?_
        refine Ec.cond (t := (p0.f_Kind == 3)) rfl (fun hc11 => ?_) (fun hc11 => ?_)
        · have H := cond_t hc11 H
          refine Ec.seq ?_
          refine Ec.region ?_
          refine Eo.val (x := (.ptr b3 1)) rfl rfl rfl rfl ?_
          refine Eo.val (x := (.v (.string p0.f_Word))) (op_loadB hp4 0 rfl rfl rfl rfl) rfl rfl rfl ?_
          obtain ⟨s12, hvs12, H⟩ := bind_some H
          refine Eo.val (op_catS hvs12 rfl rfl rfl) rfl rfl rfl ?_
          obtain ⟨s13, hvs13, H⟩ := bind_some H
          refine Eo.val (op_catS hvs13 rfl rfl rfl) rfl rfl rfl ?_
          refine Eo.val (x := (.v (.string s13))) rfl rfl rfl rfl ?_
          refine Eo.nil ?_
          obtain rfl := Option.some.inj H
          refine Ec.ret ?_
          refine Ret.mk rfl ?_
          exact ⟨rfl, (Hp.drop hp4 0)⟩
        · have H := cond_f hc11 H
          refine Ec.skip ?_
          refine Ec.seq ?_
          refine Ec.region ?_
          refine Eo.val (x := (.v (.string (ByteArray.mk #[40])))) rfl rfl rfl rfl ?_
          refine Eo.nil ?_
          refine Ec.seq ?_
          refine Ec.seq ?_
          refine Ec.region ?_
          refine Eo.val (x := (.ptr b3 3)) rfl rfl rfl rfl ?_
          refine Eo.val (x := a1) (op_loadB hp4 0 rfl rfl rfl rfl) rfl rfl rfl ?_
          refine Eo.val (x := (.v (.int .i64 ((p0.f_Kids.length : Nat) : Int)))) (op_lenL h2 rfl rfl rfl rfl rfl Tryd.underlying23) rfl rfl rfl ?_
          refine Eo.val (x := (.v (.int .i64 0))) rfl rfl rfl rfl ?_
          refine Eo.nil ?_
          refine Ec.block ?_
          obtain ⟨x140, hv204, H⟩ := bind_some H
          refine Ec.cut (J := (fun (x140 : ByteArray) (x : X) (φ : Fr) (s : St) => x = (.exit 1) ∧ (Hp s (R) ∧ Fl [(3, (.v (.string x140)))] φ)) x140) (Ec.weak (.cons rfl (.cons rfl (.cons rfl (.cons rfl (.nil'))))) (Ec.loopF (f := (fun m (i : (ByteArray × Int) × Unit) => gdovetailref03_write_L1 n (gdovetailref03_write_rec n k) p0 m i.1.1 i.1.2)) (G := (fun (i : (ByteArray × Int) × Unit) => ([(3, (.v (.string i.1.1))), (24, a1), (25, (.v (.int .i64 ((p0.f_Kids.length : Nat) : Int)))), (26, (.v (.int .i64 i.1.2)))] : List (Nat × A)))) (I := (fun (i : (ByteArray × Int) × Unit) (s : St) => Hp s (R))) (J := (fun (x140 : ByteArray) (x : X) (φ : Fr) (s : St) => x = (.exit 1) ∧ (Hp s (R) ∧ Fl [(3, (.v (.string x140)))] φ))) (fun _ => rfl) ?_ n (((ByteArray.mk #[40]), 0), ()) _ x140 (Hp.drop hp4 0) hv204)) ?_
          · rintro m ⟨⟨y76, y77⟩, _⟩ σ0 v hp0 H ih
            change gdovetailref03_write_L1 n (gdovetailref03_write_rec n k) p0 (m + 1) y76 y77 = some v at H
            rw [gdovetailref03_write_L1] at H
            change Ec _ _ _ [(3, (.v (.string y76))), (24, a1), (25, (.v (.int .i64 ((p0.f_Kids.length : Nat) : Int)))), (26, (.v (.int .i64 y77)))] σ0 _
            refine Ec.seq ?_
            refine Ec.region ?_
            refine Eo.val (x := (.v (.bool (decide (y77 < ((p0.f_Kids.length : Nat) : Int)))))) rfl rfl rfl rfl ?_
            refine Eo.nil ?_
            refine Ec.seq ?_
            refine Ec.cond (t := (decide (y77 < ((p0.f_Kids.length : Nat) : Int)))) rfl (fun hc141 => ?_) (fun hc141 => ?_)
            · have H := cond_t hc141 H
              refine Ec.skip ?_
              refine Ec.seq ?_
              obtain ⟨x169, hv202, H⟩ := bind_some H
              refine Ec.cut (J := (fun (x169 : ByteArray) (x : X) (φ : Fr) (s : St) => x = .normal ∧ (Hp s (R) ∧ Fl [(3, (.v (.string x169))), (24, a1), (25, (.v (.int .i64 ((p0.f_Kids.length : Nat) : Int)))), (26, (.v (.int .i64 y77)))] φ)) x169) ?_ ?_
              · have H := hv202
                refine Ec.block ?_
                refine Ec.seq ?_
                refine Ec.region ?_
                refine Eo.val (x := (.v (.int .i64 y77))) rfl rfl rfl rfl ?_
                obtain ⟨x170, hvx170, H⟩ := bind_some H
                refine Eo.idx h2 hvx170 rfl rfl rfl Tryd.underlying23 rfl rfl rfl rfl ?_
                intro cs171 p172 _ hat173 hr176
                obtain ⟨a174, rfl, h175⟩ := rTTree_un hr176
                refine Eo.val (x := (.agg [(.v (.int .i64 x170.f_Kind)), (.v (.string x170.f_Word)), (.v (.int .i64 x170.f_Num)), a174])) (op_loadSpAgg hat173 0 rfl rfl rfl rfl rfl rfl) rfl rfl rfl ?_
                refine Eo.alloc (z := [(.v (.int .i64 0)), (.v (.string (ByteArray.mk #[]))), (.v (.int .i64 0)), nilS]) hp0 rfl rfl rfl rfl rfl ?_
                intro b177 σ179 hp178
                refine Eo.val (x := (.v (.int .i64 y77))) rfl rfl rfl rfl ?_
                refine Eo.store hp178 0 rfl (storeCells_mk rfl rfl rfl (by simp [allOne, A.cells, h175.isOne]) rfl rfl) rfl rfl rfl rfl rfl ?_
                intro σ181 hp180
                change Hp σ181 (.blk b177 (.cells [(.v (.int .i64 x170.f_Kind)), (.v (.string x170.f_Word)), (.v (.int .i64 x170.f_Num)), a174] 34) :: R) at hp180
                refine Eo.nil ?_
                refine Ec.seq ?_
                refine Ec.seq ?_
                refine Ec.region ?_
                refine Eo.val (x := (.v (.int .i64 y77))) rfl rfl rfl rfl ?_
                refine Eo.val (x := (.v (.bool (decide (y77 > 0))))) rfl rfl rfl rfl ?_
                refine Eo.nil ?_
                obtain ⟨x184, hv196, H⟩ := bind_some H
                refine Ec.cut (J := (fun (x184 : ByteArray) (x : X) (φ : Fr) (s : St) => x = .normal ∧ (Hp s (.blk b177 (.cells [(.v (.int .i64 x170.f_Kind)), (.v (.string x170.f_Word)), (.v (.int .i64 x170.f_Num)), a174] 34) :: R) ∧ Fl [(3, (.v (.string x184))), (5, (.ptr b177 0)), (24, a1), (25, (.v (.int .i64 ((p0.f_Kids.length : Nat) : Int)))), (26, (.v (.int .i64 y77)))] φ)) x184) ?_ ?_
                · have H := hv196
                  refine Ec.cond (t := (decide (y77 > 0))) rfl (fun hc185 => ?_) (fun hc185 => ?_)
                  · have H := cond_t hc185 H
                    refine Ec.region ?_
                    refine Eo.val (x := (.v (.string y76))) rfl rfl rfl rfl ?_
                    obtain ⟨s186, hvs186, H⟩ := bind_some H
                    refine Eo.val (op_catS hvs186 rfl rfl rfl) rfl rfl rfl ?_
                    refine Eo.val (x := (.v (.string s186))) rfl rfl rfl rfl ?_
                    refine Eo.nil ?_
                    obtain rfl := Option.some.inj H
                    exact And.intro rfl ⟨hp180, (.cons rfl (.cons rfl (.cons rfl (.cons rfl (.cons rfl (.nil'))))))⟩
                  · have H := cond_f hc185 H
                    refine Ec.skip ?_
                    obtain rfl := Option.some.inj H
                    exact And.intro rfl ⟨hp180, (.cons rfl (.cons rfl (.cons rfl (.cons rfl (.cons rfl (.nil'))))))⟩
                · skip
                  intro x φ189 σ188 hJ
                  obtain ⟨rfl, hp187, hf190⟩ := hJ
                  refine Ec.of (F := [(3, (.v (.string x184))), (5, (.ptr b177 0)), (24, a1), (25, (.v (.int .i64 ((p0.f_Kids.length : Nat) : Int)))), (26, (.v (.int .i64 y77)))]) hf190 ?_
                  refine Ec.region ?_
                  refine Eo.val (x := (.v (.string x184))) rfl rfl rfl rfl ?_
                  refine Eo.val (x := (.agg [(.v (.int .i64 x170.f_Kind)), (.v (.string x170.f_Word)), (.v (.int .i64 x170.f_Num)), a174])) (op_loadB hp187 0 rfl rfl rfl rfl) rfl rfl rfl ?_
                  obtain ⟨r191, hvr191, H⟩ := bind_some H
                  refine Eo.call rfl rfl rfl rfl (ihR h175 hp187 hvr191) ?_
                  rintro _ σ193 ⟨rfl, hp192⟩
                  change Hp σ193 (.blk b177 (.cells [(.v (.int .i64 x170.f_Kind)), (.v (.string x170.f_Word)), (.v (.int .i64 x170.f_Num)), a174] 34) :: R) at hp192
                  obtain ⟨s194, hvs194, H⟩ := bind_some H
                  refine Eo.val (op_catS hvs194 rfl rfl rfl) rfl rfl rfl ?_
                  refine Eo.val (x := (.v (.string s194))) rfl rfl rfl rfl ?_
                  refine Eo.nil ?_
                  obtain rfl := Option.some.inj H
                  exact And.intro rfl ⟨(Hp.drop hp192 0), (.cons rfl (.cons rfl (.cons rfl (.cons rfl (.nil')))))⟩
              · skip
                intro x φ199 σ198 hJ
                obtain ⟨rfl, hp197, hf200⟩ := hJ
                refine Ec.of (F := [(3, (.v (.string x169))), (24, a1), (25, (.v (.int .i64 ((p0.f_Kids.length : Nat) : Int)))), (26, (.v (.int .i64 y77)))]) hf200 ?_
                refine Ec.region ?_
                refine Eo.val (x := (.v (.int .i64 (IntKind.wrap .i64 (y77 + 1))))) rfl rfl rfl rfl ?_
                refine Eo.val (x := (.v (.int .i64 (IntKind.wrap .i64 (y77 + 1))))) rfl rfl rfl rfl ?_
                refine Eo.nil ?_
                exact Ec.of (.cons rfl (.cons rfl (.cons rfl (.cons rfl (.nil'))))) (ih ((x169, (IntKind.wrap .i64 (y77 + 1))), ()) _ hp197 H)
            · have H := cond_f hc141 H
              refine Ec.exit ?_
              obtain rfl := Option.some.inj H
              exact And.intro rfl ⟨hp0, (.cons rfl (.nil'))⟩
          · skip
            intro x φ207 σ206 hJ
            obtain ⟨rfl, hp205, hf208⟩ := hJ
            refine Ec.of (F := [(3, (.v (.string x140)))]) hf208 ?_
            refine Ec.seq ?_
            refine Ec.region ?_
            refine Eo.val (x := (.v (.string x140))) rfl rfl rfl rfl ?_
            obtain ⟨s209, hvs209, H⟩ := bind_some H
            refine Eo.val (op_catS hvs209 rfl rfl rfl) rfl rfl rfl ?_
            refine Eo.val (x := (.v (.string s209))) rfl rfl rfl rfl ?_
            refine Eo.nil ?_
            obtain rfl := Option.some.inj H
            refine Ec.ret ?_
            refine Ret.mk rfl ?_
            exact ⟨rfl, hp205⟩

theorem gdovetailref03_write_ok {n : Nat} {p0 : TTree} {a1 : A} {R : List Res} {σ : St} (h2 : Sl rTTree a1 p0.f_Kids) (hp : Hp σ R) {r : ByteArray} (H : gdovetailref03_write n p0 = some r) : Ca cfg 22 [(.agg [(.v (.int .i64 p0.f_Kind)), (.v (.string p0.f_Word)), (.v (.int .i64 p0.f_Num)), a1])] σ (gdovetailref03_write_post R r) := gdovetailref03_write_rec_ok n h2 hp H

def gdovetailref03_Print_L1 (N : Nat) (p0 : (List TTree)) : Nat → Int → Option (LR Unit (ByteArray × Int))
  | 0, _ => none
  | m + 1, y20 => (cond (decide (y20 < ((p0.length : Nat) : Int))) (((atL p0 y20).bind fun x39 => ((gdovetailref03_Sound N x39).bind fun r51 => (cond (!r51) (some (.ret ((ByteArray.mk #[]), 31))) (gdovetailref03_Print_L1 N p0 m (IntKind.wrap .i64 (y20 + 1))))))) (some (.out ())))

def gdovetailref03_Print_L2 (N : Nat) (p0 : (List TTree)) : Nat → ByteArray → Int → Option (LR ByteArray (ByteArray × Int))
  | 0, _, _ => none
  | m + 1, y97, y98 => (cond (decide (y98 < ((p0.length : Nat) : Int))) (((atL p0 y98).bind fun x120 => ((gdovetailref03_write N x120).bind fun r132 => ((catS r132 (ByteArray.mk #[10])).bind fun s135 => ((catS y97 s135).bind fun s136 => (cond (decide (((s136.size : Nat) : Int) > 262144)) (some (.ret ((ByteArray.mk #[]), 33))) (gdovetailref03_Print_L2 N p0 m s136 (IntKind.wrap .i64 (y98 + 1))))))))) (some (.out y97)))

def gdovetailref03_Print (n : Nat) (p0 : (List TTree)) : Option ((ByteArray × Int)) := ((gdovetailref03_Print_L1 n p0 n 0).bind fun v => match v with | .out _ => ((gdovetailref03_Count n p0).bind fun r61 => (((cond (decide (r61 > 65536)) (some true) (((gdovetailref03_Deep n p0).bind fun r70 => some (decide (r70 > 32))))) : Option (Bool)).bind fun x68 => (cond x68 (some ((ByteArray.mk #[]), 33)) (((gdovetailref03_Print_L2 n p0 n (ByteArray.mk #[]) 0).bind fun v => match v with | .out x118 => some (x118, 0) | .ret r144 => some r144))))) | .ret r149 => some r149)

def gdovetailref03_Print_post (R : List Res) (r : (ByteArray × Int)) (x : A) (s : St) : Prop := x = (.tup [(.v (.string r.1)), (.v (.int .i64 r.2))]) ∧ Hp s (R)

theorem gdovetailref03_Print_ok {n : Nat} {p0 : (List TTree)} {a1 : A} {R : List Res} {σ : St} (h2 : Sl rTTree a1 p0) (hp : Hp σ R) {r : (ByteArray × Int)} (H : gdovetailref03_Print n p0 = some r) : Ca cfg 16 [a1] σ (gdovetailref03_Print_post R r) := by
  unfold gdovetailref03_Print at H
  refine Ca.enterL (G := [(0, a1)]) Tryd.func16 rfl rfl rfl rfl ?_
  refine Ec.seq ?_
  refine Ec.region ?_
  refine Eo.val (x := (.v (.string (ByteArray.mk #[])))) rfl rfl rfl rfl ?_
  refine Eo.val (x := (.v (.int .i64 0))) rfl rfl rfl rfl ?_
  refine Eo.nil ?_
  refine Ec.seq ?_
  refine Ec.seq ?_
  refine Ec.region ?_
  refine Eo.val (x := a1) rfl rfl rfl rfl ?_
  refine Eo.val (x := (.v (.int .i64 ((p0.length : Nat) : Int)))) (op_lenL h2 rfl rfl rfl rfl rfl Tryd.underlying23) rfl rfl rfl ?_
  refine Eo.val (x := (.v (.int .i64 0))) rfl rfl rfl rfl ?_
  refine Eo.nil ?_
  refine Ec.block ?_
  obtain ⟨v55, hv56, H⟩ := bind_some H
  refine Ec.cut (J := (fun (v : LR Unit (ByteArray × Int)) (x : X) (φ : Fr) (s : St) => match v with | .out _ => x = (.exit 0) ∧ (Hp s (R) ∧ Fl [(0, a1)] φ) | .ret r => x = .ret ∧ Ret cfg Tryd.f16 (gdovetailref03_Print_post R r) .ret φ s) v55) (Ec.weak (.cons rfl (.cons rfl (.cons rfl (.cons rfl (.nil'))))) (Ec.loopF (f := (fun m (i : Int × Unit) => gdovetailref03_Print_L1 n p0 m i.1)) (G := (fun (i : Int × Unit) => ([(0, a1), (9, a1), (10, (.v (.int .i64 ((p0.length : Nat) : Int)))), (11, (.v (.int .i64 i.1)))] : List (Nat × A)))) (I := (fun (i : Int × Unit) (s : St) => Hp s (R))) (J := (fun (v : LR Unit (ByteArray × Int)) (x : X) (φ : Fr) (s : St) => match v with | .out _ => x = (.exit 0) ∧ (Hp s (R) ∧ Fl [(0, a1)] φ) | .ret r => x = .ret ∧ Ret cfg Tryd.f16 (gdovetailref03_Print_post R r) .ret φ s)) (fun _ => rfl) ?_ n (0, ()) _ v55 hp hv56)) ?_
  · rintro m ⟨y20, _⟩ σ0 v hp0 H ih
    change gdovetailref03_Print_L1 n p0 (m + 1) y20 = some v at H
    rw [gdovetailref03_Print_L1] at H
    change Ec _ _ _ [(0, a1), (9, a1), (10, (.v (.int .i64 ((p0.length : Nat) : Int)))), (11, (.v (.int .i64 y20)))] σ0 _
    refine Ec.seq ?_
    refine Ec.region ?_
    refine Eo.val (x := (.v (.bool (decide (y20 < ((p0.length : Nat) : Int)))))) rfl rfl rfl rfl ?_
    refine Eo.nil ?_
    refine Ec.seq ?_
    refine Ec.cond (t := (decide (y20 < ((p0.length : Nat) : Int)))) rfl (fun hc38 => ?_) (fun hc38 => ?_)
    · have H := cond_t hc38 H
      refine Ec.skip ?_
      refine Ec.seq ?_
      refine Ec.block ?_
      refine Ec.seq ?_
      refine Ec.region ?_
      obtain ⟨x39, hvx39, H⟩ := bind_some H
      refine Eo.idx h2 hvx39 rfl rfl rfl Tryd.underlying23 rfl rfl rfl rfl ?_
      intro cs40 p41 _ hat42 hr45
      obtain ⟨a43, rfl, h44⟩ := rTTree_un hr45
      refine Eo.val (x := (.agg [(.v (.int .i64 x39.f_Kind)), (.v (.string x39.f_Word)), (.v (.int .i64 x39.f_Num)), a43])) (op_loadSpAgg hat42 0 rfl rfl rfl rfl rfl rfl) rfl rfl rfl ?_
      refine Eo.alloc (z := [(.v (.int .i64 0)), (.v (.string (ByteArray.mk #[]))), (.v (.int .i64 0)), nilS]) hp0 rfl rfl rfl rfl rfl ?_
      intro b46 σ48 hp47
      refine Eo.store hp47 0 rfl (storeCells_mk rfl rfl rfl (by simp [allOne, A.cells, h44.isOne]) rfl rfl) rfl rfl rfl rfl rfl ?_
      intro σ50 hp49
      change Hp σ50 (.blk b46 (.cells [(.v (.int .i64 x39.f_Kind)), (.v (.string x39.f_Word)), (.v (.int .i64 x39.f_Num)), a43] 34) :: R) at hp49
      refine Eo.nil ?_
      refine Ec.seq ?_
      refine Ec.region ?_
      refine Eo.val (x := (.agg [(.v (.int .i64 x39.f_Kind)), (.v (.string x39.f_Word)), (.v (.int .i64 x39.f_Num)), a43])) (op_loadB hp49 0 rfl rfl rfl rfl) rfl rfl rfl ?_
      obtain ⟨r51, hvr51, H⟩ := bind_some H
      refine Eo.call rfl rfl rfl rfl (gdovetailref03_Sound_ok h44 hp49 hvr51) ?_
      rintro _ σ53 ⟨rfl, hp52⟩
      refine Eo.val (x := (.v (.bool (!r51)))) rfl rfl rfl rfl ?_
      refine Eo.nil ?_
      refine Ec.cond (t := (!r51)) rfl (fun hc54 => ?_) (fun hc54 => ?_)
      · have H := cond_t hc54 H
        refine Ec.seq ?_
        refine Ec.region ?_
        refine Eo.val (x := (.v (.string (ByteArray.mk #[])))) rfl rfl rfl rfl ?_
        refine Eo.val (x := (.v (.int .i64 31))) rfl rfl rfl rfl ?_
        refine Eo.nil ?_
        obtain rfl := Option.some.inj H
        refine Ec.ret ?_
        refine And.intro rfl (Ret.mk rfl ?_)
        exact ⟨rfl, (Hp.drop hp52 0)⟩
      · have H := cond_f hc54 H
        refine Ec.skip ?_
        refine Ec.region ?_
        refine Eo.val (x := (.v (.int .i64 (IntKind.wrap .i64 (y20 + 1))))) rfl rfl rfl rfl ?_
        refine Eo.val (x := (.v (.int .i64 (IntKind.wrap .i64 (y20 + 1))))) rfl rfl rfl rfl ?_
        refine Eo.nil ?_
        exact Ec.of (.cons rfl (.cons rfl (.cons rfl (.cons rfl (.nil'))))) (ih ((IntKind.wrap .i64 (y20 + 1)), ()) _ (Hp.drop hp52 0) H)
    · have H := cond_f hc38 H
      refine Ec.exit ?_
      obtain rfl := Option.some.inj H
      exact And.intro rfl ⟨hp0, (.cons rfl (.nil'))⟩
  · rcases v55 with _ | r149
    · intro x φ59 σ58 hJ
      obtain ⟨rfl, hp57, hf60⟩ := hJ
      refine Ec.of (F := [(0, a1)]) hf60 ?_
      refine Ec.seq ?_
      refine Ec.seq ?_
      refine Ec.region ?_
      refine Eo.val (x := a1) rfl rfl rfl rfl ?_
      obtain ⟨r61, hvr61, H⟩ := bind_some H
      refine Eo.call rfl rfl rfl rfl (gdovetailref03_Count_ok h2 hp57 hvr61) ?_
      rintro _ σ63 ⟨rfl, hp62⟩
      refine Eo.val (x := (.v (.bool (decide (r61 > 65536))))) rfl rfl rfl rfl ?_
      refine Eo.val (x := (.v (.bool (decide (r61 > 65536))))) rfl rfl rfl rfl ?_
      obtain ⟨x68, hv148, H⟩ := bind_some H
      refine Eo.cutN 4 (J := (fun (x68 : Bool) (x : X) (φ : Fr) (s : St) => x = .normal ∧ (Hp s (R) ∧ Fl [(0, a1), (26, (.v (.bool x68)))] φ)) x68) ?_ ?_
      · have H := hv148
        cases hc69 : (decide (r61 > 65536))
        · have H := cond_f hc69 H
          refine Eo.val (x := a1) rfl rfl rfl rfl ?_
          obtain ⟨r70, hvr70, H⟩ := bind_some H
          refine Eo.call rfl rfl rfl rfl (gdovetailref03_Deep_ok h2 hp62 hvr70) ?_
          rintro _ σ72 ⟨rfl, hp71⟩
          refine Eo.val (x := (.v (.bool (decide (r70 > 32))))) rfl rfl rfl rfl ?_
          refine Eo.val (x := (.v (.bool (decide (r70 > 32))))) rfl rfl rfl rfl ?_
          refine Eo.nil ?_
          obtain rfl := Option.some.inj H
          exact And.intro rfl ⟨hp71, (.cons rfl (.cons rfl (.nil')))⟩
        · have H := cond_t hc69 H
          refine Eo.off rfl rfl rfl ?_
          refine Eo.off rfl rfl rfl ?_
          refine Eo.off rfl rfl rfl ?_
          refine Eo.val (x := (.v (.bool true))) rfl rfl rfl rfl ?_
          refine Eo.nil ?_
          obtain rfl := Option.some.inj H
          exact And.intro rfl ⟨hp62, (.cons rfl (.cons rfl (.nil')))⟩
      · skip
        intro x φ75 σ74 hJ
        obtain ⟨rfl, hp73, hf76⟩ := hJ
        refine ⟨rfl, Eo.of (F := [(0, a1), (26, (.v (.bool x68)))]) hf76 ?_⟩
        refine Eo.nil ?_
        refine Ec.cond (t := x68) rfl (fun hc77 => ?_) (fun hc77 => ?_)
        · have H := cond_t hc77 H
          refine Ec.seq ?_
          refine Ec.region ?_
          refine Eo.val (x := (.v (.string (ByteArray.mk #[])))) rfl rfl rfl rfl ?_
          refine Eo.val (x := (.v (.int .i64 33))) rfl rfl rfl rfl ?_
          refine Eo.nil ?_
          obtain rfl := Option.some.inj H
          refine Ec.ret ?_
          refine Ret.mk rfl ?_
          exact ⟨rfl, hp73⟩
        · have H := cond_f hc77 H
          refine Ec.skip ?_
          refine Ec.seq ?_
          refine Ec.region ?_
          refine Eo.val (x := (.v (.string (ByteArray.mk #[])))) rfl rfl rfl rfl ?_
          refine Eo.nil ?_
          refine Ec.seq ?_
          refine Ec.seq ?_
          refine Ec.region ?_
          refine Eo.val (x := a1) rfl rfl rfl rfl ?_
          refine Eo.val (x := (.v (.int .i64 ((p0.length : Nat) : Int)))) (op_lenL h2 rfl rfl rfl rfl rfl Tryd.underlying23) rfl rfl rfl ?_
          refine Eo.val (x := (.v (.int .i64 0))) rfl rfl rfl rfl ?_
          refine Eo.nil ?_
          refine Ec.block ?_
          obtain ⟨v138, hv139, H⟩ := bind_some H
          refine Ec.cut (J := (fun (v : LR ByteArray (ByteArray × Int)) (x : X) (φ : Fr) (s : St) => match v with | .out x118 => x = (.exit 2) ∧ (Hp s (R) ∧ Fl [(6, (.v (.string x118)))] φ) | .ret r => x = .ret ∧ Ret cfg Tryd.f16 (gdovetailref03_Print_post R r) .ret φ s) v138) (Ec.weak (.cons rfl (.cons rfl (.cons rfl (.cons rfl (.nil'))))) (Ec.loopF (f := (fun m (i : (ByteArray × Int) × Unit) => gdovetailref03_Print_L2 n p0 m i.1.1 i.1.2)) (G := (fun (i : (ByteArray × Int) × Unit) => ([(6, (.v (.string i.1.1))), (27, a1), (28, (.v (.int .i64 ((p0.length : Nat) : Int)))), (29, (.v (.int .i64 i.1.2)))] : List (Nat × A)))) (I := (fun (i : (ByteArray × Int) × Unit) (s : St) => Hp s (R))) (J := (fun (v : LR ByteArray (ByteArray × Int)) (x : X) (φ : Fr) (s : St) => match v with | .out x118 => x = (.exit 2) ∧ (Hp s (R) ∧ Fl [(6, (.v (.string x118)))] φ) | .ret r => x = .ret ∧ Ret cfg Tryd.f16 (gdovetailref03_Print_post R r) .ret φ s)) (fun _ => rfl) ?_ n (((ByteArray.mk #[]), 0), ()) _ v138 hp73 hv139)) ?_
          · rintro m ⟨⟨y97, y98⟩, _⟩ σ0 v hp0 H ih
            change gdovetailref03_Print_L2 n p0 (m + 1) y97 y98 = some v at H
            rw [gdovetailref03_Print_L2] at H
            change Ec _ _ _ [(6, (.v (.string y97))), (27, a1), (28, (.v (.int .i64 ((p0.length : Nat) : Int)))), (29, (.v (.int .i64 y98)))] σ0 _
            refine Ec.seq ?_
            refine Ec.region ?_
            refine Eo.val (x := (.v (.bool (decide (y98 < ((p0.length : Nat) : Int)))))) rfl rfl rfl rfl ?_
            refine Eo.nil ?_
            refine Ec.seq ?_
            refine Ec.cond (t := (decide (y98 < ((p0.length : Nat) : Int)))) rfl (fun hc119 => ?_) (fun hc119 => ?_)
            · have H := cond_t hc119 H
              refine Ec.skip ?_
              refine Ec.seq ?_
              refine Ec.block ?_
              refine Ec.seq ?_
              refine Ec.region ?_
              obtain ⟨x120, hvx120, H⟩ := bind_some H
              refine Eo.idx h2 hvx120 rfl rfl rfl Tryd.underlying23 rfl rfl rfl rfl ?_
              intro cs121 p122 _ hat123 hr126
              obtain ⟨a124, rfl, h125⟩ := rTTree_un hr126
              refine Eo.val (x := (.agg [(.v (.int .i64 x120.f_Kind)), (.v (.string x120.f_Word)), (.v (.int .i64 x120.f_Num)), a124])) (op_loadSpAgg hat123 0 rfl rfl rfl rfl rfl rfl) rfl rfl rfl ?_
              refine Eo.alloc (z := [(.v (.int .i64 0)), (.v (.string (ByteArray.mk #[]))), (.v (.int .i64 0)), nilS]) hp0 rfl rfl rfl rfl rfl ?_
              intro b127 σ129 hp128
              refine Eo.store hp128 0 rfl (storeCells_mk rfl rfl rfl (by simp [allOne, A.cells, h125.isOne]) rfl rfl) rfl rfl rfl rfl rfl ?_
              intro σ131 hp130
              change Hp σ131 (.blk b127 (.cells [(.v (.int .i64 x120.f_Kind)), (.v (.string x120.f_Word)), (.v (.int .i64 x120.f_Num)), a124] 34) :: R) at hp130
              refine Eo.nil ?_
              refine Ec.seq ?_
              refine Ec.region ?_
              refine Eo.val (x := (.v (.string y97))) rfl rfl rfl rfl ?_
              refine Eo.val (x := (.agg [(.v (.int .i64 x120.f_Kind)), (.v (.string x120.f_Word)), (.v (.int .i64 x120.f_Num)), a124])) (op_loadB hp130 0 rfl rfl rfl rfl) rfl rfl rfl ?_
              obtain ⟨r132, hvr132, H⟩ := bind_some H
              refine Eo.call rfl rfl rfl rfl (gdovetailref03_write_ok h125 hp130 hvr132) ?_
              rintro _ σ134 ⟨rfl, hp133⟩
              obtain ⟨s135, hvs135, H⟩ := bind_some H
              refine Eo.val (op_catS hvs135 rfl rfl rfl) rfl rfl rfl ?_
              obtain ⟨s136, hvs136, H⟩ := bind_some H
              refine Eo.val (op_catS hvs136 rfl rfl rfl) rfl rfl rfl ?_
              refine Eo.val (x := (.v (.string s136))) rfl rfl rfl rfl ?_
              refine Eo.nil ?_
              refine Ec.seq ?_
              refine Ec.region ?_
              refine Eo.val (x := (.v (.string s136))) rfl rfl rfl rfl ?_
              refine Eo.val (x := (.v (.int .i64 ((s136.size : Nat) : Int)))) (op_len rfl rfl rfl rfl rfl Tryd.underlying9) rfl rfl rfl ?_
              refine Eo.val (x := (.v (.bool (decide (((s136.size : Nat) : Int) > 262144))))) rfl rfl rfl rfl ?_
              refine Eo.nil ?_
              refine Ec.cond (t := (decide (((s136.size : Nat) : Int) > 262144))) rfl (fun hc137 => ?_) (fun hc137 => ?_)
              · have H := cond_t hc137 H
                refine Ec.seq ?_
                refine Ec.region ?_
                refine Eo.val (x := (.v (.string (ByteArray.mk #[])))) rfl rfl rfl rfl ?_
                refine Eo.val (x := (.v (.int .i64 33))) rfl rfl rfl rfl ?_
                refine Eo.nil ?_
                obtain rfl := Option.some.inj H
                refine Ec.ret ?_
                refine And.intro rfl (Ret.mk rfl ?_)
                exact ⟨rfl, (Hp.drop hp133 0)⟩
              · have H := cond_f hc137 H
                refine Ec.skip ?_
                refine Ec.region ?_
                refine Eo.val (x := (.v (.int .i64 (IntKind.wrap .i64 (y98 + 1))))) rfl rfl rfl rfl ?_
                refine Eo.val (x := (.v (.int .i64 (IntKind.wrap .i64 (y98 + 1))))) rfl rfl rfl rfl ?_
                refine Eo.nil ?_
                exact Ec.of (.cons rfl (.cons rfl (.cons rfl (.cons rfl (.nil'))))) (ih ((s136, (IntKind.wrap .i64 (y98 + 1))), ()) _ (Hp.drop hp133 0) H)
            · have H := cond_f hc119 H
              refine Ec.exit ?_
              obtain rfl := Option.some.inj H
              exact And.intro rfl ⟨hp0, (.cons rfl (.nil'))⟩
          · rcases v138 with x118 | r144
            · intro x φ142 σ141 hJ
              obtain ⟨rfl, hp140, hf143⟩ := hJ
              refine Ec.of (F := [(6, (.v (.string x118)))]) hf143 ?_
              refine Ec.seq ?_
              refine Ec.region ?_
              refine Eo.val (x := (.v (.string x118))) rfl rfl rfl rfl ?_
              refine Eo.val (x := (.v (.string x118))) rfl rfl rfl rfl ?_
              refine Eo.val (x := (.v (.int .i64 0))) rfl rfl rfl rfl ?_
              refine Eo.nil ?_
              obtain rfl := Option.some.inj H
              refine Ec.ret ?_
              refine Ret.mk rfl ?_
              exact ⟨rfl, hp140⟩
            · intro x φ145 σ146 hJ
              obtain rfl := Option.some.inj H
              obtain ⟨rfl, hr⟩ := hJ
              exact hr
    · intro x φ150 σ151 hJ
      obtain rfl := Option.some.inj H
      obtain ⟨rfl, hr⟩ := hJ
      exact hr

def gdovetaillaw03_SexpPrints (n : Nat) (p0 : (List TTree)) : Option (Bool) := ((gdovetaillaw03_sexpAlive n ).bind fun r3 => (cond (!r3) (some false) (((gdovetailref03_Copy n p0).bind fun r7 => ((gdovetailref03_Print n p0).bind fun v => match v with | (r13, r14) => ((gsexp_Print n r7).bind fun v => match v with | (r18, r19) => (((cond ((r19 != r14) || (!decide (r18 = r13))) (some true) (((gdovetailref03_Same n r7 p0).bind fun r33 => some (!r33)))) : Option (Bool)).bind fun x31 => (cond x31 (some false) ((cond (r19 != 0) (some true) (((gsexp_Parse n r18).bind fun v => match v with | (r43, r44, r45) => (((cond ((r45 == 0) && (r44 == 0)) (((gdovetailref03_Same n r43 p0).bind fun r61 => some r61)) (some false)) : Option (Bool)).bind fun x59 => some x59)))))))))))))

def gdovetaillaw03_SexpPrints_post (R : List Res) (r : Bool) (x : A) (s : St) : Prop := x = (.v (.bool r)) ∧ Hp s (R)

theorem gdovetaillaw03_SexpPrints_ok {n : Nat} {p0 : (List TTree)} {a1 : A} {R : List Res} {σ : St} (h2 : Sl rTTree a1 p0) (hp : Hp σ R) {r : Bool} (H : gdovetaillaw03_SexpPrints n p0 = some r) : Ca cfg 7 [a1] σ (gdovetaillaw03_SexpPrints_post R r) := by
  unfold gdovetaillaw03_SexpPrints at H
  refine Ca.enterL (G := [(0, a1)]) Tryd.func7 rfl rfl rfl rfl ?_
  refine Ec.seq ?_
  refine Ec.region ?_
  refine Eo.val (x := (.v (.bool false))) rfl rfl rfl rfl ?_
  refine Eo.nil ?_
  refine Ec.seq ?_
  refine Ec.seq ?_
  refine Ec.region ?_
  obtain ⟨r3, hvr3, H⟩ := bind_some H
  refine Eo.call rfl rfl rfl rfl (gdovetaillaw03_sexpAlive_ok hp hvr3) ?_
  rintro _ σ5 ⟨rfl, hp4⟩
  refine Eo.val (x := (.v (.bool (!r3)))) rfl rfl rfl rfl ?_
  refine Eo.nil ?_
  refine Ec.cond (t := (!r3)) rfl (fun hc6 => ?_) (fun hc6 => ?_)
  · have H := cond_t hc6 H
    refine Ec.seq ?_
    refine Ec.region ?_
    refine Eo.val (x := (.v (.bool false))) rfl rfl rfl rfl ?_
    refine Eo.nil ?_
    obtain rfl := Option.some.inj H
    refine Ec.ret ?_
    refine Ret.mk rfl ?_
    exact ⟨rfl, hp4⟩
  · have H := cond_f hc6 H
    refine Ec.skip ?_
    refine Ec.seq ?_
    refine Ec.region ?_
    refine Eo.val (x := a1) rfl rfl rfl rfl ?_
    obtain ⟨r7, hvr7, H⟩ := bind_some H
    refine Eo.call rfl rfl rfl rfl (gdovetailref03_Copy_ok h2 hp4 hvr7) ?_
    rintro a8 σ11 ⟨_, rfl, h9, hp10⟩
    change Hp σ11 (.app a8 34 :: R) at hp10
    refine Eo.val (x := a8) rfl rfl rfl rfl ?_
    refine Eo.nil ?_
    refine Ec.seq ?_
    refine Ec.region ?_
    refine Eo.val (x := a1) rfl rfl rfl rfl ?_
    obtain ⟨r12, hvr12, H⟩ := bind_some H
    refine Eo.call rfl rfl rfl rfl (gdovetailref03_Print_ok h2 hp10 hvr12) ?_
    obtain ⟨r13, r14⟩ := r12
    rintro _ σ16 ⟨rfl, hp15⟩
    refine Eo.val (x := (.tup [(.v (.string r13)), (.v (.int .i64 r14))])) rfl rfl rfl rfl ?_
    refine Eo.val (x := (.v (.string r13))) rfl rfl rfl rfl ?_
    refine Eo.val (x := (.v (.int .i64 r14))) rfl rfl rfl rfl ?_
    refine Eo.val (x := (.v (.string r13))) rfl rfl rfl rfl ?_
    refine Eo.val (x := (.v (.int .i64 r14))) rfl rfl rfl rfl ?_
    refine Eo.nil ?_
    refine Ec.seq ?_
    refine Ec.region ?_
    refine Eo.val (x := a8) rfl rfl rfl rfl ?_
    obtain ⟨r17, hvr17, H⟩ := bind_some H
    refine Eo.call rfl rfl rfl rfl (gsexp_Print_ok h9 hp15 hvr17) ?_
    obtain ⟨r18, r19⟩ := r17
    rintro _ σ21 ⟨rfl, hp20⟩
    refine Eo.val (x := (.tup [(.v (.string r18)), (.v (.int .i64 r19))])) rfl rfl rfl rfl ?_
    refine Eo.val (x := (.v (.string r18))) rfl rfl rfl rfl ?_
    refine Eo.val (x := (.v (.int .i64 r19))) rfl rfl rfl rfl ?_
    refine Eo.val (x := (.v (.string r18))) rfl rfl rfl rfl ?_
    refine Eo.val (x := (.v (.int .i64 r19))) rfl rfl rfl rfl ?_
    refine Eo.nil ?_
    refine Ec.seq ?_
    refine Ec.seq ?_
    refine Ec.region ?_
    refine Eo.val (x := (.v (.int .i64 r19))) rfl rfl rfl rfl ?_
    refine Eo.val (x := (.v (.int .i64 r14))) rfl rfl rfl rfl ?_
    refine Eo.val (x := (.v (.bool (r19 != r14)))) rfl rfl rfl rfl ?_
    refine Eo.val (x := (.v (.bool (r19 != r14)))) rfl rfl rfl rfl ?_
    refine Eo.cutF 4 [(0, a1), (3, a8), (6, (.v (.string r18))), (7, (.v (.int .i64 r19))), (32, (.v (.bool ((r19 != r14) || (!decide (r18 = r13))))))] ?_ ?_
    · skip
      cases hc24 : (r19 != r14)
      · skip
        refine Eo.val (x := (.v (.string r18))) rfl rfl rfl rfl ?_
        refine Eo.val (x := (.v (.string r13))) rfl rfl rfl rfl ?_
        refine Eo.val (x := (.v (.bool (!decide (r18 = r13))))) (val_b rfl (sne_eq _ _)) rfl rfl rfl ?_
        refine Eo.val (x := (.v (.bool (!decide (r18 = r13))))) rfl rfl rfl rfl ?_
        exact Eo.nil (And.intro rfl (And.intro rfl (.cons rfl (.cons rfl (.cons rfl (.cons rfl (.cons rfl (.nil'))))))))
      · skip
        refine Eo.off rfl rfl rfl ?_
        refine Eo.off rfl rfl rfl ?_
        refine Eo.off rfl rfl rfl ?_
        refine Eo.val (x := (.v (.bool true))) rfl rfl rfl rfl ?_
        exact Eo.nil (And.intro rfl (And.intro rfl (.cons rfl (.cons rfl (.cons rfl (.cons rfl (.cons rfl (.nil'))))))))
    · skip
      refine Eo.val (x := (.v (.bool ((r19 != r14) || (!decide (r18 = r13)))))) rfl rfl rfl rfl ?_
      obtain ⟨x31, hv71, H⟩ := bind_some H
      refine Eo.cutN 5 (J := (fun (x31 : Bool) (x : X) (φ : Fr) (s : St) => x = .normal ∧ (Hp s (R) ∧ Fl [(0, a1), (6, (.v (.string r18))), (7, (.v (.int .i64 r19))), (38, (.v (.bool x31)))] φ)) x31) ?_ ?_
      · have H := hv71
        cases hc32 : ((r19 != r14) || (!decide (r18 = r13)))
        · have H := cond_f hc32 H
          refine Eo.val (x := a8) rfl rfl rfl rfl ?_
          refine Eo.val (x := a1) rfl rfl rfl rfl ?_
          obtain ⟨r33, hvr33, H⟩ := bind_some H
          refine Eo.call rfl rfl rfl rfl (gdovetailref03_Same_ok h9 h2 hp20 hvr33) ?_
          rintro _ σ35 ⟨rfl, hp34⟩
          refine Eo.val (x := (.v (.bool (!r33)))) rfl rfl rfl rfl ?_
          refine Eo.val (x := (.v (.bool (!r33)))) rfl rfl rfl rfl ?_
          refine Eo.nil ?_
          obtain rfl := Option.some.inj H
          exact And.intro rfl ⟨(Hp.drop hp34 0), (.cons rfl (.cons rfl (.cons rfl (.cons rfl (.nil')))))⟩
        · have H := cond_t hc32 H
          refine Eo.off rfl rfl rfl ?_
          refine Eo.off rfl rfl rfl ?_
          refine Eo.off rfl rfl rfl ?_
          refine Eo.off rfl rfl rfl ?_
          refine Eo.val (x := (.v (.bool true))) rfl rfl rfl rfl ?_
          refine Eo.nil ?_
          obtain rfl := Option.some.inj H
          exact And.intro rfl ⟨(Hp.drop hp20 0), (.cons rfl (.cons rfl (.cons rfl (.cons rfl (.nil')))))⟩
      · skip
        intro x φ38 σ37 hJ
        obtain ⟨rfl, hp36, hf39⟩ := hJ
        refine ⟨rfl, Eo.of (F := [(0, a1), (6, (.v (.string r18))), (7, (.v (.int .i64 r19))), (38, (.v (.bool x31)))]) hf39 ?_⟩
        refine Eo.nil ?_
        refine Ec.cond (t := x31) rfl (fun hc40 => ?_) (fun hc40 => ?_)
        · have H := cond_t hc40 H
          refine Ec.seq ?_
          refine Ec.region ?_
          refine Eo.val (x := (.v (.bool false))) rfl rfl rfl rfl ?_
          refine Eo.nil ?_
          obtain rfl := Option.some.inj H
          refine Ec.ret ?_
          refine Ret.mk rfl ?_
          exact ⟨rfl, hp36⟩
        · have H := cond_f hc40 H
          refine Ec.skip ?_
          refine Ec.seq ?_
          refine Ec.seq ?_
          refine Ec.region ?_
          refine Eo.val (x := (.v (.int .i64 r19))) rfl rfl rfl rfl ?_
          refine Eo.val (x := (.v (.bool (r19 != 0)))) rfl rfl rfl rfl ?_
          refine Eo.nil ?_
          refine Ec.cond (t := (r19 != 0)) rfl (fun hc41 => ?_) (fun hc41 => ?_)
          · have H := cond_t hc41 H
            refine Ec.seq ?_
            refine Ec.region ?_
            refine Eo.val (x := (.v (.bool true))) rfl rfl rfl rfl ?_
            refine Eo.nil ?_
            obtain rfl := Option.some.inj H
            refine Ec.ret ?_
            refine Ret.mk rfl ?_
            exact ⟨rfl, hp36⟩
          · have H := cond_f hc41 H
            refine Ec.skip ?_
            refine Ec.seq ?_
            refine Ec.region ?_
            refine Eo.val (x := (.v (.string r18))) rfl rfl rfl rfl ?_
            obtain ⟨r42, hvr42, H⟩ := bind_some H
            refine Eo.call rfl rfl rfl rfl (gsexp_Parse_ok hp36 hvr42) ?_
            obtain ⟨r43, r44, r45⟩ := r42
            rintro _ σ49 ⟨a46, rfl, h47, hp48⟩
            change Hp σ49 (.app a46 34 :: R) at hp48
            refine Eo.val (x := (.tup [a46, (.v (.int .i64 r44)), (.v (.int .i64 r45))])) rfl rfl rfl rfl ?_
            refine Eo.val (x := a46) rfl rfl rfl rfl ?_
            refine Eo.val (x := (.v (.int .i64 r44))) rfl rfl rfl rfl ?_
            refine Eo.val (x := (.v (.int .i64 r45))) rfl rfl rfl rfl ?_
            refine Eo.val (x := a46) rfl rfl rfl rfl ?_
            refine Eo.val (x := (.v (.int .i64 r44))) rfl rfl rfl rfl ?_
            refine Eo.val (x := (.v (.int .i64 r45))) rfl rfl rfl rfl ?_
            refine Eo.nil ?_
            refine Ec.seq ?_
            refine Ec.region ?_
            refine Eo.val (x := (.v (.int .i64 r45))) rfl rfl rfl rfl ?_
            refine Eo.val (x := (.v (.bool (r45 == 0)))) rfl rfl rfl rfl ?_
            refine Eo.val (x := (.v (.bool (r45 == 0)))) rfl rfl rfl rfl ?_
            refine Eo.cutF 3 [(0, a1), (8, a46), (52, (.v (.bool ((r45 == 0) && (r44 == 0)))))] ?_ ?_
            · skip
              cases hc52 : (r45 == 0)
              · skip
                refine Eo.off rfl rfl rfl ?_
                refine Eo.off rfl rfl rfl ?_
                refine Eo.val (x := (.v (.bool false))) rfl rfl rfl rfl ?_
                exact Eo.nil (And.intro rfl (And.intro rfl (.cons rfl (.cons rfl (.cons rfl (.nil'))))))
              · skip
                refine Eo.val (x := (.v (.int .i64 r44))) rfl rfl rfl rfl ?_
                refine Eo.val (x := (.v (.bool (r44 == 0)))) rfl rfl rfl rfl ?_
                refine Eo.val (x := (.v (.bool (r44 == 0)))) rfl rfl rfl rfl ?_
                exact Eo.nil (And.intro rfl (And.intro rfl (.cons rfl (.cons rfl (.cons rfl (.nil'))))))
            · skip
              refine Eo.val (x := (.v (.bool ((r45 == 0) && (r44 == 0))))) rfl rfl rfl rfl ?_
              obtain ⟨x59, hv69, H⟩ := bind_some H
              refine Eo.cutN 4 (J := (fun (x59 : Bool) (x : X) (φ : Fr) (s : St) => x = .normal ∧ (Hp s (R) ∧ Fl [(57, (.v (.bool x59)))] φ)) x59) ?_ ?_
              · have H := hv69
                cases hc60 : ((r45 == 0) && (r44 == 0))
                · have H := cond_f hc60 H
                  refine Eo.off rfl rfl rfl ?_
                  refine Eo.off rfl rfl rfl ?_
                  refine Eo.off rfl rfl rfl ?_
                  refine Eo.val (x := (.v (.bool false))) rfl rfl rfl rfl ?_
                  refine Eo.nil ?_
                  obtain rfl := Option.some.inj H
                  exact And.intro rfl ⟨(Hp.drop hp48 0), (.cons rfl (.nil'))⟩
                · have H := cond_t hc60 H
                  refine Eo.val (x := a46) rfl rfl rfl rfl ?_
                  refine Eo.val (x := a1) rfl rfl rfl rfl ?_
                  obtain ⟨r61, hvr61, H⟩ := bind_some H
                  refine Eo.call rfl rfl rfl rfl (gdovetailref03_Same_ok h47 h2 hp48 hvr61) ?_
                  rintro _ σ63 ⟨rfl, hp62⟩
                  refine Eo.val (x := (.v (.bool r61))) rfl rfl rfl rfl ?_
                  refine Eo.nil ?_
                  obtain rfl := Option.some.inj H
                  exact And.intro rfl ⟨(Hp.drop hp62 0), (.cons rfl (.nil'))⟩
              · skip
                intro x φ66 σ65 hJ
                obtain ⟨rfl, hp64, hf67⟩ := hJ
                refine ⟨rfl, Eo.of (F := [(57, (.v (.bool x59)))]) hf67 ?_⟩
                refine Eo.val (x := (.v (.bool x59))) rfl rfl rfl rfl ?_
                refine Eo.nil ?_
                obtain rfl := Option.some.inj H
                refine Ec.ret ?_
                refine Ret.mk rfl ?_
                exact ⟨rfl, hp64⟩

end Go.DM
