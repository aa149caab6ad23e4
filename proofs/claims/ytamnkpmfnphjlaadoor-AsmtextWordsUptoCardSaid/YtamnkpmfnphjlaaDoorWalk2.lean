/- Typed functions of the program's functions, and the walks that show that the calls come to them. No condition. -/
import Derived.Test.YtamnkpmfnphjlaaDoorWalk1
namespace Go.DM
open Go Go.Proofs
set_option maxRecDepth 100000
set_option maxHeartbeats 1000000
theorem gdovetailref13_Parse_ok {n : Nat} {p0 : ByteArray} {R : List Res} {σ : St} (hp : Hp σ R) {r : ((List TLine) × Int × Int)} (H : gdovetailref13_Parse n p0 = some r) : Ca cfg 9 [(.v (.string p0))] σ (gdovetailref13_Parse_post R r) := by
  unfold gdovetailref13_Parse at H
  refine Ca.enterL (G := [(0, (.v (.string p0)))]) Tryd.func9 rfl rfl rfl rfl ?_
  refine Ec.seq ?_
  refine Ec.region ?_
  refine Eo.val (x := nilS) rfl rfl rfl rfl ?_
  refine Eo.val (x := (.v (.int .i64 0))) rfl rfl rfl rfl ?_
  refine Eo.val (x := (.v (.int .i64 0))) rfl rfl rfl rfl ?_
  refine Eo.nil ?_
  refine Ec.seq ?_
  refine Ec.seq ?_
  refine Ec.region ?_
  refine Eo.val (x := (.v (.string p0))) rfl rfl rfl rfl ?_
  refine Eo.val (x := (.v (.int .i64 ((p0.size : Nat) : Int)))) (op_len rfl rfl rfl rfl rfl Tryd.underlying9) rfl rfl rfl ?_
  refine Eo.val (x := (.v (.bool (decide (((p0.size : Nat) : Int) > 262144))))) rfl rfl rfl rfl ?_
  refine Eo.nil ?_
  refine Ec.cond (t := (decide (((p0.size : Nat) : Int) > 262144))) rfl (fun hc1 => ?_) (fun hc1 => ?_)
  · have H := cond_t hc1 H
    refine Ec.seq ?_
    refine Ec.region ?_
    refine Eo.val (x := nilS) rfl rfl rfl rfl ?_
    refine Eo.val (x := (.v (.int .i64 0))) rfl rfl rfl rfl ?_
    refine Eo.val (x := (.v (.int .i64 133))) rfl rfl rfl rfl ?_
    refine Eo.nil ?_
    obtain rfl := Option.some.inj H
    refine Ec.ret ?_
    refine Ret.mk rfl ?_
    exact ⟨nilS, rfl, Sl.nil, (Hp.appNil hp 46)⟩
  · have H := cond_f hc1 H
    refine Ec.skip ?_
    refine Ec.seq ?_
    refine Ec.region ?_
    refine Eo.val (x := (.v (.string p0))) rfl rfl rfl rfl ?_
    obtain ⟨r2, hvr2, H⟩ := bind_some H
    refine Eo.call rfl rfl rfl rfl (gdovetailref13_Split_ok hp hvr2) ?_
    rintro a3 σ6 ⟨_, rfl, h4, hp5⟩
    change Hp σ6 (.app a3 9 :: R) at hp5
    refine Eo.val (x := a3) rfl rfl rfl rfl ?_
    refine Eo.nil ?_
    refine Ec.seq ?_
    refine Ec.seq ?_
    refine Ec.region ?_
    refine Eo.val (x := a3) rfl rfl rfl rfl ?_
    refine Eo.val (x := (.v (.int .i64 ((r2.length : Nat) : Int)))) (op_lenL h4 rfl rfl rfl rfl rfl Tryd.underlying44) rfl rfl rfl ?_
    refine Eo.val (x := (.v (.bool (decide (((r2.length : Nat) : Int) > 16384))))) rfl rfl rfl rfl ?_
    refine Eo.nil ?_
    refine Ec.cond (t := (decide (((r2.length : Nat) : Int) > 16384))) rfl (fun hc7 => ?_) (fun hc7 => ?_)
    · have H := cond_t hc7 H
      refine Ec.seq ?_
      refine Ec.region ?_
      refine Eo.val (x := nilS) rfl rfl rfl rfl ?_
      refine Eo.val (x := (.v (.int .i64 0))) rfl rfl rfl rfl ?_
      refine Eo.val (x := (.v (.int .i64 133))) rfl rfl rfl rfl ?_
      refine Eo.nil ?_
      obtain rfl := Option.some.inj H
      refine Ec.ret ?_
      refine Ret.mk rfl ?_
      exact ⟨nilS, rfl, Sl.nil, (Hp.appNil (Hp.drop hp5 0) 46)⟩
    · have H := cond_f hc7 H
      refine Ec.skip ?_
      refine Ec.seq ?_
      refine Ec.region ?_
      refine Eo.val (x := (.sl 3 [] .ex)) rfl rfl rfl rfl ?_
      have hp10 := Hp.appEx hp5 46 3 []
      refine Eo.val (x := (.sl 3 [] .ex)) rfl rfl rfl rfl ?_
      refine Eo.nil ?_
      refine Ec.seq ?_
      refine Ec.seq ?_
      refine Ec.region ?_
      refine Eo.val (x := a3) rfl rfl rfl rfl ?_
      refine Eo.val (x := (.v (.int .i64 ((r2.length : Nat) : Int)))) (op_lenL h4 rfl rfl rfl rfl rfl Tryd.underlying44) rfl rfl rfl ?_
      refine Eo.val (x := (.v (.int .i64 0))) rfl rfl rfl rfl ?_
      refine Eo.nil ?_
      refine Ec.block ?_
      obtain ⟨v1167, hv1168, H⟩ := bind_some H
      refine Ec.cut (J := (fun (v : LR (List TLine) ((List TLine) × Int × Int)) (x : X) (φ : Fr) (s : St) => match v with | .out x781 => x = (.exit 0) ∧ (∃ (a782 : A), Sl rTLine a782 x781 ∧ Hp s (.app a782 46 :: R) ∧ Fl [(6, a782)] φ) | .ret r => x = .ret ∧ Ret cfg Tryd.f9 (gdovetailref13_Parse_post R r) .ret φ s) v1167) (Ec.weak (.cons rfl (.cons rfl (.cons rfl (.cons rfl (.nil'))))) (Ec.loopF (f := (fun m (i : ((List TLine) × Int) × A) => gdovetailref13_Parse_L1 n r2 m i.1.1 i.1.2)) (G := (fun (i : ((List TLine) × Int) × A) => ([(6, i.2), (21, a3), (22, (.v (.int .i64 ((r2.length : Nat) : Int)))), (23, (.v (.int .i64 i.1.2)))] : List (Nat × A)))) (I := (fun (i : ((List TLine) × Int) × A) (s : St) => Sl rTLine i.2 i.1.1 ∧ Hp s (.app i.2 46 :: .app a3 9 :: R))) (J := (fun (v : LR (List TLine) ((List TLine) × Int × Int)) (x : X) (φ : Fr) (s : St) => match v with | .out x781 => x = (.exit 0) ∧ (∃ (a782 : A), Sl rTLine a782 x781 ∧ Hp s (.app a782 46 :: R) ∧ Fl [(6, a782)] φ) | .ret r => x = .ret ∧ Ret cfg Tryd.f9 (gdovetailref13_Parse_post R r) .ret φ s)) (fun _ => rfl) ?_ n ((([] : List TLine), 0), (.sl 3 [] .ex)) _ v1167 ⟨(.inr ⟨_, _, rfl, .nil⟩ : Sl rTLine (.sl 3 [] .ex) ([] : List TLine)), (Hp.front (Hp.front hp10 1) 1)⟩ hv1168)) ?_
      · rintro m ⟨⟨y394, y397⟩, a395⟩ σ0 v ⟨h396, hp0⟩ H ih
        change gdovetailref13_Parse_L1 n r2 (m + 1) y394 y397 = some v at H
        rw [gdovetailref13_Parse_L1] at H
        change Ec _ _ _ [(6, a395), (21, a3), (22, (.v (.int .i64 ((r2.length : Nat) : Int)))), (23, (.v (.int .i64 y397)))] σ0 _
        refine Ec.seq ?_
        refine Ec.region ?_
        refine Eo.val (x := (.v (.bool (decide (y397 < ((r2.length : Nat) : Int)))))) rfl rfl rfl rfl ?_
        refine Eo.nil ?_
        refine Ec.seq ?_
        refine Ec.cond (t := (decide (y397 < ((r2.length : Nat) : Int)))) rfl (fun hc784 => ?_) (fun hc784 => ?_)
        · have H := cond_t hc784 H
          refine Ec.skip ?_
          refine Ec.seq ?_
          obtain ⟨v1165, hv1166, H⟩ := bind_some H
          refine Ec.cut (J := (fun (v : LR (List TLine) ((List TLine) × Int × Int)) (x : X) (φ : Fr) (s : St) => match v with | .out x970 => x = .normal ∧ (∃ (a971 : A), Sl rTLine a971 x970 ∧ Hp s (.app a971 46 :: .app a3 9 :: R) ∧ Fl [(6, a971), (21, a3), (22, (.v (.int .i64 ((r2.length : Nat) : Int)))), (23, (.v (.int .i64 y397)))] φ) | .ret r => x = .ret ∧ Ret cfg Tryd.f9 (gdovetailref13_Parse_post R r) .ret φ s) v1165) ?_ ?_
          · have H := hv1166
            refine Ec.block ?_
            refine Ec.seq ?_
            refine Ec.region ?_
            refine Eo.val (x := (.v (.int .i64 y397))) rfl rfl rfl rfl ?_
            obtain ⟨x973, hvx973, H⟩ := bind_some H
            refine Eo.idx h4 hvx973 rfl rfl rfl Tryd.underlying44 rfl rfl rfl rfl ?_
            rintro cs974 p975 _ hat976 rfl
            refine Eo.val (x := (.v (.string x973))) (op_loadSp hat976 0 rfl rfl rfl rfl rfl) rfl rfl rfl ?_
            refine Eo.val (x := (.v (.int .i64 y397))) rfl rfl rfl rfl ?_
            refine Eo.val (x := (.v (.string x973))) rfl rfl rfl rfl ?_
            refine Eo.nil ?_
            refine Ec.seq ?_
            refine Ec.region ?_
            refine Eo.val (x := (.v (.string x973))) rfl rfl rfl rfl ?_
            obtain ⟨r977, hvr977, H⟩ := bind_some H
            refine Eo.call rfl rfl rfl rfl (gdovetailref13_Words_ok hp0 hvr977) ?_
            obtain ⟨r978, r979⟩ := r977
            rintro _ σ983 ⟨a980, rfl, h981, hp982⟩
            change Hp σ983 (.app a980 48 :: .app a395 46 :: .app a3 9 :: R) at hp982
            refine Eo.val (x := (.tup [a980, (.v (.int .i64 r979))])) rfl rfl rfl rfl ?_
            refine Eo.val (x := a980) rfl rfl rfl rfl ?_
            refine Eo.val (x := (.v (.int .i64 r979))) rfl rfl rfl rfl ?_
            refine Eo.val (x := a980) rfl rfl rfl rfl ?_
            refine Eo.val (x := (.v (.int .i64 r979))) rfl rfl rfl rfl ?_
            refine Eo.nil ?_
            refine Ec.seq ?_
            refine Ec.seq ?_
            refine Ec.region ?_
            refine Eo.val (x := (.v (.int .i64 r979))) rfl rfl rfl rfl ?_
            refine Eo.val (x := (.v (.bool (r979 != 0)))) rfl rfl rfl rfl ?_
            refine Eo.nil ?_
            refine Ec.cond (t := (r979 != 0)) rfl (fun hc984 => ?_) (fun hc984 => ?_)
            · have H := cond_t hc984 H
              refine Ec.seq ?_
              refine Ec.region ?_
              refine Eo.val (x := (.v (.int .i64 y397))) rfl rfl rfl rfl ?_
              refine Eo.val (x := (.v (.int .i64 (IntKind.wrap .i64 (y397 + 1))))) rfl rfl rfl rfl ?_
              refine Eo.val (x := (.v (.int .i64 r979))) rfl rfl rfl rfl ?_
              refine Eo.val (x := nilS) rfl rfl rfl rfl ?_
              refine Eo.val (x := (.v (.int .i64 (IntKind.wrap .i64 (y397 + 1))))) rfl rfl rfl rfl ?_
              refine Eo.val (x := (.v (.int .i64 r979))) rfl rfl rfl rfl ?_
              refine Eo.nil ?_
              obtain rfl := Option.some.inj H
              refine Ec.ret ?_
              refine And.intro rfl (Ret.mk rfl ?_)
              exact ⟨nilS, rfl, Sl.nil, (Hp.appNil (Hp.drop (Hp.drop (Hp.drop hp982 0) 0) 0) 46)⟩
            · have H := cond_f hc984 H
              refine Ec.skip ?_
              refine Ec.seq ?_
              refine Ec.region ?_
              refine Eo.val (x := (.v (.int .i64 y397))) rfl rfl rfl rfl ?_
              refine Eo.val (x := (.v (.int .i64 (IntKind.wrap .i64 (y397 + 1))))) rfl rfl rfl rfl ?_
              refine Eo.val (x := (.agg [(.v (.int .i64 (IntKind.wrap .i64 (y397 + 1)))), nilS, nilS])) (op_build (lay_cons rfl rfl rfl rfl rfl lay_nil) rfl (parts_cons rfl rfl rfl) Tryd.underlying46 rfl rfl) rfl rfl rfl ?_
              refine Eo.alloc (z := [(.v (.int .i64 0)), nilS, nilS]) hp982 rfl rfl rfl rfl rfl ?_
              intro b985 σ987 hp986
              refine Eo.store hp986 0 rfl (storeCells_mk rfl rfl rfl rfl rfl rfl) rfl rfl rfl rfl rfl ?_
              intro σ989 hp988
              change Hp σ989 (.blk b985 (.cells [(.v (.int .i64 (IntKind.wrap .i64 (y397 + 1)))), nilS, nilS] 46) :: .app a980 48 :: .app a395 46 :: .app a3 9 :: R) at hp988
              refine Eo.nil ?_
              refine Ec.seq ?_
              refine Ec.block ?_
              obtain ⟨v1140, hv1141, H⟩ := bind_some H
              refine Ec.cut (J := (fun (v : ((List TTok) × (List ByteArray))) (x : X) (φ : Fr) (s : St) => match v with | (x1088, x1091) => x = (.exit 2) ∧ (∃ (a1089 a1092 : A), Sl rTTok a1089 x1088 ∧ Sl rS a1092 x1091 ∧ Hp s (.blk b985 (.cells [(.v (.int .i64 (IntKind.wrap .i64 (y397 + 1)))), a1092, nilS] 46) :: .app a395 46 :: .app a3 9 :: .app a1092 9 :: R) ∧ Fl [(6, a395), (9, a1089), (11, (.ptr b985 0)), (21, a3), (22, (.v (.int .i64 ((r2.length : Nat) : Int)))), (23, (.v (.int .i64 y397)))] φ)) v1140) (Ec.weak (.cons rfl (.cons rfl (.cons rfl (.cons rfl (.cons rfl (.cons rfl (.nil'))))))) (Ec.loopF (f := (fun m (i : ((List TTok) × (List ByteArray)) × (A × A)) => gdovetailref13_Parse_L2 n m i.1.1 i.1.2)) (G := (fun (i : ((List TTok) × (List ByteArray)) × (A × A)) => ([(6, a395), (9, i.2.1), (11, (.ptr b985 0)), (21, a3), (22, (.v (.int .i64 ((r2.length : Nat) : Int)))), (23, (.v (.int .i64 y397)))] : List (Nat × A)))) (I := (fun (i : ((List TTok) × (List ByteArray)) × (A × A)) (s : St) => Sl rTTok i.2.1 i.1.1 ∧ Sl rS i.2.2 i.1.2 ∧ Hp s (.blk b985 (.cells [(.v (.int .i64 (IntKind.wrap .i64 (y397 + 1)))), i.2.2, nilS] 46) :: .app a395 46 :: .app a3 9 :: .app i.2.2 9 :: R))) (J := (fun (v : ((List TTok) × (List ByteArray))) (x : X) (φ : Fr) (s : St) => match v with | (x1088, x1091) => x = (.exit 2) ∧ (∃ (a1089 a1092 : A), Sl rTTok a1089 x1088 ∧ Sl rS a1092 x1091 ∧ Hp s (.blk b985 (.cells [(.v (.int .i64 (IntKind.wrap .i64 (y397 + 1)))), a1092, nilS] 46) :: .app a395 46 :: .app a3 9 :: .app a1092 9 :: R) ∧ Fl [(6, a395), (9, a1089), (11, (.ptr b985 0)), (21, a3), (22, (.v (.int .i64 ((r2.length : Nat) : Int)))), (23, (.v (.int .i64 y397)))] φ))) (fun _ => rfl) ?_ n ((r978, ([] : List ByteArray)), (a980, nilS)) _ v1140 ⟨h981, Sl.nil, (Hp.front (Hp.front (Hp.front (Hp.appNil (Hp.drop hp988 1) 9) 3) 3) 3)⟩ hv1141)) ?_
              · rintro m ⟨⟨y1036, y1039⟩, ⟨a1037, a1040⟩⟩ σ0 v ⟨h1038, h1041, hp0⟩ H ih
                change gdovetailref13_Parse_L2 n (m + 1) y1036 y1039 = some v at H
                rw [gdovetailref13_Parse_L2] at H
                change Ec _ _ _ [(6, a395), (9, a1037), (11, (.ptr b985 0)), (21, a3), (22, (.v (.int .i64 ((r2.length : Nat) : Int)))), (23, (.v (.int .i64 y397)))] σ0 _
                refine Ec.seq ?_
                refine Ec.seq ?_
                refine Ec.region ?_
                refine Eo.val (x := a1037) rfl rfl rfl rfl ?_
                obtain ⟨r1094, hvr1094, H⟩ := bind_some H
                refine Eo.call rfl rfl rfl rfl (gdovetailref13_Labelled_ok h1038 hp0 hvr1094) ?_
                rintro _ σ1096 ⟨rfl, hp1095⟩
                refine Eo.nil ?_
                refine Ec.cond (t := r1094) rfl (fun hc1097 => ?_) (fun hc1097 => ?_)
                · have H := cond_t hc1097 H
                  refine Ec.skip ?_
                  refine Ec.block ?_
                  refine Ec.seq ?_
                  obtain ⟨x1113, hv1139, H⟩ := bind_some H
                  refine Ec.cut (J := (fun (x1113 : (List ByteArray)) (x : X) (φ : Fr) (s : St) => x = .normal ∧ (∃ (a1114 : A), Sl rS a1114 x1113 ∧ Hp s (.blk b985 (.cells [(.v (.int .i64 (IntKind.wrap .i64 (y397 + 1)))), a1114, nilS] 46) :: .app a395 46 :: .app a3 9 :: .app a1114 9 :: R) ∧ Fl [(6, a395), (9, a1037), (11, (.ptr b985 0)), (21, a3), (22, (.v (.int .i64 ((r2.length : Nat) : Int)))), (23, (.v (.int .i64 y397)))] φ)) x1113) ?_ ?_
                  · have H := hv1139
                    refine Ec.drawn (by kernel_rfl) ?_
                    refine Eo.val (x := (.ptr b985 1)) rfl rfl rfl rfl ?_
                    refine Eo.val (x := a1040) (op_loadB hp1095 0 rfl rfl rfl rfl) rfl rfl rfl ?_
                    refine Eo.val (x := a1037) rfl rfl rfl rfl ?_
                    obtain ⟨x1116, hvx1116, H⟩ := bind_some H
                    refine Eo.idx h1038 hvx1116 rfl rfl rfl Tryd.underlying31 rfl rfl rfl rfl ?_
                    rintro cs1117 p1118 _ hat1119 rfl
                    refine Eo.val (x := (.sp cs1117 (p1118 + 1) .no)) rfl rfl rfl rfl ?_
                    refine Eo.val (x := (.v (.string x1116.f_Text))) (op_loadSp hat1119 1 rfl rfl rfl rfl rfl) rfl rfl rfl ?_
                    refine Eo.val (x := (.sl 1 [(.v (.string x1116.f_Text))] .ex)) (op_buildS (lay_cons rfl rfl rfl rfl rfl lay_nil) rfl (parts_cons rfl rfl rfl) Tryd.underlying44 rfl rfl rfl rfl (by decide) rfl) rfl rfl rfl ?_
                    have h1123 : Sl rS (.sl 1 [(.v (.string x1116.f_Text))] .ex) ([x1116.f_Text] : List ByteArray) := .inr ⟨_, _, rfl, (.cons (c := [(.v (.string x1116.f_Text))]) rfl .nil)⟩
                    have hp1122 := Hp.appEx hp1095 9 1 [(.v (.string x1116.f_Text))]
                    obtain ⟨l1124, hvl1124, H⟩ := bind_some H
                    refine Eo.append hp1122 4 rfl h1041 (New.of h1123) hvl1124 rfl rfl rfl rfl rfl rfl rfl Tryd.underlying44 rfl Tryd.underlying44 rfl rfl rfl rfl rfl rfl rfl rfl ?_
                    intro a1125 σ1128 h1126 hp1127
                    change Hp σ1128 (.app (.sl 1 [(.v (.string x1116.f_Text))] .ex) 9 :: .blk b985 (.cells [(.v (.int .i64 (IntKind.wrap .i64 (y397 + 1)))), a1040, nilS] 46) :: .app a395 46 :: .app a3 9 :: .app a1125 9 :: R) at hp1127
                    refine Eo.val (x := (.ptr b985 1)) rfl rfl rfl rfl ?_
                    refine Eo.store hp1127 1 rfl (storeCells_mk (h1126.cells) rfl rfl (by simp [allOne, A.cells, h1126.isOne]) rfl rfl) rfl rfl rfl rfl rfl ?_
                    intro σ1130 hp1129
                    change Hp σ1130 (.app (.sl 1 [(.v (.string x1116.f_Text))] .ex) 9 :: .blk b985 (.cells [(.v (.int .i64 (IntKind.wrap .i64 (y397 + 1)))), a1125, nilS] 46) :: .app a395 46 :: .app a3 9 :: .app a1125 9 :: R) at hp1129
                    refine Eo.nil ?_
                    obtain rfl := Option.some.inj H
                    exact And.intro rfl (And.intro rfl ⟨a1125, h1126, (Hp.front (Hp.front (Hp.front (Hp.front (Hp.drop hp1129 0) 3) 3) 3) 3), (.cons rfl (.cons rfl (.cons rfl (.cons rfl (.cons rfl (.cons rfl (.nil')))))))⟩)
                  · skip
                    intro x φ1133 σ1132 hJ
                    obtain ⟨rfl, a1114, h1115, hp1131, hf1134⟩ := hJ
                    refine Ec.of (F := [(6, a395), (9, a1037), (11, (.ptr b985 0)), (21, a3), (22, (.v (.int .i64 ((r2.length : Nat) : Int)))), (23, (.v (.int .i64 y397)))]) hf1134 ?_
                    refine Ec.region ?_
                    refine Eo.val (x := a1037) rfl rfl rfl rfl ?_
                    obtain ⟨l1135, hvl1135, H⟩ := bind_some H
                    refine Eo.subL h1038 hvl1135 rfl rfl Tryd.underlying31 rfl (.inr ⟨_, _, rfl, rfl⟩) (.inl ⟨rfl, rfl⟩) rfl rfl rfl ?_
                    intro a1136 h1137
                    refine Eo.val (x := a1136) rfl rfl rfl rfl ?_
                    refine Eo.nil ?_
                    exact Ec.of (.cons rfl (.cons rfl (.cons rfl (.cons rfl (.cons rfl (.cons rfl (.nil'))))))) (ih ((l1135, x1113), (a1136, a1114)) _ ⟨h1137, h1115, (Hp.front (Hp.front (Hp.front (Hp.front hp1131 3) 3) 3) 3)⟩ H)
                · have H := cond_f hc1097 H
                  refine Ec.exit ?_
                  obtain rfl := Option.some.inj H
                  exact And.intro rfl ⟨a1037, a1040, h1038, h1041, (Hp.front (Hp.front (Hp.front (Hp.front hp1095 3) 3) 3) 3), (.cons rfl (.cons rfl (.cons rfl (.cons rfl (.cons rfl (.cons rfl (.nil')))))))⟩
              · skip
                intro x φ1144 σ1143 hJ
                obtain ⟨x1088, x1091⟩ := v1140
                obtain ⟨rfl, a1089, a1092, h1090, h1093, hp1142, hf1145⟩ := hJ
                refine Ec.of (F := [(6, a395), (9, a1089), (11, (.ptr b985 0)), (21, a3), (22, (.v (.int .i64 ((r2.length : Nat) : Int)))), (23, (.v (.int .i64 y397)))]) hf1145 ?_
                refine Ec.seq ?_
                refine Ec.region ?_
                refine Eo.val (x := a1089) rfl rfl rfl rfl ?_
                refine Eo.val (x := (.ptr b985 2)) rfl rfl rfl rfl ?_
                refine Eo.store hp1142 0 rfl (storeCells_mk (h1090.cells) rfl rfl (by simp [allOne, A.cells, h1090.isOne]) rfl rfl) rfl rfl rfl rfl rfl ?_
                intro σ1147 hp1146
                change Hp σ1147 (.blk b985 (.cells [(.v (.int .i64 (IntKind.wrap .i64 (y397 + 1)))), a1092, a1089] 46) :: .app a395 46 :: .app a3 9 :: .app a1092 9 :: R) at hp1146
                refine Eo.nil ?_
                refine Ec.seq ?_
                refine Ec.region ?_
                refine Eo.val (x := (.ptr b985 1)) rfl rfl rfl rfl ?_
                refine Eo.val (x := a1092) (op_loadB hp1146 0 rfl rfl rfl rfl) rfl rfl rfl ?_
                refine Eo.val (x := (.v (.int .i64 ((x1091.length : Nat) : Int)))) (op_lenL h1093 rfl rfl rfl rfl rfl Tryd.underlying44) rfl rfl rfl ?_
                refine Eo.val (x := (.ptr b985 2)) rfl rfl rfl rfl ?_
                refine Eo.val (x := a1089) (op_loadB hp1146 0 rfl rfl rfl rfl) rfl rfl rfl ?_
                refine Eo.val (x := (.v (.int .i64 ((x1088.length : Nat) : Int)))) (op_lenL h1090 rfl rfl rfl rfl rfl Tryd.underlying31) rfl rfl rfl ?_
                refine Eo.val (x := (.v (.int .i64 (IntKind.wrap .i64 (((x1091.length : Nat) : Int) + ((x1088.length : Nat) : Int)))))) rfl rfl rfl rfl ?_
                refine Eo.val (x := (.v (.bool (decide ((IntKind.wrap .i64 (((x1091.length : Nat) : Int) + ((x1088.length : Nat) : Int))) > 0))))) rfl rfl rfl rfl ?_
                refine Eo.nil ?_
                refine Ec.cond (t := (decide ((IntKind.wrap .i64 (((x1091.length : Nat) : Int) + ((x1088.length : Nat) : Int))) > 0))) rfl (fun hc1148 => ?_) (fun hc1148 => ?_)
                · have H := cond_t hc1148 H
                  refine Ec.region ?_
                  refine Eo.val (x := a395) rfl rfl rfl rfl ?_
                  refine Eo.val (x := (.agg [(.v (.int .i64 (IntKind.wrap .i64 (y397 + 1)))), a1092, a1089])) (op_loadB hp1146 0 rfl rfl rfl rfl) rfl rfl rfl ?_
                  refine Eo.val (x := (.sl 3 [(.v (.int .i64 (IntKind.wrap .i64 (y397 + 1)))), a1092, a1089] .ex)) (op_buildS (lay_cons rfl rfl rfl rfl rfl lay_nil) rfl (parts_cons rfl rfl rfl) Tryd.underlying23 rfl rfl rfl rfl (by decide) rfl) rfl rfl rfl ?_
                  have h1152 : Sl rTLine (.sl 3 [(.v (.int .i64 (IntKind.wrap .i64 (y397 + 1)))), a1092, a1089] .ex) ([(TLine.mk (IntKind.wrap .i64 (y397 + 1)) x1091 x1088)] : List TLine) := .inr ⟨_, _, rfl, (.cons (c := [(.v (.int .i64 (IntKind.wrap .i64 (y397 + 1)))), a1092, a1089]) ⟨a1092, a1089, rfl, h1093, h1090⟩ .nil)⟩
                  have hp1151 := Hp.appEx hp1146 46 3 [(.v (.int .i64 (IntKind.wrap .i64 (y397 + 1)))), a1092, a1089]
                  obtain ⟨l1153, hvl1153, H⟩ := bind_some H
                  refine Eo.append hp1151 2 rfl h396 (New.of h1152) hvl1153 rfl rfl rfl rfl rfl rfl rfl Tryd.underlying23 rfl Tryd.underlying23 rfl rfl rfl rfl rfl rfl rfl rfl ?_
                  intro a1154 σ1157 h1155 hp1156
                  change Hp σ1157 (.app (.sl 3 [(.v (.int .i64 (IntKind.wrap .i64 (y397 + 1)))), a1092, a1089] .ex) 46 :: .blk b985 (.cells [(.v (.int .i64 (IntKind.wrap .i64 (y397 + 1)))), a1092, a1089] 46) :: .app a1154 46 :: .app a3 9 :: .app a1092 9 :: R) at hp1156
                  refine Eo.val (x := a1154) rfl rfl rfl rfl ?_
                  refine Eo.nil ?_
                  obtain rfl := Option.some.inj H
                  exact And.intro rfl ⟨a1154, h1155, (Hp.front (Hp.front (Hp.drop (Hp.drop (Hp.drop hp1156 0) 0) 2) 1) 1), (.cons rfl (.cons rfl (.cons rfl (.cons rfl (.nil')))))⟩
                · have H := cond_f hc1148 H
                  refine Ec.skip ?_
                  obtain rfl := Option.some.inj H
                  exact And.intro rfl ⟨a395, h396, (Hp.front (Hp.front (Hp.drop (Hp.drop hp1146 0) 2) 1) 1), (.cons rfl (.cons rfl (.cons rfl (.cons rfl (.nil')))))⟩
          · rcases v1165 with x970 | r1162
            · intro x φ1160 σ1159 hJ
              obtain ⟨rfl, a971, h972, hp1158, hf1161⟩ := hJ
              refine Ec.of (F := [(6, a971), (21, a3), (22, (.v (.int .i64 ((r2.length : Nat) : Int)))), (23, (.v (.int .i64 y397)))]) hf1161 ?_
              refine Ec.region ?_
              refine Eo.val (x := (.v (.int .i64 (IntKind.wrap .i64 (y397 + 1))))) rfl rfl rfl rfl ?_
              refine Eo.val (x := (.v (.int .i64 (IntKind.wrap .i64 (y397 + 1))))) rfl rfl rfl rfl ?_
              refine Eo.nil ?_
              exact Ec.of (.cons rfl (.cons rfl (.cons rfl (.cons rfl (.nil'))))) (ih ((x970, (IntKind.wrap .i64 (y397 + 1))), a971) _ ⟨h972, (Hp.front (Hp.front hp1158 1) 1)⟩ H)
            · intro x φ1163 σ1164 hJ
              obtain rfl := Option.some.inj H
              obtain ⟨rfl, hr⟩ := hJ
              exact And.intro rfl hr
        · have H := cond_f hc784 H
          refine Ec.exit ?_
          obtain rfl := Option.some.inj H
          exact And.intro rfl ⟨a395, h396, (Hp.drop hp0 1), (.cons rfl (.nil'))⟩
      · rcases v1167 with x781 | r1173
        · intro x φ1171 σ1170 hJ
          obtain ⟨rfl, a782, h783, hp1169, hf1172⟩ := hJ
          refine Ec.of (F := [(6, a782)]) hf1172 ?_
          refine Ec.seq ?_
          refine Ec.region ?_
          refine Eo.val (x := a782) rfl rfl rfl rfl ?_
          refine Eo.val (x := a782) rfl rfl rfl rfl ?_
          refine Eo.val (x := (.v (.int .i64 0))) rfl rfl rfl rfl ?_
          refine Eo.val (x := (.v (.int .i64 0))) rfl rfl rfl rfl ?_
          refine Eo.nil ?_
          obtain rfl := Option.some.inj H
          refine Ec.ret ?_
          refine Ret.mk rfl ?_
          exact ⟨a782, rfl, h783, hp1169⟩
        · intro x φ1174 σ1175 hJ
          obtain rfl := Option.some.inj H
          obtain ⟨rfl, hr⟩ := hJ
          exact hr

def gasmtext_isName (n : Nat) (p0 : TTok) : Option (Bool) := (((cond (p0.f_Kind == 1) (((atS p0.f_Text 0).bind fun b10 => (cond (decide (b10 < 48)) (some true) (((atS p0.f_Text 0).bind fun b12 => some (decide (b12 > 57))))))) (some false)) : Option (Bool)).bind fun x8 => some x8)

def gasmtext_isName_post (R : List Res) (r : Bool) (x : A) (s : St) : Prop := x = (.v (.bool r)) ∧ Hp s (R)

theorem gasmtext_isName_ok {n : Nat} {p0 : TTok} {R : List Res} {σ : St} (hp : Hp σ R) {r : Bool} (H : gasmtext_isName n p0 = some r) : Ca cfg 36 [(.agg [(.v (.int .i64 p0.f_Kind)), (.v (.string p0.f_Text))])] σ (gasmtext_isName_post R r) := by
  unfold gasmtext_isName at H
  refine Ca.enterL (G := [(0, (.agg [(.v (.int .i64 p0.f_Kind)), (.v (.string p0.f_Text))]))]) Tryd.func36 rfl rfl rfl rfl ?_
  refine Ec.seq ?_
  refine Ec.region ?_
  refine Eo.box hp rfl rfl rfl rfl rfl rfl rfl ?_
  intro b1 σ3 hp2
  refine Eo.val (x := (.v (.bool false))) rfl rfl rfl rfl ?_
  refine Eo.nil ?_
  refine Ec.seq ?_
  refine Ec.region ?_
  refine Eo.val (x := (.ptr b1 0)) rfl rfl rfl rfl ?_
  refine Eo.val (x := (.v (.int .i64 p0.f_Kind))) (op_loadB hp2 0 rfl rfl rfl rfl) rfl rfl rfl ?_
  refine Eo.val (x := (.v (.bool (p0.f_Kind == 1)))) rfl rfl rfl rfl ?_
  refine Eo.val (x := (.v (.bool (p0.f_Kind == 1)))) rfl rfl rfl rfl ?_
  obtain ⟨x8, hv18, H⟩ := bind_some H
  refine Eo.cutN 11 (J := (fun (x8 : Bool) (x : X) (φ : Fr) (s : St) => x = .normal ∧ (Hp s (R) ∧ Fl [(2, (.v (.bool false))), (17, (.v (.bool x8)))] φ)) x8) ?_ ?_
  · have H := hv18
    cases hc9 : (p0.f_Kind == 1)
    · have H := cond_f hc9 H
      refine Eo.off rfl rfl rfl ?_
      refine Eo.off rfl rfl rfl ?_
      refine Eo.off rfl rfl rfl ?_
      refine Eo.off rfl rfl rfl ?_
      refine Eo.off rfl rfl rfl ?_
      refine Eo.off rfl rfl rfl ?_
      refine Eo.off rfl rfl rfl ?_
      refine Eo.off rfl rfl rfl ?_
      refine Eo.off rfl rfl rfl ?_
      refine Eo.off rfl rfl rfl ?_
      refine Eo.val (x := (.v (.bool false))) rfl rfl rfl rfl ?_
      refine Eo.nil ?_
      obtain rfl := Option.some.inj H
      exact And.intro rfl ⟨(Hp.drop hp2 0), (.cons rfl (.cons rfl (.nil')))⟩
    · have H := cond_t hc9 H
      refine Eo.val (x := (.ptr b1 1)) rfl rfl rfl rfl ?_
      refine Eo.val (x := (.v (.string p0.f_Text))) (op_loadB hp2 0 rfl rfl rfl rfl) rfl rfl rfl ?_
      obtain ⟨b10, hvb10, H⟩ := bind_some H
      refine Eo.val (op_byteS hvb10 rfl rfl rfl Tryd.underlying9) rfl rfl rfl ?_
      refine Eo.val (x := (.v (.bool (decide (b10 < 48))))) rfl rfl rfl rfl ?_
      refine Eo.val (x := (.v (.bool (decide (b10 < 48))))) rfl rfl rfl rfl ?_
      cases hc11 : (decide (b10 < 48))
      · have H := cond_f hc11 H
        refine Eo.val (x := (.ptr b1 1)) rfl rfl rfl rfl ?_
        refine Eo.val (x := (.v (.string p0.f_Text))) (op_loadB hp2 0 rfl rfl rfl rfl) rfl rfl rfl ?_
        obtain ⟨b12, hvb12, H⟩ := bind_some H
        refine Eo.val (op_byteS hvb12 rfl rfl rfl Tryd.underlying9) rfl rfl rfl ?_
        refine Eo.val (x := (.v (.bool (decide (b12 > 57))))) rfl rfl rfl rfl ?_
        refine Eo.val (x := (.v (.bool (decide (b12 > 57))))) rfl rfl rfl rfl ?_
        refine Eo.val (x := (.v (.bool (decide (b12 > 57))))) rfl rfl rfl rfl ?_
        refine Eo.nil ?_
        obtain rfl := Option.some.inj H
        exact And.intro rfl ⟨(Hp.drop hp2 0), (.cons rfl (.cons rfl (.nil')))⟩
      · have H := cond_t hc11 H
        refine Eo.off rfl rfl rfl ?_
        refine Eo.off rfl rfl rfl ?_
        refine Eo.off rfl rfl rfl ?_
        refine Eo.off rfl rfl rfl ?_
        refine Eo.val (x := (.v (.bool true))) rfl rfl rfl rfl ?_
        refine Eo.val (x := (.v (.bool true))) rfl rfl rfl rfl ?_
        refine Eo.nil ?_
        obtain rfl := Option.some.inj H
        exact And.intro rfl ⟨(Hp.drop hp2 0), (.cons rfl (.cons rfl (.nil')))⟩
  · skip
    intro x φ15 σ14 hJ
    obtain ⟨rfl, hp13, hf16⟩ := hJ
    refine ⟨rfl, Eo.of (F := [(2, (.v (.bool false))), (17, (.v (.bool x8)))]) hf16 ?_⟩
    refine Eo.val (x := (.v (.bool x8))) rfl rfl rfl rfl ?_
    refine Eo.nil ?_
    obtain rfl := Option.some.inj H
    refine Ec.ret ?_
    refine Ret.mk rfl ?_
    exact ⟨rfl, hp13⟩

def gasmtext_labelled (n : Nat) (p0 : (List TTok)) : Option (Bool) := (((cond (decide (((p0.length : Nat) : Int) > 1)) (((atL p0 0).bind fun x13 => ((gasmtext_isName n x13).bind fun r17 => some r17))) (some false)) : Option (Bool)).bind fun x11 => (((cond x11 (((atL p0 1).bind fun x31 => some ((x31.f_Kind == 2) && ((decide (x31.f_Text = (ByteArray.mk #[58]))) && true)))) (some false)) : Option (Bool)).bind fun x29 => some x29))

def gasmtext_labelled_post (R : List Res) (r : Bool) (x : A) (s : St) : Prop := x = (.v (.bool r)) ∧ Hp s (R)

theorem gasmtext_labelled_ok {n : Nat} {p0 : (List TTok)} {a1 : A} {R : List Res} {σ : St} (h2 : Sl rTTok a1 p0) (hp : Hp σ R) {r : Bool} (H : gasmtext_labelled n p0 = some r) : Ca cfg 23 [a1] σ (gasmtext_labelled_post R r) := by
  unfold gasmtext_labelled at H
  refine Ca.enterL (G := [(0, a1)]) Tryd.func23 rfl rfl rfl rfl ?_
  refine Ec.seq ?_
  refine Ec.region ?_
  refine Eo.val (x := (.v (.bool false))) rfl rfl rfl rfl ?_
  refine Eo.nil ?_
  refine Ec.seq ?_
  refine Ec.region ?_
  refine Eo.val (x := a1) rfl rfl rfl rfl ?_
  refine Eo.val (x := (.v (.int .i64 ((p0.length : Nat) : Int)))) (op_lenL h2 rfl rfl rfl rfl rfl Tryd.underlying31) rfl rfl rfl ?_
  refine Eo.val (x := (.v (.bool (decide (((p0.length : Nat) : Int) > 1))))) rfl rfl rfl rfl ?_
  refine Eo.val (x := (.v (.bool (decide (((p0.length : Nat) : Int) > 1))))) rfl rfl rfl rfl ?_
  obtain ⟨x11, hv42, H⟩ := bind_some H
  refine Eo.cutN 5 (J := (fun (x11 : Bool) (x : X) (φ : Fr) (s : St) => x = .normal ∧ (Hp s (R) ∧ Fl [(0, a1), (2, (.v (.bool false))), (11, (.v (.bool x11)))] φ)) x11) ?_ ?_
  · have H := hv42
    cases hc12 : (decide (((p0.length : Nat) : Int) > 1))
    · have H := cond_f hc12 H
      refine Eo.off rfl rfl rfl ?_
      refine Eo.off rfl rfl rfl ?_
      refine Eo.off rfl rfl rfl ?_
      refine Eo.off rfl rfl rfl ?_
      refine Eo.val (x := (.v (.bool false))) rfl rfl rfl rfl ?_
      refine Eo.nil ?_
      obtain rfl := Option.some.inj H
      exact And.intro rfl ⟨hp, (.cons rfl (.cons rfl (.cons rfl (.nil'))))⟩
    · have H := cond_t hc12 H
      refine Eo.val (x := a1) rfl rfl rfl rfl ?_
      obtain ⟨x13, hvx13, H⟩ := bind_some H
      refine Eo.idx h2 hvx13 rfl rfl rfl Tryd.underlying31 rfl rfl rfl rfl ?_
      rintro cs14 p15 _ hat16 rfl
      refine Eo.val (x := (.agg [(.v (.int .i64 x13.f_Kind)), (.v (.string x13.f_Text))])) (op_loadSpAgg hat16 0 rfl rfl rfl rfl rfl rfl) rfl rfl rfl ?_
      obtain ⟨r17, hvr17, H⟩ := bind_some H
      refine Eo.call rfl rfl rfl rfl (gasmtext_isName_ok hp hvr17) ?_
      rintro _ σ19 ⟨rfl, hp18⟩
      refine Eo.val (x := (.v (.bool r17))) rfl rfl rfl rfl ?_
      refine Eo.nil ?_
      obtain rfl := Option.some.inj H
      exact And.intro rfl ⟨hp18, (.cons rfl (.cons rfl (.cons rfl (.nil'))))⟩
  · skip
    intro x φ22 σ21 hJ
    obtain ⟨rfl, hp20, hf23⟩ := hJ
    refine ⟨rfl, Eo.of (F := [(0, a1), (2, (.v (.bool false))), (11, (.v (.bool x11)))]) hf23 ?_⟩
    refine Eo.val (x := (.v (.bool x11))) rfl rfl rfl rfl ?_
    obtain ⟨x29, hv40, H⟩ := bind_some H
    refine Eo.cutN 6 (J := (fun (x29 : Bool) (x : X) (φ : Fr) (s : St) => x = .normal ∧ (Hp s (R) ∧ Fl [(2, (.v (.bool false))), (18, (.v (.bool x29)))] φ)) x29) ?_ ?_
    · have H := hv40
      cases hc30 : x11
      · have H := cond_f hc30 H
        refine Eo.off rfl rfl rfl ?_
        refine Eo.off rfl rfl rfl ?_
        refine Eo.off rfl rfl rfl ?_
        refine Eo.off rfl rfl rfl ?_
        refine Eo.off rfl rfl rfl ?_
        refine Eo.val (x := (.v (.bool false))) rfl rfl rfl rfl ?_
        refine Eo.nil ?_
        obtain rfl := Option.some.inj H
        exact And.intro rfl ⟨hp20, (.cons rfl (.cons rfl (.nil')))⟩
      · have H := cond_t hc30 H
        refine Eo.val (x := a1) rfl rfl rfl rfl ?_
        obtain ⟨x31, hvx31, H⟩ := bind_some H
        refine Eo.idx h2 hvx31 rfl rfl rfl Tryd.underlying31 rfl rfl rfl rfl ?_
        rintro cs32 p33 _ hat34 rfl
        refine Eo.val (x := (.agg [(.v (.int .i64 x31.f_Kind)), (.v (.string x31.f_Text))])) (op_loadSpAgg hat34 0 rfl rfl rfl rfl rfl rfl) rfl rfl rfl ?_
        refine Eo.val (x := (.agg [(.v (.int .i64 2)), (.v (.string (ByteArray.mk #[58])))])) (op_build (lay_cons rfl rfl rfl rfl rfl (lay_cons rfl rfl rfl rfl rfl lay_nil)) rfl (parts_cons rfl rfl (parts_cons rfl rfl rfl)) Tryd.underlying48 rfl rfl) rfl rfl rfl ?_
        refine Eo.val (x := (.v (.bool ((x31.f_Kind == 2) && ((decide (x31.f_Text = (ByteArray.mk #[58]))) && true))))) (op_eqSt rfl rfl rfl rfl rfl Tryd.underlying48 (by kernel_rfl) (by kernel_rfl) (fun d => (det_eqF_cons rfl rfl rfl (det_eqI Tryd.underlying3) (det_eqF_cons rfl rfl rfl (det_eqS Tryd.underlying9) det_eqF_nil)))) rfl rfl rfl ?_
        refine Eo.val (x := (.v (.bool ((x31.f_Kind == 2) && ((decide (x31.f_Text = (ByteArray.mk #[58]))) && true))))) rfl rfl rfl rfl ?_
        refine Eo.nil ?_
        obtain rfl := Option.some.inj H
        exact And.intro rfl ⟨hp20, (.cons rfl (.cons rfl (.nil')))⟩
    · skip
      intro x φ37 σ36 hJ
      obtain ⟨rfl, hp35, hf38⟩ := hJ
      refine ⟨rfl, Eo.of (F := [(2, (.v (.bool false))), (18, (.v (.bool x29)))]) hf38 ?_⟩
      refine Eo.val (x := (.v (.bool x29))) rfl rfl rfl rfl ?_
      refine Eo.nil ?_
      obtain rfl := Option.some.inj H
      refine Ec.ret ?_
      refine Ret.mk rfl ?_
      exact ⟨rfl, hp35⟩

def gasmtext_escaped (n : Nat) (p0 : ByteArray) : Option ((Int × Int)) := (cond (decide (p0 = (ByteArray.mk #[]))) (some (0, 0)) (((atS p0 0).bind fun b2 => ((indexByteT (ByteArray.mk #[110, 116, 48, 92, 34]) b2).bind fun r3 => (cond (decide (r3 ≥ 0)) (((atS (ByteArray.mk #[10, 9, 0, 92, 34]) r3).bind fun b7 => some (b7, 1))) (((atS p0 0).bind fun b8 => (cond ((b8 != 120) || (decide (((p0.size : Nat) : Int) < 3))) (some (0, 0)) (((((atS p0 1).bind fun b25 => ((indexByteT (ByteArray.mk #[48, 49, 50, 51, 52, 53, 54, 55, 56, 57, 97, 98, 99, 100, 101, 102]) b25).bind fun r26 => ((atS p0 2).bind fun b29 => ((indexByteT (ByteArray.mk #[48, 49, 50, 51, 52, 53, 54, 55, 56, 57, 97, 98, 99, 100, 101, 102]) b29).bind fun r30 => some (r26, r30))))) : Option ((Int × Int))).bind fun v => match v with | (x23, x24) => (cond ((decide (x23 < 0)) || (decide (x24 < 0))) (some (0, 0)) (some ((IntKind.wrap .u8 (IntKind.wrap .i64 ((IntKind.wrap .i64 (16 * x23)) + x24))), 3)))))))))))))

def gasmtext_escaped_post (R : List Res) (r : (Int × Int)) (x : A) (s : St) : Prop := x = (.tup [(.v (.int .u8 r.1)), (.v (.int .i64 r.2))]) ∧ Hp s (R)

theorem gasmtext_escaped_ok {n : Nat} {p0 : ByteArray} {R : List Res} {σ : St} (hp : Hp σ R) {r : (Int × Int)} (H : gasmtext_escaped n p0 = some r) : Ca cfg 73 [(.v (.string p0))] σ (gasmtext_escaped_post R r) := by
  unfold gasmtext_escaped at H
  refine Ca.enterL (G := [(0, (.v (.string p0)))]) Tryd.func73 rfl rfl rfl rfl ?_
  refine Ec.seq ?_
  refine Ec.region ?_
  refine Eo.val (x := (.v (.int .u8 0))) rfl rfl rfl rfl ?_
  refine Eo.val (x := (.v (.int .i64 0))) rfl rfl rfl rfl ?_
  refine Eo.nil ?_
  refine Ec.seq ?_
  refine Ec.seq ?_
  refine Ec.region ?_
  refine Eo.val (x := (.v (.string p0))) rfl rfl rfl rfl ?_
  refine Eo.val (x := (.v (.bool (decide (p0 = (ByteArray.mk #[])))))) (val_b rfl (seq_eq _ _)) rfl rfl rfl ?_
  refine Eo.nil ?_
  refine Ec.cond (t := (decide (p0 = (ByteArray.mk #[])))) rfl (fun hc1 => ?_) (fun hc1 => ?_)
  · have H := cond_t hc1 H
    refine Ec.seq ?_
    refine Ec.region ?_
    refine Eo.val (x := (.v (.int .u8 0))) rfl rfl rfl rfl ?_
    refine Eo.val (x := (.v (.int .i64 0))) rfl rfl rfl rfl ?_
    refine Eo.nil ?_
    obtain rfl := Option.some.inj H
    refine Ec.ret ?_
    refine Ret.mk rfl ?_
    exact ⟨rfl, hp⟩
  · have H := cond_f hc1 H
    refine Ec.skip ?_
    refine Ec.seq ?_
    refine Ec.seq ?_
    refine Ec.region ?_
    refine Eo.val (x := (.v (.string p0))) rfl rfl rfl rfl ?_
    obtain ⟨b2, hvb2, H⟩ := bind_some H
    refine Eo.val (op_byteS hvb2 rfl rfl rfl Tryd.underlying9) rfl rfl rfl ?_
    obtain ⟨r3, hvr3, H⟩ := bind_some H
    refine Eo.call rfl rfl rfl rfl (prim57_ok hp hvr3) ?_
    rintro _ σ5 ⟨rfl, hp4⟩
    refine Eo.val (x := (.v (.int .i64 r3))) rfl rfl rfl rfl ?_
    refine Eo.nil ?_
    refine Ec.seq ?_
    refine Ec.region ?_
    refine Eo.val (x := (.v (.int .i64 r3))) rfl rfl rfl rfl ?_
    refine Eo.val (x := (.v (.bool (decide (r3 ≥ 0))))) rfl rfl rfl rfl ?_
    refine Eo.nil ?_
    refine Ec.cond (t := (decide (r3 ≥ 0))) rfl (fun hc6 => ?_) (fun hc6 => ?_)
    · have H := cond_t hc6 H
      refine Ec.seq ?_
      refine Ec.region ?_
      refine Eo.val (x := (.v (.int .i64 r3))) rfl rfl rfl rfl ?_
      obtain ⟨b7, hvb7, H⟩ := bind_some H
      refine Eo.val (op_byteS hvb7 rfl rfl rfl Tryd.underlying9) rfl rfl rfl ?_
      refine Eo.val (x := (.v (.int .u8 b7))) rfl rfl rfl rfl ?_
      refine Eo.val (x := (.v (.int .i64 1))) rfl rfl rfl rfl ?_
      refine Eo.nil ?_
      obtain rfl := Option.some.inj H
      refine Ec.ret ?_
      refine Ret.mk rfl ?_
      exact ⟨rfl, hp4⟩
    · have H := cond_f hc6 H
      refine Ec.skip ?_
      refine Ec.seq ?_
      refine Ec.seq ?_
      refine Ec.region ?_
      refine Eo.val (x := (.v (.string p0))) rfl rfl rfl rfl ?_
      obtain ⟨b8, hvb8, H⟩ := bind_some H
      refine Eo.val (op_byteS hvb8 rfl rfl rfl Tryd.underlying9) rfl rfl rfl ?_
      refine Eo.val (x := (.v (.bool (b8 != 120)))) rfl rfl rfl rfl ?_
      refine Eo.val (x := (.v (.bool (b8 != 120)))) rfl rfl rfl rfl ?_
      refine Eo.cutF 4 [(0, (.v (.string p0))), (23, (.v (.bool ((b8 != 120) || (decide (((p0.size : Nat) : Int) < 3))))))] ?_ ?_
      · skip
        cases hc11 : (b8 != 120)
        · skip
          refine Eo.val (x := (.v (.string p0))) rfl rfl rfl rfl ?_
          refine Eo.val (x := (.v (.int .i64 ((p0.size : Nat) : Int)))) (op_len rfl rfl rfl rfl rfl Tryd.underlying9) rfl rfl rfl ?_
          refine Eo.val (x := (.v (.bool (decide (((p0.size : Nat) : Int) < 3))))) rfl rfl rfl rfl ?_
          refine Eo.val (x := (.v (.bool (decide (((p0.size : Nat) : Int) < 3))))) rfl rfl rfl rfl ?_
          exact Eo.nil (And.intro rfl (And.intro rfl (.cons rfl (.cons rfl (.nil')))))
        · skip
          refine Eo.off rfl rfl rfl ?_
          refine Eo.off rfl rfl rfl ?_
          refine Eo.off rfl rfl rfl ?_
          refine Eo.val (x := (.v (.bool true))) rfl rfl rfl rfl ?_
          exact Eo.nil (And.intro rfl (And.intro rfl (.cons rfl (.cons rfl (.nil')))))
      · skip
        refine Eo.nil ?_
        refine Ec.cond (t := ((b8 != 120) || (decide (((p0.size : Nat) : Int) < 3)))) rfl (fun hc14 => ?_) (fun hc14 => ?_)
        · have H := cond_t hc14 H
          refine Ec.seq ?_
          refine Ec.region ?_
          refine Eo.val (x := (.v (.int .u8 0))) rfl rfl rfl rfl ?_
          refine Eo.val (x := (.v (.int .i64 0))) rfl rfl rfl rfl ?_
          refine Eo.nil ?_
          obtain rfl := Option.some.inj H
          refine Ec.ret ?_
          refine Ret.mk rfl ?_
          exact ⟨rfl, hp4⟩
        · have H := cond_f hc14 H
          refine Ec.skip ?_
          refine Ec.seq ?_
          obtain ⟨v43, hv44, H⟩ := bind_some H
          refine Ec.cut (J := (fun (v : (Int × Int)) (x : X) (φ : Fr) (s : St) => match v with | (x23, x24) => x = .normal ∧ (Hp s (R) ∧ Fl [(5, (.v (.int .i64 x23))), (6, (.v (.int .i64 x24)))] φ)) v43) ?_ ?_
          · have H := hv44
            refine Ec.drawn (by kernel_rfl) ?_
            refine Eo.val (x := (.v (.string p0))) rfl rfl rfl rfl ?_
            obtain ⟨b25, hvb25, H⟩ := bind_some H
            refine Eo.val (op_byteS hvb25 rfl rfl rfl Tryd.underlying9) rfl rfl rfl ?_
            obtain ⟨r26, hvr26, H⟩ := bind_some H
            refine Eo.call rfl rfl rfl rfl (prim57_ok hp4 hvr26) ?_
            rintro _ σ28 ⟨rfl, hp27⟩
            refine Eo.val (x := (.v (.string p0))) rfl rfl rfl rfl ?_
            obtain ⟨b29, hvb29, H⟩ := bind_some H
            refine Eo.val (op_byteS hvb29 rfl rfl rfl Tryd.underlying9) rfl rfl rfl ?_
            obtain ⟨r30, hvr30, H⟩ := bind_some H
            refine Eo.call rfl rfl rfl rfl (prim57_ok hp27 hvr30) ?_
            rintro _ σ32 ⟨rfl, hp31⟩
            refine Eo.val (x := (.v (.int .i64 r26))) rfl rfl rfl rfl ?_
            refine Eo.val (x := (.v (.int .i64 r30))) rfl rfl rfl rfl ?_
            refine Eo.nil ?_
            obtain rfl := Option.some.inj H
            exact And.intro rfl (And.intro rfl ⟨hp31, (.cons rfl (.cons rfl (.nil')))⟩)
          · skip
            intro x φ35 σ34 hJ
            obtain ⟨x23, x24⟩ := v43
            obtain ⟨rfl, hp33, hf36⟩ := hJ
            refine Ec.of (F := [(5, (.v (.int .i64 x23))), (6, (.v (.int .i64 x24)))]) hf36 ?_
            refine Ec.seq ?_
            refine Ec.seq ?_
            refine Ec.region ?_
            refine Eo.val (x := (.v (.int .i64 x23))) rfl rfl rfl rfl ?_
            refine Eo.val (x := (.v (.bool (decide (x23 < 0))))) rfl rfl rfl rfl ?_
            refine Eo.val (x := (.v (.bool (decide (x23 < 0))))) rfl rfl rfl rfl ?_
            refine Eo.cutF 3 [(5, (.v (.int .i64 x23))), (6, (.v (.int .i64 x24))), (35, (.v (.bool ((decide (x23 < 0)) || (decide (x24 < 0))))))] ?_ ?_
            · skip
              cases hc39 : (decide (x23 < 0))
              · skip
                refine Eo.val (x := (.v (.int .i64 x24))) rfl rfl rfl rfl ?_
                refine Eo.val (x := (.v (.bool (decide (x24 < 0))))) rfl rfl rfl rfl ?_
                refine Eo.val (x := (.v (.bool (decide (x24 < 0))))) rfl rfl rfl rfl ?_
                exact Eo.nil (And.intro rfl (And.intro rfl (.cons rfl (.cons rfl (.cons rfl (.nil'))))))
              · skip
                refine Eo.off rfl rfl rfl ?_
                refine Eo.off rfl rfl rfl ?_
                refine Eo.val (x := (.v (.bool true))) rfl rfl rfl rfl ?_
                exact Eo.nil (And.intro rfl (And.intro rfl (.cons rfl (.cons rfl (.cons rfl (.nil'))))))
            · skip
              refine Eo.nil ?_
              refine Ec.cond (t := ((decide (x23 < 0)) || (decide (x24 < 0)))) rfl (fun hc42 => ?_) (fun hc42 => ?_)
              · have H := cond_t hc42 H
                refine Ec.seq ?_
                refine Ec.region ?_
                refine Eo.val (x := (.v (.int .u8 0))) rfl rfl rfl rfl ?_
                refine Eo.val (x := (.v (.int .i64 0))) rfl rfl rfl rfl ?_
                refine Eo.nil ?_
                obtain rfl := Option.some.inj H
                refine Ec.ret ?_
                refine Ret.mk rfl ?_
                exact ⟨rfl, hp33⟩
              · have H := cond_f hc42 H
                refine Ec.skip ?_
                refine Ec.seq ?_
                refine Ec.region ?_
                refine Eo.val (x := (.v (.int .i64 x23))) rfl rfl rfl rfl ?_
                refine Eo.val (x := (.v (.int .i64 (IntKind.wrap .i64 (16 * x23))))) rfl rfl rfl rfl ?_
                refine Eo.val (x := (.v (.int .i64 x24))) rfl rfl rfl rfl ?_
                refine Eo.val (x := (.v (.int .i64 (IntKind.wrap .i64 ((IntKind.wrap .i64 (16 * x23)) + x24))))) rfl rfl rfl rfl ?_
                refine Eo.val (x := (.v (.int .u8 (IntKind.wrap .u8 (IntKind.wrap .i64 ((IntKind.wrap .i64 (16 * x23)) + x24)))))) rfl rfl rfl rfl ?_
                refine Eo.val (x := (.v (.int .u8 (IntKind.wrap .u8 (IntKind.wrap .i64 ((IntKind.wrap .i64 (16 * x23)) + x24)))))) rfl rfl rfl rfl ?_
                refine Eo.val (x := (.v (.int .i64 3))) rfl rfl rfl rfl ?_
                refine Eo.nil ?_
                obtain rfl := Option.some.inj H
                refine Ec.ret ?_
                refine Ret.mk rfl ?_
                exact ⟨rfl, hp33⟩

def gasmtext_quoted_L1 (N : Nat) (p0 : ByteArray) : Nat → (List Int) → Int → Option (LR Unit (ByteArray × Int))
  | 0, _, _ => none
  | m + 1, y83, y86 => (cond (decide (y86 < ((p0.size : Nat) : Int))) (((((atS p0 y86).bind fun b208 => (cond (b208 == 34) (some (.ret ((ofB y83), (IntKind.wrap .i64 (y86 + 1))))) ((cond (b208 == 92) (((subS p0 (IntKind.wrap .i64 (y86 + 1)) ((p0.size : Nat) : Int)).bind fun s211 => ((gasmtext_escaped N s211).bind fun v => match v with | (r213, r214) => (cond (r214 == 0) (some (.ret ((ByteArray.mk #[]), 0))) (((appL 1 y83 ([r213] : List Int)).bind fun l222 => some (.out (l222, (IntKind.wrap .i64 (y86 + r214)))))))))) ((cond ((decide (b208 < 32)) || (decide (b208 > 126))) (some (.ret ((ByteArray.mk #[]), 0))) (((appL 1 y83 ([b208] : List Int)).bind fun l237 => some (.out (l237, y86)))))))))) : Option (LR ((List Int) × Int) (ByteArray × Int))).bind fun v => match v with | .out (x204, x207) => gasmtext_quoted_L1 N p0 m x204 (IntKind.wrap .i64 (x207 + 1)) | .ret r246 => some (.ret r246))) (some (.out ())))

def gasmtext_quoted (n : Nat) (p0 : ByteArray) : Option ((ByteArray × Int)) := ((gasmtext_quoted_L1 n p0 n ([] : List Int) 1).bind fun v => match v with | .out _ => some ((ByteArray.mk #[]), 0) | .ret r257 => some r257)

def gasmtext_quoted_post (R : List Res) (r : (ByteArray × Int)) (x : A) (s : St) : Prop := x = (.tup [(.v (.string r.1)), (.v (.int .i64 r.2))]) ∧ Hp s (R)

theorem gasmtext_quoted_ok {n : Nat} {p0 : ByteArray} {R : List Res} {σ : St} (hp : Hp σ R) {r : (ByteArray × Int)} (H : gasmtext_quoted n p0 = some r) : Ca cfg 56 [(.v (.string p0))] σ (gasmtext_quoted_post R r) := by
  unfold gasmtext_quoted at H
  refine Ca.enterL (G := [(0, (.v (.string p0)))]) Tryd.func56 rfl rfl rfl rfl ?_
  refine Ec.seq ?_
  refine Ec.region ?_
  refine Eo.val (x := (.v (.string (ByteArray.mk #[])))) rfl rfl rfl rfl ?_
  refine Eo.val (x := (.v (.int .i64 0))) rfl rfl rfl rfl ?_
  refine Eo.nil ?_
  refine Ec.seq ?_
  refine Ec.region ?_
  refine Eo.val (x := nilS) rfl rfl rfl rfl ?_
  refine Eo.nil ?_
  refine Ec.seq ?_
  refine Ec.seq ?_
  refine Ec.region ?_
  refine Eo.val (x := (.v (.int .i64 1))) rfl rfl rfl rfl ?_
  refine Eo.nil ?_
  refine Ec.block ?_
  obtain ⟨v251, hv252, H⟩ := bind_some H
  refine Ec.cut (J := (fun (v : LR Unit (ByteArray × Int)) (x : X) (φ : Fr) (s : St) => match v with | .out _ => x = (.exit 0) ∧ (Hp s (R) ∧ Fl [] φ) | .ret r => x = .ret ∧ Ret cfg Tryd.f56 (gasmtext_quoted_post R r) .ret φ s) v251) (Ec.weak (.cons rfl (.cons rfl (.cons rfl (.nil')))) (Ec.loopF (f := (fun m (i : ((List Int) × Int) × A) => gasmtext_quoted_L1 n p0 m i.1.1 i.1.2)) (G := (fun (i : ((List Int) × Int) × A) => ([(0, (.v (.string p0))), (4, i.2), (5, (.v (.int .i64 i.1.2)))] : List (Nat × A)))) (I := (fun (i : ((List Int) × Int) × A) (s : St) => Sl (rI .u8) i.2 i.1.1 ∧ Hp s (.app i.2 5 :: R))) (J := (fun (v : LR Unit (ByteArray × Int)) (x : X) (φ : Fr) (s : St) => match v with | .out _ => x = (.exit 0) ∧ (Hp s (R) ∧ Fl [] φ) | .ret r => x = .ret ∧ Ret cfg Tryd.f56 (gasmtext_quoted_post R r) .ret φ s)) (fun _ => rfl) ?_ n ((([] : List Int), 1), nilS) _ v251 ⟨Sl.nil, (Hp.appNil hp 5)⟩ hv252)) ?_
  · rintro m ⟨⟨y83, y86⟩, a84⟩ σ0 v ⟨h85, hp0⟩ H ih
    change gasmtext_quoted_L1 n p0 (m + 1) y83 y86 = some v at H
    rw [gasmtext_quoted_L1] at H
    change Ec _ _ _ [(0, (.v (.string p0))), (4, a84), (5, (.v (.int .i64 y86)))] σ0 _
    refine Ec.seq ?_
    refine Ec.seq ?_
    refine Ec.region ?_
    refine Eo.val (x := (.v (.int .i64 y86))) rfl rfl rfl rfl ?_
    refine Eo.val (x := (.v (.string p0))) rfl rfl rfl rfl ?_
    refine Eo.val (x := (.v (.int .i64 ((p0.size : Nat) : Int)))) (op_len rfl rfl rfl rfl rfl Tryd.underlying9) rfl rfl rfl ?_
    refine Eo.val (x := (.v (.bool (decide (y86 < ((p0.size : Nat) : Int)))))) rfl rfl rfl rfl ?_
    refine Eo.nil ?_
    refine Ec.cond (t := (decide (y86 < ((p0.size : Nat) : Int)))) rfl (fun hc169 => ?_) (fun hc169 => ?_)
    · have H := cond_t hc169 H
      refine Ec.skip ?_
      refine Ec.seq ?_
      obtain ⟨v249, hv250, H⟩ := bind_some H
      refine Ec.cut (J := (fun (v : LR ((List Int) × Int) (ByteArray × Int)) (x : X) (φ : Fr) (s : St) => match v with | .out (x204, x207) => x = .normal ∧ (∃ (a205 : A), Sl (rI .u8) a205 x204 ∧ Hp s (.app a205 5 :: R) ∧ Fl [(0, (.v (.string p0))), (4, a205), (5, (.v (.int .i64 x207)))] φ) | .ret r => x = .ret ∧ Ret cfg Tryd.f56 (gasmtext_quoted_post R r) .ret φ s) v249) ?_ ?_
      · have H := hv250
        refine Ec.block ?_
        refine Ec.seq ?_
        refine Ec.region ?_
        refine Eo.val (x := (.v (.string p0))) rfl rfl rfl rfl ?_
        refine Eo.val (x := (.v (.int .i64 y86))) rfl rfl rfl rfl ?_
        obtain ⟨b208, hvb208, H⟩ := bind_some H
        refine Eo.val (op_byteS hvb208 rfl rfl rfl Tryd.underlying9) rfl rfl rfl ?_
        refine Eo.val (x := (.v (.int .u8 b208))) rfl rfl rfl rfl ?_
        refine Eo.nil ?_
        refine Ec.block ?_
        refine Ec.seq ?_
        refine Ec.region ?_
        refine Eo.val (x := (.v (.int .u8 b208))) rfl rfl rfl rfl ?_
        refine Eo.val (x := (.v (.bool (b208 == 34)))) rfl rfl rfl rfl ?_
        refine Eo.val (x := (.v (.bool (b208 == 34)))) rfl rfl rfl rfl ?_
        refine Eo.nil ?_
        refine Ec.cond (t := (b208 == 34)) rfl (fun hc209 => ?_) (fun hc209 => ?_)
        · have H := cond_t hc209 H
          refine Ec.seq ?_
          refine Ec.region ?_
          refine Eo.val (x := a84) rfl rfl rfl rfl ?_
          refine Eo.val (op_b2s h85 rfl rfl Tryd.underlying61 Tryd.underlying9 Tryd.underlying5 (fun h => by subst h; rfl)) rfl rfl rfl ?_
          refine Eo.val (x := (.v (.int .i64 y86))) rfl rfl rfl rfl ?_
          refine Eo.val (x := (.v (.int .i64 (IntKind.wrap .i64 (y86 + 1))))) rfl rfl rfl rfl ?_
          refine Eo.val (x := (.v (.string (ofB y83)))) rfl rfl rfl rfl ?_
          refine Eo.val (x := (.v (.int .i64 (IntKind.wrap .i64 (y86 + 1))))) rfl rfl rfl rfl ?_
          refine Eo.nil ?_
          obtain rfl := Option.some.inj H
          refine Ec.ret ?_
          refine And.intro rfl (Ret.mk rfl ?_)
          exact ⟨rfl, (Hp.drop hp0 0)⟩
        · have H := cond_f hc209 H
          refine Ec.seq ?_
          refine Ec.region ?_
          refine Eo.val (x := (.v (.int .u8 b208))) rfl rfl rfl rfl ?_
          refine Eo.val (x := (.v (.bool (b208 == 92)))) rfl rfl rfl rfl ?_
          refine Eo.val (x := (.v (.bool (b208 == 92)))) rfl rfl rfl rfl ?_
          refine Eo.nil ?_
          refine Ec.cond (t := (b208 == 92)) rfl (fun hc210 => ?_) (fun hc210 => ?_)
          · have H := cond_t hc210 H
            refine Ec.seq ?_
            refine Ec.region ?_
            refine Eo.val (x := (.v (.string p0))) rfl rfl rfl rfl ?_
            refine Eo.val (x := (.v (.int .i64 y86))) rfl rfl rfl rfl ?_
            refine Eo.val (x := (.v (.int .i64 (IntKind.wrap .i64 (y86 + 1))))) rfl rfl rfl rfl ?_
            obtain ⟨s211, hvs211, H⟩ := bind_some H
            refine Eo.val (op_partS hvs211 rfl rfl Tryd.underlying9 (.inr ⟨_, _, rfl, rfl⟩) (.inl ⟨rfl, rfl⟩)) rfl rfl rfl ?_
            obtain ⟨r212, hvr212, H⟩ := bind_some H
            refine Eo.call rfl rfl rfl rfl (gasmtext_escaped_ok hp0 hvr212) ?_
            obtain ⟨r213, r214⟩ := r212
            rintro _ σ216 ⟨rfl, hp215⟩
            refine Eo.val (x := (.tup [(.v (.int .u8 r213)), (.v (.int .i64 r214))])) rfl rfl rfl rfl ?_
            refine Eo.val (x := (.v (.int .u8 r213))) rfl rfl rfl rfl ?_
            refine Eo.val (x := (.v (.int .i64 r214))) rfl rfl rfl rfl ?_
            refine Eo.val (x := (.v (.int .u8 r213))) rfl rfl rfl rfl ?_
            refine Eo.val (x := (.v (.int .i64 r214))) rfl rfl rfl rfl ?_
            refine Eo.nil ?_
            refine Ec.seq ?_
            refine Ec.seq ?_
            refine Ec.region ?_
            refine Eo.val (x := (.v (.int .i64 r214))) rfl rfl rfl rfl ?_
            refine Eo.val (x := (.v (.bool (r214 == 0)))) rfl rfl rfl rfl ?_
            refine Eo.nil ?_
            refine Ec.cond (t := (r214 == 0)) rfl (fun hc217 => ?_) (fun hc217 => ?_)
            · have H := cond_t hc217 H
              refine Ec.seq ?_
              refine Ec.region ?_
              refine Eo.val (x := (.v (.string (ByteArray.mk #[])))) rfl rfl rfl rfl ?_
              refine Eo.val (x := (.v (.int .i64 0))) rfl rfl rfl rfl ?_
              refine Eo.nil ?_
              obtain rfl := Option.some.inj H
              refine Ec.ret ?_
              refine And.intro rfl (Ret.mk rfl ?_)
              exact ⟨rfl, (Hp.drop hp215 0)⟩
            · have H := cond_f hc217 H
              refine Ec.skip ?_
              refine Ec.seq ?_
              refine Ec.region ?_
              refine Eo.val (x := a84) rfl rfl rfl rfl ?_
              refine Eo.val (x := (.v (.int .u8 r213))) rfl rfl rfl rfl ?_
              refine Eo.val (x := (.sl 1 [(.v (.int .u8 r213))] .ex)) (op_buildS (lay_cons rfl rfl rfl rfl rfl lay_nil) rfl (parts_cons rfl rfl rfl) Tryd.underlying61 rfl rfl rfl rfl (by decide) rfl) rfl rfl rfl ?_
              have h221 : Sl (rI .u8) (.sl 1 [(.v (.int .u8 r213))] .ex) ([r213] : List Int) := .inr ⟨_, _, rfl, (.cons (c := [(.v (.int .u8 r213))]) rfl .nil)⟩
              have hp220 := Hp.appEx hp215 5 1 [(.v (.int .u8 r213))]
              obtain ⟨l222, hvl222, H⟩ := bind_some H
              refine Eo.append hp220 1 rfl h85 (New.of h221) hvl222 rfl rfl rfl rfl rfl rfl rfl Tryd.underlying61 rfl Tryd.underlying61 rfl rfl rfl rfl rfl rfl rfl rfl ?_
              intro a223 σ226 h224 hp225
              change Hp σ226 (.app (.sl 1 [(.v (.int .u8 r213))] .ex) 5 :: .app a223 5 :: R) at hp225
              refine Eo.val (x := a223) rfl rfl rfl rfl ?_
              refine Eo.nil ?_
              refine Ec.region ?_
              refine Eo.val (x := (.v (.int .i64 y86))) rfl rfl rfl rfl ?_
              refine Eo.val (x := (.v (.int .i64 r214))) rfl rfl rfl rfl ?_
              refine Eo.val (x := (.v (.int .i64 (IntKind.wrap .i64 (y86 + r214))))) rfl rfl rfl rfl ?_
              refine Eo.val (x := (.v (.int .i64 (IntKind.wrap .i64 (y86 + r214))))) rfl rfl rfl rfl ?_
              refine Eo.nil ?_
              obtain rfl := Option.some.inj H
              exact And.intro rfl ⟨a223, h224, (Hp.drop hp225 0), (.cons rfl (.cons rfl (.cons rfl (.nil'))))⟩
          · have H := cond_f hc210 H
            refine Ec.seq ?_
            refine Ec.region ?_
            refine Eo.val (x := (.v (.int .u8 b208))) rfl rfl rfl rfl ?_
            refine Eo.val (x := (.v (.bool (decide (b208 < 32))))) rfl rfl rfl rfl ?_
            refine Eo.val (x := (.v (.bool (decide (b208 < 32))))) rfl rfl rfl rfl ?_
            refine Eo.cutF 3 [(0, (.v (.string p0))), (4, a84), (5, (.v (.int .i64 y86))), (6, (.v (.int .u8 b208))), (55, (.v (.bool ((decide (b208 < 32)) || (decide (b208 > 126))))))] ?_ ?_
            · skip
              cases hc229 : (decide (b208 < 32))
              · skip
                refine Eo.val (x := (.v (.int .u8 b208))) rfl rfl rfl rfl ?_
                refine Eo.val (x := (.v (.bool (decide (b208 > 126))))) rfl rfl rfl rfl ?_
                refine Eo.val (x := (.v (.bool (decide (b208 > 126))))) rfl rfl rfl rfl ?_
                exact Eo.nil (And.intro rfl (And.intro rfl (.cons rfl (.cons rfl (.cons rfl (.cons rfl (.cons rfl (.nil'))))))))
              · skip
                refine Eo.off rfl rfl rfl ?_
                refine Eo.off rfl rfl rfl ?_
                refine Eo.val (x := (.v (.bool true))) rfl rfl rfl rfl ?_
                exact Eo.nil (And.intro rfl (And.intro rfl (.cons rfl (.cons rfl (.cons rfl (.cons rfl (.cons rfl (.nil'))))))))
            · skip
              refine Eo.val (x := (.v (.bool ((decide (b208 < 32)) || (decide (b208 > 126)))))) rfl rfl rfl rfl ?_
              refine Eo.nil ?_
              refine Ec.cond (t := ((decide (b208 < 32)) || (decide (b208 > 126)))) rfl (fun hc232 => ?_) (fun hc232 => ?_)
              · have H := cond_t hc232 H
                refine Ec.seq ?_
                refine Ec.region ?_
                refine Eo.val (x := (.v (.string (ByteArray.mk #[])))) rfl rfl rfl rfl ?_
                refine Eo.val (x := (.v (.int .i64 0))) rfl rfl rfl rfl ?_
                refine Eo.nil ?_
                obtain rfl := Option.some.inj H
                refine Ec.ret ?_
                refine And.intro rfl (Ret.mk rfl ?_)
                exact ⟨rfl, (Hp.drop hp0 0)⟩
              · have H := cond_f hc232 H
                refine Ec.region ?_
                refine Eo.val (x := a84) rfl rfl rfl rfl ?_
                refine Eo.val (x := (.v (.int .u8 b208))) rfl rfl rfl rfl ?_
                refine Eo.val (x := (.sl 1 [(.v (.int .u8 b208))] .ex)) (op_buildS (lay_cons rfl rfl rfl rfl rfl lay_nil) rfl (parts_cons rfl rfl rfl) Tryd.underlying61 rfl rfl rfl rfl (by decide) rfl) rfl rfl rfl ?_
                have h236 : Sl (rI .u8) (.sl 1 [(.v (.int .u8 b208))] .ex) ([b208] : List Int) := .inr ⟨_, _, rfl, (.cons (c := [(.v (.int .u8 b208))]) rfl .nil)⟩
                have hp235 := Hp.appEx hp0 5 1 [(.v (.int .u8 b208))]
                obtain ⟨l237, hvl237, H⟩ := bind_some H
                refine Eo.append hp235 1 rfl h85 (New.of h236) hvl237 rfl rfl rfl rfl rfl rfl rfl Tryd.underlying61 rfl Tryd.underlying61 rfl rfl rfl rfl rfl rfl rfl rfl ?_
                intro a238 σ241 h239 hp240
                change Hp σ241 (.app (.sl 1 [(.v (.int .u8 b208))] .ex) 5 :: .app a238 5 :: R) at hp240
                refine Eo.val (x := a238) rfl rfl rfl rfl ?_
                refine Eo.nil ?_
                obtain rfl := Option.some.inj H
                exact And.intro rfl ⟨a238, h239, (Hp.drop hp240 0), (.cons rfl (.cons rfl (.cons rfl (.nil'))))⟩
      · rcases v249 with ⟨x204, x207⟩ | r246
        · intro x φ244 σ243 hJ
          obtain ⟨rfl, a205, h206, hp242, hf245⟩ := hJ
          refine Ec.of (F := [(0, (.v (.string p0))), (4, a205), (5, (.v (.int .i64 x207)))]) hf245 ?_
          refine Ec.region ?_
          refine Eo.val (x := (.v (.int .i64 x207))) rfl rfl rfl rfl ?_
          refine Eo.val (x := (.v (.int .i64 (IntKind.wrap .i64 (x207 + 1))))) rfl rfl rfl rfl ?_
          refine Eo.val (x := (.v (.int .i64 (IntKind.wrap .i64 (x207 + 1))))) rfl rfl rfl rfl ?_
          refine Eo.nil ?_
          exact Ec.of (.cons rfl (.cons rfl (.cons rfl (.nil')))) (ih ((x204, (IntKind.wrap .i64 (x207 + 1))), a205) _ ⟨h206, hp242⟩ H)
        · intro x φ247 σ248 hJ
          obtain rfl := Option.some.inj H
          obtain ⟨rfl, hr⟩ := hJ
          exact And.intro rfl hr
    · have H := cond_f hc169 H
      refine Ec.exit ?_
      obtain rfl := Option.some.inj H
      exact And.intro rfl ⟨(Hp.drop hp0 0), (.nil')⟩
  · rcases v251 with _ | r257
    · intro x φ255 σ254 hJ
      obtain ⟨rfl, hp253, hf256⟩ := hJ
      refine Ec.of (F := []) hf256 ?_
      refine Ec.seq ?_
      refine Ec.region ?_
      refine Eo.val (x := (.v (.string (ByteArray.mk #[])))) rfl rfl rfl rfl ?_
      refine Eo.val (x := (.v (.int .i64 0))) rfl rfl rfl rfl ?_
      refine Eo.nil ?_
      obtain rfl := Option.some.inj H
      refine Ec.ret ?_
      refine Ret.mk rfl ?_
      exact ⟨rfl, hp253⟩
    · intro x φ258 σ259 hJ
      obtain rfl := Option.some.inj H
      obtain ⟨rfl, hr⟩ := hJ
      exact hr

def gasmtext_one_L1 (N : Nat) (p0 : ByteArray) : Nat → Int → Option (Int)
  | 0, _ => none
  | m + 1, y39 => (((cond (decide (y39 < ((p0.size : Nat) : Int))) (((atS p0 y39).bind fun b66 => ((gasmtext_word N b66).bind fun r67 => some r67))) (some false)) : Option (Bool)).bind fun x64 => (cond x64 (gasmtext_one_L1 N p0 m (IntKind.wrap .i64 (y39 + 1))) (some y39)))

def gasmtext_one (n : Nat) (p0 : ByteArray) : Option ((TTok × Int)) := ((atS p0 0).bind fun b4 => (cond (b4 == 34) (((gasmtext_quoted n p0).bind fun v => match v with | (r7, r8) => some ((TTok.mk 3 r7), r8))) (((atS p0 0).bind fun b13 => ((indexByteT (ByteArray.mk #[40, 41, 91, 93, 43, 45, 42, 44, 58, 37]) b13).bind fun r14 => (cond (decide (r14 ≥ 0)) (((subS p0 0 1).bind fun s18 => some ((TTok.mk 2 s18), 1))) (((gasmtext_one_L1 n p0 n 0).bind fun x58 => ((subS p0 0 x58).bind fun s83 => some ((TTok.mk 1 s83), x58))))))))))

def gasmtext_one_post (R : List Res) (r : (TTok × Int)) (x : A) (s : St) : Prop := x = (.tup [(.agg [(.v (.int .i64 r.1.f_Kind)), (.v (.string r.1.f_Text))]), (.v (.int .i64 r.2))]) ∧ Hp s (R)

theorem gasmtext_one_ok {n : Nat} {p0 : ByteArray} {R : List Res} {σ : St} (hp : Hp σ R) {r : (TTok × Int)} (H : gasmtext_one n p0 = some r) : Ca cfg 30 [(.v (.string p0))] σ (gasmtext_one_post R r) := by
  unfold gasmtext_one at H
  refine Ca.enterL (G := [(0, (.v (.string p0)))]) Tryd.func30 rfl rfl rfl rfl ?_
  refine Ec.seq ?_
  refine Ec.region ?_
  refine Eo.alloc (z := [(.v (.int .i64 0)), (.v (.string (ByteArray.mk #[])))]) hp rfl rfl rfl rfl rfl ?_
  intro b1 σ3 hp2
  refine Eo.val (x := (.v (.int .i64 0))) rfl rfl rfl rfl ?_
  refine Eo.nil ?_
  refine Ec.seq ?_
  refine Ec.seq ?_
  refine Ec.region ?_
  refine Eo.val (x := (.v (.string p0))) rfl rfl rfl rfl ?_
  obtain ⟨b4, hvb4, H⟩ := bind_some H
  refine Eo.val (op_byteS hvb4 rfl rfl rfl Tryd.underlying9) rfl rfl rfl ?_
  refine Eo.val (x := (.v (.bool (b4 == 34)))) rfl rfl rfl rfl ?_
  refine Eo.nil ?_
  refine Ec.cond (t := (b4 == 34)) rfl (fun hc5 => ?_) (fun hc5 => ?_)
  · have H := cond_t hc5 H
    refine Ec.seq ?_
    refine Ec.region ?_
    refine Eo.val (x := (.v (.string p0))) rfl rfl rfl rfl ?_
    obtain ⟨r6, hvr6, H⟩ := bind_some H
    refine Eo.call rfl rfl rfl rfl (gasmtext_quoted_ok hp2 hvr6) ?_
    obtain ⟨r7, r8⟩ := r6
    rintro _ σ10 ⟨rfl, hp9⟩
    refine Eo.val (x := (.tup [(.v (.string r7)), (.v (.int .i64 r8))])) rfl rfl rfl rfl ?_
    refine Eo.val (x := (.v (.string r7))) rfl rfl rfl rfl ?_
    refine Eo.val (x := (.v (.int .i64 r8))) rfl rfl rfl rfl ?_
    refine Eo.val (x := (.v (.string r7))) rfl rfl rfl rfl ?_
    refine Eo.val (x := (.v (.int .i64 r8))) rfl rfl rfl rfl ?_
    refine Eo.nil ?_
    refine Ec.seq ?_
    refine Ec.region ?_
    refine Eo.val (x := (.v (.string r7))) rfl rfl rfl rfl ?_
    refine Eo.val (x := (.agg [(.v (.int .i64 3)), (.v (.string r7))])) (op_build (lay_cons rfl rfl rfl rfl rfl (lay_cons rfl rfl rfl rfl rfl lay_nil)) rfl (parts_cons rfl rfl (parts_cons rfl rfl rfl)) Tryd.underlying48 rfl rfl) rfl rfl rfl ?_
    refine Eo.val (x := (.v (.int .i64 r8))) rfl rfl rfl rfl ?_
    refine Eo.store hp9 0 rfl (storeCells_mk rfl rfl rfl rfl rfl rfl) rfl rfl rfl rfl rfl ?_
    intro σ12 hp11
    change Hp σ12 (.blk b1 (.cells [(.v (.int .i64 3)), (.v (.string r7))] 48) :: R) at hp11
    refine Eo.val (x := (.v (.int .i64 r8))) rfl rfl rfl rfl ?_
    refine Eo.nil ?_
    obtain rfl := Option.some.inj H
    refine Ec.ret ?_
    refine Ret.mk' (resA_cell hp11 0 rfl rfl rfl (resA_tmp rfl rfl)) ?_
    exact ⟨rfl, (Hp.drop hp11 0)⟩
  · have H := cond_f hc5 H
    refine Ec.skip ?_
    refine Ec.seq ?_
    refine Ec.seq ?_
    refine Ec.region ?_
    refine Eo.val (x := (.v (.string p0))) rfl rfl rfl rfl ?_
    obtain ⟨b13, hvb13, H⟩ := bind_some H
    refine Eo.val (op_byteS hvb13 rfl rfl rfl Tryd.underlying9) rfl rfl rfl ?_
    obtain ⟨r14, hvr14, H⟩ := bind_some H
    refine Eo.call rfl rfl rfl rfl (prim57_ok hp2 hvr14) ?_
    rintro _ σ16 ⟨rfl, hp15⟩
    refine Eo.val (x := (.v (.bool (decide (r14 ≥ 0))))) rfl rfl rfl rfl ?_
    refine Eo.nil ?_
    refine Ec.cond (t := (decide (r14 ≥ 0))) rfl (fun hc17 => ?_) (fun hc17 => ?_)
    · have H := cond_t hc17 H
      refine Ec.seq ?_
      refine Ec.region ?_
      refine Eo.val (x := (.v (.string p0))) rfl rfl rfl rfl ?_
      obtain ⟨s18, hvs18, H⟩ := bind_some H
      refine Eo.val (op_partS hvs18 rfl rfl Tryd.underlying9 (.inl ⟨rfl, rfl⟩) (.inr ⟨_, _, rfl, rfl⟩)) rfl rfl rfl ?_
      refine Eo.val (x := (.agg [(.v (.int .i64 2)), (.v (.string s18))])) (op_build (lay_cons rfl rfl rfl rfl rfl (lay_cons rfl rfl rfl rfl rfl lay_nil)) rfl (parts_cons rfl rfl (parts_cons rfl rfl rfl)) Tryd.underlying48 rfl rfl) rfl rfl rfl ?_
      refine Eo.store hp15 0 rfl (storeCells_mk rfl rfl rfl rfl rfl rfl) rfl rfl rfl rfl rfl ?_
      intro σ20 hp19
      change Hp σ20 (.blk b1 (.cells [(.v (.int .i64 2)), (.v (.string s18))] 48) :: R) at hp19
      refine Eo.val (x := (.v (.int .i64 1))) rfl rfl rfl rfl ?_
      refine Eo.nil ?_
      obtain rfl := Option.some.inj H
      refine Ec.ret ?_
      refine Ret.mk' (resA_cell hp19 0 rfl rfl rfl (resA_tmp rfl rfl)) ?_
      exact ⟨rfl, (Hp.drop hp19 0)⟩
    · have H := cond_f hc17 H
      refine Ec.skip ?_
      refine Ec.seq ?_
      refine Ec.region ?_
      refine Eo.val (x := (.v (.int .i64 0))) rfl rfl rfl rfl ?_
      refine Eo.nil ?_
      refine Ec.seq ?_
      refine Ec.block ?_
      obtain ⟨x58, hv78, H⟩ := bind_some H
      refine Ec.cut (J := (fun (x58 : Int) (x : X) (φ : Fr) (s : St) => x = (.exit 0) ∧ (Hp s (.blk b1 (.cells [(.v (.int .i64 0)), (.v (.string (ByteArray.mk #[])))] 48) :: R) ∧ Fl [(0, (.v (.string p0))), (2, (.ptr b1 0)), (6, (.v (.int .i64 x58)))] φ)) x58) (Ec.weak (.cons rfl (.cons rfl (.cons rfl (.nil')))) (Ec.loopF (f := (fun m (i : Int × Unit) => gasmtext_one_L1 n p0 m i.1)) (G := (fun (i : Int × Unit) => ([(0, (.v (.string p0))), (2, (.ptr b1 0)), (6, (.v (.int .i64 i.1)))] : List (Nat × A)))) (I := (fun (i : Int × Unit) (s : St) => Hp s (.blk b1 (.cells [(.v (.int .i64 0)), (.v (.string (ByteArray.mk #[])))] 48) :: R))) (J := (fun (x58 : Int) (x : X) (φ : Fr) (s : St) => x = (.exit 0) ∧ (Hp s (.blk b1 (.cells [(.v (.int .i64 0)), (.v (.string (ByteArray.mk #[])))] 48) :: R) ∧ Fl [(0, (.v (.string p0))), (2, (.ptr b1 0)), (6, (.v (.int .i64 x58)))] φ))) (fun _ => rfl) ?_ n (0, ()) _ x58 hp15 hv78)) ?_
      · rintro m ⟨y39, _⟩ σ0 v hp0 H ih
        change gasmtext_one_L1 n p0 (m + 1) y39 = some v at H
        rw [gasmtext_one_L1] at H
        change Ec _ _ _ [(0, (.v (.string p0))), (2, (.ptr b1 0)), (6, (.v (.int .i64 y39)))] σ0 _
        refine Ec.seq ?_
        refine Ec.seq ?_
        refine Ec.region ?_
        refine Eo.val (x := (.v (.int .i64 y39))) rfl rfl rfl rfl ?_
        refine Eo.val (x := (.v (.string p0))) rfl rfl rfl rfl ?_
        refine Eo.val (x := (.v (.int .i64 ((p0.size : Nat) : Int)))) (op_len rfl rfl rfl rfl rfl Tryd.underlying9) rfl rfl rfl ?_
        refine Eo.val (x := (.v (.bool (decide (y39 < ((p0.size : Nat) : Int)))))) rfl rfl rfl rfl ?_
        refine Eo.val (x := (.v (.bool (decide (y39 < ((p0.size : Nat) : Int)))))) rfl rfl rfl rfl ?_
        obtain ⟨x64, hv76, H⟩ := bind_some H
        refine Eo.cutN 5 (J := (fun (x64 : Bool) (x : X) (φ : Fr) (s : St) => x = .normal ∧ (Hp s (.blk b1 (.cells [(.v (.int .i64 0)), (.v (.string (ByteArray.mk #[])))] 48) :: R) ∧ Fl [(0, (.v (.string p0))), (2, (.ptr b1 0)), (6, (.v (.int .i64 y39))), (34, (.v (.bool x64)))] φ)) x64) ?_ ?_
        · have H := hv76
          cases hc65 : (decide (y39 < ((p0.size : Nat) : Int)))
          · have H := cond_f hc65 H
            refine Eo.off rfl rfl rfl ?_
            refine Eo.off rfl rfl rfl ?_
            refine Eo.off rfl rfl rfl ?_
            refine Eo.off rfl rfl rfl ?_
            refine Eo.val (x := (.v (.bool false))) rfl rfl rfl rfl ?_
            refine Eo.nil ?_
            obtain rfl := Option.some.inj H
            exact And.intro rfl ⟨hp0, (.cons rfl (.cons rfl (.cons rfl (.cons rfl (.nil')))))⟩
          · have H := cond_t hc65 H
            refine Eo.val (x := (.v (.string p0))) rfl rfl rfl rfl ?_
            refine Eo.val (x := (.v (.int .i64 y39))) rfl rfl rfl rfl ?_
            obtain ⟨b66, hvb66, H⟩ := bind_some H
            refine Eo.val (op_byteS hvb66 rfl rfl rfl Tryd.underlying9) rfl rfl rfl ?_
            obtain ⟨r67, hvr67, H⟩ := bind_some H
            refine Eo.call rfl rfl rfl rfl (gasmtext_word_ok hp0 hvr67) ?_
            rintro _ σ69 ⟨rfl, hp68⟩
            refine Eo.val (x := (.v (.bool r67))) rfl rfl rfl rfl ?_
            refine Eo.nil ?_
            obtain rfl := Option.some.inj H
            exact And.intro rfl ⟨hp68, (.cons rfl (.cons rfl (.cons rfl (.cons rfl (.nil')))))⟩
        · skip
          intro x φ72 σ71 hJ
          obtain ⟨rfl, hp70, hf73⟩ := hJ
          refine ⟨rfl, Eo.of (F := [(0, (.v (.string p0))), (2, (.ptr b1 0)), (6, (.v (.int .i64 y39))), (34, (.v (.bool x64)))]) hf73 ?_⟩
          refine Eo.nil ?_
          refine Ec.cond (t := x64) rfl (fun hc74 => ?_) (fun hc74 => ?_)
          · have H := cond_t hc74 H
            refine Ec.skip ?_
            refine Ec.block ?_
            refine Ec.region ?_
            refine Eo.val (x := (.v (.int .i64 y39))) rfl rfl rfl rfl ?_
            refine Eo.val (x := (.v (.int .i64 (IntKind.wrap .i64 (y39 + 1))))) rfl rfl rfl rfl ?_
            refine Eo.val (x := (.v (.int .i64 (IntKind.wrap .i64 (y39 + 1))))) rfl rfl rfl rfl ?_
            refine Eo.nil ?_
            exact Ec.of (.cons rfl (.cons rfl (.cons rfl (.nil')))) (ih ((IntKind.wrap .i64 (y39 + 1)), ()) _ hp70 H)
          · have H := cond_f hc74 H
            refine Ec.exit ?_
            obtain rfl := Option.some.inj H
            exact And.intro rfl ⟨hp70, (.cons rfl (.cons rfl (.cons rfl (.nil'))))⟩
      · skip
        intro x φ81 σ80 hJ
        obtain ⟨rfl, hp79, hf82⟩ := hJ
        refine Ec.of (F := [(0, (.v (.string p0))), (2, (.ptr b1 0)), (6, (.v (.int .i64 x58)))]) hf82 ?_
        refine Ec.seq ?_
        refine Ec.region ?_
        refine Eo.val (x := (.v (.string p0))) rfl rfl rfl rfl ?_
        refine Eo.val (x := (.v (.int .i64 x58))) rfl rfl rfl rfl ?_
        obtain ⟨s83, hvs83, H⟩ := bind_some H
        refine Eo.val (op_partS hvs83 rfl rfl Tryd.underlying9 (.inl ⟨rfl, rfl⟩) (.inr ⟨_, _, rfl, rfl⟩)) rfl rfl rfl ?_
        refine Eo.val (x := (.agg [(.v (.int .i64 1)), (.v (.string s83))])) (op_build (lay_cons rfl rfl rfl rfl rfl (lay_cons rfl rfl rfl rfl rfl lay_nil)) rfl (parts_cons rfl rfl (parts_cons rfl rfl rfl)) Tryd.underlying48 rfl rfl) rfl rfl rfl ?_
        refine Eo.val (x := (.v (.int .i64 x58))) rfl rfl rfl rfl ?_
        refine Eo.store hp79 0 rfl (storeCells_mk rfl rfl rfl rfl rfl rfl) rfl rfl rfl rfl rfl ?_
        intro σ85 hp84
        change Hp σ85 (.blk b1 (.cells [(.v (.int .i64 1)), (.v (.string s83))] 48) :: R) at hp84
        refine Eo.val (x := (.v (.int .i64 x58))) rfl rfl rfl rfl ?_
        refine Eo.nil ?_
        obtain rfl := Option.some.inj H
        refine Ec.ret ?_
        refine Ret.mk' (resA_cell hp84 0 rfl rfl rfl (resA_tmp rfl rfl)) ?_
        exact ⟨rfl, (Hp.drop hp84 0)⟩

def gasmtext_Words_L1 (N : Nat) : Nat → ByteArray → (List TTok) → Option (LR (List TTok) ((List TTok) × Int))
  | 0, _, _ => none
  | m + 1, y41, y42 => ((trimLeftT y41 (ByteArray.mk #[32, 9])).bind fun r84 => (((cond (decide (r84 = (ByteArray.mk #[]))) (some true) (((atS r84 0).bind fun b91 => some (b91 == 35)))) : Option (Bool)).bind fun x89 => (cond x89 (some (.out y42)) (((gasmtext_one N r84).bind fun v => match v with | (r98, r99) => (cond (r99 == 0) (some (.ret (([] : List TTok), 131))) (((appL 24 y42 ([r98] : List TTok)).bind fun l112 => ((subS r84 r99 ((r84.size : Nat) : Int)).bind fun s117 => gasmtext_Words_L1 N m s117 l112)))))))))

def gasmtext_Words (n : Nat) (p0 : ByteArray) : Option (((List TTok) × Int)) := ((containsT p0 (ByteArray.mk #[10])).bind fun r1 => (cond r1 (some (([] : List TTok), 131)) (((gasmtext_Words_L1 n n p0 ([] : List TTok)).bind fun v => match v with | .out x81 => (cond (decide (((x81.length : Nat) : Int) > 64)) (some (([] : List TTok), 133)) (some (x81, 0))) | .ret r127 => some r127))))

def gasmtext_Words_post (R : List Res) (r : ((List TTok) × Int)) (x : A) (s : St) : Prop := ∃ (a130 : A), x = (.tup [a130, (.v (.int .i64 r.2))]) ∧ Sl rTTok a130 r.1 ∧ Hp s (.app a130 48 :: R)

theorem gasmtext_Words_ok {n : Nat} {p0 : ByteArray} {R : List Res} {σ : St} (hp : Hp σ R) {r : ((List TTok) × Int)} (H : gasmtext_Words n p0 = some r) : Ca cfg 13 [(.v (.string p0))] σ (gasmtext_Words_post R r) := by
  unfold gasmtext_Words at H
  refine Ca.enterL (G := [(0, (.v (.string p0)))]) Tryd.func13 rfl rfl rfl rfl ?_
  refine Ec.seq ?_
  refine Ec.region ?_
  refine Eo.val (x := nilS) rfl rfl rfl rfl ?_
  refine Eo.val (x := (.v (.int .i64 0))) rfl rfl rfl rfl ?_
  refine Eo.nil ?_
  refine Ec.seq ?_
  refine Ec.seq ?_
  refine Ec.region ?_
  refine Eo.val (x := (.v (.string p0))) rfl rfl rfl rfl ?_
  obtain ⟨r1, hvr1, H⟩ := bind_some H
  refine Eo.call rfl rfl rfl rfl (prim28_ok hp hvr1) ?_
  rintro _ σ3 ⟨rfl, hp2⟩
  refine Eo.nil ?_
  refine Ec.cond (t := r1) rfl (fun hc4 => ?_) (fun hc4 => ?_)
  · have H := cond_t hc4 H
    refine Ec.seq ?_
    refine Ec.region ?_
    refine Eo.val (x := nilS) rfl rfl rfl rfl ?_
    refine Eo.val (x := (.v (.int .i64 131))) rfl rfl rfl rfl ?_
    refine Eo.nil ?_
    obtain rfl := Option.some.inj H
    refine Ec.ret ?_
    refine Ret.mk rfl ?_
    exact ⟨nilS, rfl, Sl.nil, (Hp.appNil hp2 48)⟩
  · have H := cond_f hc4 H
    refine Ec.skip ?_
    refine Ec.seq ?_
    refine Ec.region ?_
    refine Eo.val (x := nilS) rfl rfl rfl rfl ?_
    refine Eo.nil ?_
    refine Ec.seq ?_
    refine Ec.block ?_
    obtain ⟨v120, hv121, H⟩ := bind_some H
    refine Ec.cut (J := (fun (v : LR (List TTok) ((List TTok) × Int)) (x : X) (φ : Fr) (s : St) => match v with | .out x81 => x = (.exit 0) ∧ (∃ (a82 : A), Sl rTTok a82 x81 ∧ Hp s (.app a82 48 :: R) ∧ Fl [(4, a82)] φ) | .ret r => x = .ret ∧ Ret cfg Tryd.f13 (gasmtext_Words_post R r) .ret φ s) v120) (Ec.weak (.cons rfl (.cons rfl (.nil'))) (Ec.loopF (f := (fun m (i : (ByteArray × (List TTok)) × A) => gasmtext_Words_L1 n m i.1.1 i.1.2)) (G := (fun (i : (ByteArray × (List TTok)) × A) => ([(0, (.v (.string i.1.1))), (4, i.2)] : List (Nat × A)))) (I := (fun (i : (ByteArray × (List TTok)) × A) (s : St) => Sl rTTok i.2 i.1.2 ∧ Hp s (.app i.2 48 :: R))) (J := (fun (v : LR (List TTok) ((List TTok) × Int)) (x : X) (φ : Fr) (s : St) => match v with | .out x81 => x = (.exit 0) ∧ (∃ (a82 : A), Sl rTTok a82 x81 ∧ Hp s (.app a82 48 :: R) ∧ Fl [(4, a82)] φ) | .ret r => x = .ret ∧ Ret cfg Tryd.f13 (gasmtext_Words_post R r) .ret φ s)) (fun _ => rfl) ?_ n ((p0, ([] : List TTok)), nilS) _ v120 ⟨Sl.nil, (Hp.appNil hp2 48)⟩ hv121)) ?_
    · rintro m ⟨⟨y41, y42⟩, a43⟩ σ0 v ⟨h44, hp0⟩ H ih
      change gasmtext_Words_L1 n (m + 1) y41 y42 = some v at H
      rw [gasmtext_Words_L1] at H
      change Ec _ _ _ [(0, (.v (.string y41))), (4, a43)] σ0 _
      refine Ec.block ?_
      refine Ec.seq ?_
      refine Ec.region ?_
      refine Eo.val (x := (.v (.string y41))) rfl rfl rfl rfl ?_
      obtain ⟨r84, hvr84, H⟩ := bind_some H
      refine Eo.call rfl rfl rfl rfl (prim29_ok hp0 hvr84) ?_
      rintro _ σ86 ⟨rfl, hp85⟩
      refine Eo.val (x := (.v (.string r84))) rfl rfl rfl rfl ?_
      refine Eo.nil ?_
      refine Ec.seq ?_
      refine Ec.seq ?_
      refine Ec.region ?_
      refine Eo.val (x := (.v (.string r84))) rfl rfl rfl rfl ?_
      refine Eo.val (x := (.v (.bool (decide (r84 = (ByteArray.mk #[])))))) (val_b rfl (seq_eq _ _)) rfl rfl rfl ?_
      refine Eo.val (x := (.v (.bool (decide (r84 = (ByteArray.mk #[])))))) rfl rfl rfl rfl ?_
      obtain ⟨x89, hv119, H⟩ := bind_some H
      refine Eo.cutN 4 (J := (fun (x89 : Bool) (x : X) (φ : Fr) (s : St) => x = .normal ∧ (Hp s (.app a43 48 :: R) ∧ Fl [(0, (.v (.string r84))), (4, a43), (17, (.v (.bool x89)))] φ)) x89) ?_ ?_
      · have H := hv119
        cases hc90 : (decide (r84 = (ByteArray.mk #[])))
        · have H := cond_f hc90 H
          refine Eo.val (x := (.v (.string r84))) rfl rfl rfl rfl ?_
          obtain ⟨b91, hvb91, H⟩ := bind_some H
          refine Eo.val (op_byteS hvb91 rfl rfl rfl Tryd.underlying9) rfl rfl rfl ?_
          refine Eo.val (x := (.v (.bool (b91 == 35)))) rfl rfl rfl rfl ?_
          refine Eo.val (x := (.v (.bool (b91 == 35)))) rfl rfl rfl rfl ?_
          refine Eo.nil ?_
          obtain rfl := Option.some.inj H
          exact And.intro rfl ⟨hp85, (.cons rfl (.cons rfl (.cons rfl (.nil'))))⟩
        · have H := cond_t hc90 H
          refine Eo.off rfl rfl rfl ?_
          refine Eo.off rfl rfl rfl ?_
          refine Eo.off rfl rfl rfl ?_
          refine Eo.val (x := (.v (.bool true))) rfl rfl rfl rfl ?_
          refine Eo.nil ?_
          obtain rfl := Option.some.inj H
          exact And.intro rfl ⟨hp85, (.cons rfl (.cons rfl (.cons rfl (.nil'))))⟩
      · skip
        intro x φ94 σ93 hJ
        obtain ⟨rfl, hp92, hf95⟩ := hJ
        refine ⟨rfl, Eo.of (F := [(0, (.v (.string r84))), (4, a43), (17, (.v (.bool x89)))]) hf95 ?_⟩
        refine Eo.nil ?_
        refine Ec.cond (t := x89) rfl (fun hc96 => ?_) (fun hc96 => ?_)
        · have H := cond_t hc96 H
          refine Ec.exit ?_
          obtain rfl := Option.some.inj H
          exact And.intro rfl ⟨a43, h44, hp92, (.cons rfl (.nil'))⟩
        · have H := cond_f hc96 H
          refine Ec.skip ?_
          refine Ec.seq ?_
          refine Ec.region ?_
          refine Eo.val (x := (.v (.string r84))) rfl rfl rfl rfl ?_
          obtain ⟨r97, hvr97, H⟩ := bind_some H
          refine Eo.call rfl rfl rfl rfl (gasmtext_one_ok hp92 hvr97) ?_
          obtain ⟨r98, r99⟩ := r97
          rintro _ σ101 ⟨rfl, hp100⟩
          refine Eo.val (x := (.tup [(.agg [(.v (.int .i64 r98.f_Kind)), (.v (.string r98.f_Text))]), (.v (.int .i64 r99))])) rfl rfl rfl rfl ?_
          refine Eo.val (x := (.agg [(.v (.int .i64 r98.f_Kind)), (.v (.string r98.f_Text))])) rfl rfl rfl rfl ?_
          refine Eo.val (x := (.v (.int .i64 r99))) rfl rfl rfl rfl ?_
          refine Eo.alloc (z := [(.v (.int .i64 0)), (.v (.string (ByteArray.mk #[])))]) hp100 rfl rfl rfl rfl rfl ?_
          intro b102 σ104 hp103
          refine Eo.store hp103 0 rfl (storeCells_mk rfl rfl rfl rfl rfl rfl) rfl rfl rfl rfl rfl ?_
          intro σ106 hp105
          change Hp σ106 (.blk b102 (.cells [(.v (.int .i64 r98.f_Kind)), (.v (.string r98.f_Text))] 48) :: .app a43 48 :: R) at hp105
          refine Eo.val (x := (.v (.int .i64 r99))) rfl rfl rfl rfl ?_
          refine Eo.nil ?_
          refine Ec.seq ?_
          refine Ec.seq ?_
          refine Ec.region ?_
          refine Eo.val (x := (.v (.int .i64 r99))) rfl rfl rfl rfl ?_
          refine Eo.val (x := (.v (.bool (r99 == 0)))) rfl rfl rfl rfl ?_
          refine Eo.nil ?_
          refine Ec.cond (t := (r99 == 0)) rfl (fun hc107 => ?_) (fun hc107 => ?_)
          · have H := cond_t hc107 H
            refine Ec.seq ?_
            refine Ec.region ?_
            refine Eo.val (x := nilS) rfl rfl rfl rfl ?_
            refine Eo.val (x := (.v (.int .i64 131))) rfl rfl rfl rfl ?_
            refine Eo.nil ?_
            obtain rfl := Option.some.inj H
            refine Ec.ret ?_
            refine And.intro rfl (Ret.mk rfl ?_)
            exact ⟨nilS, rfl, Sl.nil, (Hp.appNil (Hp.drop (Hp.drop hp105 0) 0) 48)⟩
          · have H := cond_f hc107 H
            refine Ec.skip ?_
            refine Ec.seq ?_
            refine Ec.region ?_
            refine Eo.val (x := a43) rfl rfl rfl rfl ?_
            refine Eo.val (x := (.agg [(.v (.int .i64 r98.f_Kind)), (.v (.string r98.f_Text))])) (op_loadB hp105 0 rfl rfl rfl rfl) rfl rfl rfl ?_
            refine Eo.val (x := (.sl 2 [(.v (.int .i64 r98.f_Kind)), (.v (.string r98.f_Text))] .ex)) (op_buildS (lay_cons rfl rfl rfl rfl rfl lay_nil) rfl (parts_cons rfl rfl rfl) Tryd.underlying31 rfl rfl rfl rfl (by decide) rfl) rfl rfl rfl ?_
            have h111 : Sl rTTok (.sl 2 [(.v (.int .i64 r98.f_Kind)), (.v (.string r98.f_Text))] .ex) ([r98] : List TTok) := .inr ⟨_, _, rfl, (.cons (c := [(.v (.int .i64 r98.f_Kind)), (.v (.string r98.f_Text))]) rfl .nil)⟩
            have hp110 := Hp.appEx hp105 48 2 [(.v (.int .i64 r98.f_Kind)), (.v (.string r98.f_Text))]
            obtain ⟨l112, hvl112, H⟩ := bind_some H
            refine Eo.append hp110 2 rfl h44 (New.of h111) hvl112 rfl rfl rfl rfl rfl rfl rfl Tryd.underlying31 rfl Tryd.underlying31 rfl rfl rfl rfl rfl rfl rfl rfl ?_
            intro a113 σ116 h114 hp115
            change Hp σ116 (.app (.sl 2 [(.v (.int .i64 r98.f_Kind)), (.v (.string r98.f_Text))] .ex) 48 :: .blk b102 (.cells [(.v (.int .i64 r98.f_Kind)), (.v (.string r98.f_Text))] 48) :: .app a113 48 :: R) at hp115
            refine Eo.val (x := a113) rfl rfl rfl rfl ?_
            refine Eo.nil ?_
            refine Ec.region ?_
            refine Eo.val (x := (.v (.string r84))) rfl rfl rfl rfl ?_
            refine Eo.val (x := (.v (.int .i64 r99))) rfl rfl rfl rfl ?_
            obtain ⟨s117, hvs117, H⟩ := bind_some H
            refine Eo.val (op_partS hvs117 rfl rfl Tryd.underlying9 (.inr ⟨_, _, rfl, rfl⟩) (.inl ⟨rfl, rfl⟩)) rfl rfl rfl ?_
            refine Eo.val (x := (.v (.string s117))) rfl rfl rfl rfl ?_
            refine Eo.nil ?_
            exact Ec.of (.cons rfl (.cons rfl (.nil'))) (ih ((s117, l112), a113) _ ⟨h114, (Hp.drop (Hp.drop hp115 0) 0)⟩ H)
    · rcases v120 with x81 | r127
      · intro x φ124 σ123 hJ
        obtain ⟨rfl, a82, h83, hp122, hf125⟩ := hJ
        refine Ec.of (F := [(4, a82)]) hf125 ?_
        refine Ec.seq ?_
        refine Ec.seq ?_
        refine Ec.region ?_
        refine Eo.val (x := a82) rfl rfl rfl rfl ?_
        refine Eo.val (x := (.v (.int .i64 ((x81.length : Nat) : Int)))) (op_lenL h83 rfl rfl rfl rfl rfl Tryd.underlying31) rfl rfl rfl ?_
        refine Eo.val (x := (.v (.bool (decide (((x81.length : Nat) : Int) > 64))))) rfl rfl rfl rfl ?_
        refine Eo.nil ?_
        refine Ec.cond (t := (decide (((x81.length : Nat) : Int) > 64))) rfl (fun hc126 => ?_) (fun hc126 => ?_)
        · have H := cond_t hc126 H
          refine Ec.seq ?_
          refine Ec.region ?_
          refine Eo.val (x := nilS) rfl rfl rfl rfl ?_
          refine Eo.val (x := (.v (.int .i64 133))) rfl rfl rfl rfl ?_
          refine Eo.nil ?_
          obtain rfl := Option.some.inj H
          refine Ec.ret ?_
          refine Ret.mk rfl ?_
          exact ⟨nilS, rfl, Sl.nil, (Hp.appNil (Hp.drop hp122 0) 48)⟩
        · have H := cond_f hc126 H
          refine Ec.skip ?_
          refine Ec.seq ?_
          refine Ec.region ?_
          refine Eo.val (x := a82) rfl rfl rfl rfl ?_
          refine Eo.val (x := a82) rfl rfl rfl rfl ?_
          refine Eo.val (x := (.v (.int .i64 0))) rfl rfl rfl rfl ?_
          refine Eo.nil ?_
          obtain rfl := Option.some.inj H
          refine Ec.ret ?_
          refine Ret.mk rfl ?_
          exact ⟨a82, rfl, h83, hp122⟩
      · intro x φ128 σ129 hJ
        obtain rfl := Option.some.inj H
        obtain ⟨rfl, hr⟩ := hJ
        exact hr

def gasmtext_lines (n : Nat) (p0 : ByteArray) : Option ((List ByteArray)) := ((splitT p0 (ByteArray.mk #[10])).bind fun r1 => ((atL r1 (IntKind.wrap .i64 (((r1.length : Nat) : Int) - 1))).bind fun x6 => (((cond (decide (x6 = (ByteArray.mk #[]))) (((subL r1 0 (IntKind.wrap .i64 (((r1.length : Nat) : Int) - 1))).bind fun l18 => some l18)) (some r1)) : Option ((List ByteArray))).bind fun x14 => some x14)))

def gasmtext_lines_post (R : List Res) (r : (List ByteArray)) (x : A) (s : St) : Prop := ∃ (a27 : A), x = a27 ∧ Sl rS a27 r ∧ Hp s (R)

theorem gasmtext_lines_ok {n : Nat} {p0 : ByteArray} {R : List Res} {σ : St} (hp : Hp σ R) {r : (List ByteArray)} (H : gasmtext_lines n p0 = some r) : Ca cfg 22 [(.v (.string p0))] σ (gasmtext_lines_post R r) := by
  unfold gasmtext_lines at H
  refine Ca.enterL (G := [(0, (.v (.string p0)))]) Tryd.func22 rfl rfl rfl rfl ?_
  refine Ec.seq ?_
  refine Ec.region ?_
  refine Eo.val (x := nilS) rfl rfl rfl rfl ?_
  refine Eo.nil ?_
  refine Ec.seq ?_
  refine Ec.region ?_
  refine Eo.val (x := (.v (.string p0))) rfl rfl rfl rfl ?_
  obtain ⟨r1, hvr1, H⟩ := bind_some H
  refine Eo.call rfl rfl rfl rfl (prim47_ok hp hvr1) ?_
  rintro a2 σ5 ⟨_, rfl, h3, hp4⟩
  refine Eo.val (x := a2) rfl rfl rfl rfl ?_
  refine Eo.nil ?_
  refine Ec.seq ?_
  refine Ec.seq ?_
  refine Ec.region ?_
  refine Eo.val (x := a2) rfl rfl rfl rfl ?_
  refine Eo.val (x := a2) rfl rfl rfl rfl ?_
  refine Eo.val (x := (.v (.int .i64 ((r1.length : Nat) : Int)))) (op_lenL h3 rfl rfl rfl rfl rfl Tryd.underlying44) rfl rfl rfl ?_
  refine Eo.val (x := (.v (.int .i64 (IntKind.wrap .i64 (((r1.length : Nat) : Int) - 1))))) rfl rfl rfl rfl ?_
  obtain ⟨x6, hvx6, H⟩ := bind_some H
  refine Eo.idx h3 hvx6 rfl rfl rfl Tryd.underlying44 rfl rfl rfl rfl ?_
  rintro cs7 p8 _ hat9 rfl
  refine Eo.val (x := (.v (.string x6))) (op_loadSp hat9 0 rfl rfl rfl rfl rfl) rfl rfl rfl ?_
  refine Eo.val (x := (.v (.bool (decide (x6 = (ByteArray.mk #[])))))) (val_b rfl (seq_eq _ _)) rfl rfl rfl ?_
  refine Eo.nil ?_
  obtain ⟨x14, hv26, H⟩ := bind_some H
  refine Ec.cut (J := (fun (x14 : (List ByteArray)) (x : X) (φ : Fr) (s : St) => x = .normal ∧ (∃ (a15 : A), Sl rS a15 x14 ∧ Hp s (R) ∧ Fl [(3, a15)] φ)) x14) ?_ ?_
  · have H := hv26
    refine Ec.cond (t := (decide (x6 = (ByteArray.mk #[])))) rfl (fun hc17 => ?_) (fun hc17 => ?_)
    · have H := cond_t hc17 H
      refine Ec.region ?_
      refine Eo.val (x := a2) rfl rfl rfl rfl ?_
      refine Eo.val (x := a2) rfl rfl rfl rfl ?_
      refine Eo.val (x := (.v (.int .i64 ((r1.length : Nat) : Int)))) (op_lenL h3 rfl rfl rfl rfl rfl Tryd.underlying44) rfl rfl rfl ?_
      refine Eo.val (x := (.v (.int .i64 (IntKind.wrap .i64 (((r1.length : Nat) : Int) - 1))))) rfl rfl rfl rfl ?_
      obtain ⟨l18, hvl18, H⟩ := bind_some H
      refine Eo.subL h3 hvl18 rfl rfl Tryd.underlying44 rfl (.inl ⟨rfl, rfl⟩) (.inr ⟨_, _, rfl, rfl⟩) rfl rfl rfl ?_
      intro a19 h20
      refine Eo.val (x := a19) rfl rfl rfl rfl ?_
      refine Eo.nil ?_
      obtain rfl := Option.some.inj H
      exact And.intro rfl ⟨a19, h20, hp4, (.cons rfl (.nil'))⟩
    · have H := cond_f hc17 H
      refine Ec.skip ?_
      obtain rfl := Option.some.inj H
      exact And.intro rfl ⟨a2, h3, hp4, (.cons rfl (.nil'))⟩
  · skip
    intro x φ23 σ22 hJ
    obtain ⟨rfl, a15, h16, hp21, hf24⟩ := hJ
    refine Ec.of (F := [(3, a15)]) hf24 ?_
    refine Ec.seq ?_
    refine Ec.region ?_
    refine Eo.val (x := a15) rfl rfl rfl rfl ?_
    refine Eo.val (x := a15) rfl rfl rfl rfl ?_
    refine Eo.nil ?_
    obtain rfl := Option.some.inj H
    refine Ec.ret ?_
    refine Ret.mk rfl ?_
    exact ⟨a15, rfl, h16, hp21⟩

def gasmtext_Parse_L2 (N : Nat) : Nat → (List TTok) → (List ByteArray) → Option (((List TTok) × (List ByteArray)))
  | 0, _, _ => none
  | m + 1, y1058, y1061 => ((gasmtext_labelled N y1058).bind fun r1116 => (cond r1116 (((((atL y1058 0).bind fun x1138 => ((appL 16 y1061 ([x1138.f_Text] : List ByteArray)).bind fun l1146 => some l1146)) : Option ((List ByteArray))).bind fun x1135 => ((subL y1058 2 ((y1058.length : Nat) : Int)).bind fun l1157 => gasmtext_Parse_L2 N m l1157 x1135))) (some (y1058, y1061))))

def gasmtext_Parse_L1 (N : Nat) (r2 : (List ByteArray)) : Nat → (List TLine) → Int → Option (LR (List TLine) ((List TLine) × Int × Int))
  | 0, _, _ => none
  | m + 1, y401, y404 => (cond (decide (y404 < ((r2.length : Nat) : Int))) (((((atL r2 y404).bind fun x995 => ((gasmtext_Words N x995).bind fun v => match v with | (r1000, r1001) => (cond (r1001 != 0) (some (.ret (([] : List TLine), (IntKind.wrap .i64 (y404 + 1)), r1001))) (((gasmtext_Parse_L2 N N r1000 ([] : List ByteArray)).bind fun v => match v with | (x1110, x1113) => (cond ((decide (((x1113.length : Nat) : Int) > 0)) || (decide (((x1110.length : Nat) : Int) > 0))) (((appL 56 y401 ([(TLine.mk (IntKind.wrap .i64 (y404 + 1)) x1113 x1110)] : List TLine)).bind fun l1180 => some (.out l1180))) (some (.out y401)))))))) : Option (LR (List TLine) ((List TLine) × Int × Int))).bind fun v => match v with | .out x992 => gasmtext_Parse_L1 N r2 m x992 (IntKind.wrap .i64 (y404 + 1)) | .ret r1189 => some (.ret r1189))) (some (.out y401)))

def gasmtext_Parse (n : Nat) (p0 : ByteArray) : Option (((List TLine) × Int × Int)) := (cond (decide (((p0.size : Nat) : Int) > 262144)) (some (([] : List TLine), 0, 133)) (((gasmtext_lines n p0).bind fun r2 => (cond (decide (((r2.length : Nat) : Int) > 16384)) (some (([] : List TLine), 0, 133)) (((gasmtext_Parse_L1 n r2 n ([] : List TLine) 0).bind fun v => match v with | .out x798 => some (x798, 0, 0) | .ret r1200 => some r1200))))))

def gasmtext_Parse_post (R : List Res) (r : ((List TLine) × Int × Int)) (x : A) (s : St) : Prop := ∃ (a1203 : A), x = (.tup [a1203, (.v (.int .i64 r.2.1)), (.v (.int .i64 r.2.2))]) ∧ Sl rTLine a1203 r.1 ∧ Hp s (.app a1203 46 :: R)

theorem gasmtext_Parse_ok {n : Nat} {p0 : ByteArray} {R : List Res} {σ : St} (hp : Hp σ R) {r : ((List TLine) × Int × Int)} (H : gasmtext_Parse n p0 = some r) : Ca cfg 10 [(.v (.string p0))] σ (gasmtext_Parse_post R r) := by
  unfold gasmtext_Parse at H
  refine Ca.enterL (G := [(0, (.v (.string p0)))]) Tryd.func10 rfl rfl rfl rfl ?_
  refine Ec.seq ?_
  refine Ec.region ?_
  refine Eo.val (x := nilS) rfl rfl rfl rfl ?_
  refine Eo.val (x := (.v (.int .i64 0))) rfl rfl rfl rfl ?_
  refine Eo.val (x := (.v (.int .i64 0))) rfl rfl rfl rfl ?_
  refine Eo.nil ?_
  refine Ec.seq ?_
  refine Ec.seq ?_
  refine Ec.region ?_
  refine Eo.val (x := (.v (.string p0))) rfl rfl rfl rfl ?_
  refine Eo.val (x := (.v (.int .i64 ((p0.size : Nat) : Int)))) (op_len rfl rfl rfl rfl rfl Tryd.underlying9) rfl rfl rfl ?_
  refine Eo.val (x := (.v (.bool (decide (((p0.size : Nat) : Int) > 262144))))) rfl rfl rfl rfl ?_
  refine Eo.nil ?_
  refine Ec.cond (t := (decide (((p0.size : Nat) : Int) > 262144))) rfl (fun hc1 => ?_) (fun hc1 => ?_)
  · have H := cond_t hc1 H
    refine Ec.seq ?_
    refine Ec.region ?_
    refine Eo.val (x := nilS) rfl rfl rfl rfl ?_
    refine Eo.val (x := (.v (.int .i64 0))) rfl rfl rfl rfl ?_
    refine Eo.val (x := (.v (.int .i64 133))) rfl rfl rfl rfl ?_
    refine Eo.nil ?_
    obtain rfl := Option.some.inj H
    refine Ec.ret ?_
    refine Ret.mk rfl ?_
    exact ⟨nilS, rfl, Sl.nil, (Hp.appNil hp 46)⟩
  · have H := cond_f hc1 H
    refine Ec.skip ?_
    refine Ec.seq ?_
    refine Ec.region ?_
    refine Eo.val (x := (.v (.string p0))) rfl rfl rfl rfl ?_
    obtain ⟨r2, hvr2, H⟩ := bind_some H
    refine Eo.call rfl rfl rfl rfl (gasmtext_lines_ok hp hvr2) ?_
    rintro a3 σ6 ⟨_, rfl, h4, hp5⟩
    refine Eo.val (x := a3) rfl rfl rfl rfl ?_
    refine Eo.nil ?_
    refine Ec.seq ?_
    refine Ec.seq ?_
    refine Ec.region ?_
    refine Eo.val (x := a3) rfl rfl rfl rfl ?_
    refine Eo.val (x := (.v (.int .i64 ((r2.length : Nat) : Int)))) (op_lenL h4 rfl rfl rfl rfl rfl Tryd.underlying44) rfl rfl rfl ?_
    refine Eo.val (x := (.v (.bool (decide (((r2.length : Nat) : Int) > 16384))))) rfl rfl rfl rfl ?_
    refine Eo.nil ?_
    refine Ec.cond (t := (decide (((r2.length : Nat) : Int) > 16384))) rfl (fun hc7 => ?_) (fun hc7 => ?_)
    · have H := cond_t hc7 H
      refine Ec.seq ?_
      refine Ec.region ?_
      refine Eo.val (x := nilS) rfl rfl rfl rfl ?_
      refine Eo.val (x := (.v (.int .i64 0))) rfl rfl rfl rfl ?_
      refine Eo.val (x := (.v (.int .i64 133))) rfl rfl rfl rfl ?_
      refine Eo.nil ?_
      obtain rfl := Option.some.inj H
      refine Ec.ret ?_
      refine Ret.mk rfl ?_
      exact ⟨nilS, rfl, Sl.nil, (Hp.appNil hp5 46)⟩
    · have H := cond_f hc7 H
      refine Ec.skip ?_
      refine Ec.seq ?_
      refine Ec.region ?_
      refine Eo.val (x := nilS) rfl rfl rfl rfl ?_
      refine Eo.nil ?_
      refine Ec.seq ?_
      refine Ec.seq ?_
      refine Ec.region ?_
      refine Eo.val (x := a3) rfl rfl rfl rfl ?_
      refine Eo.val (x := (.v (.int .i64 ((r2.length : Nat) : Int)))) (op_lenL h4 rfl rfl rfl rfl rfl Tryd.underlying44) rfl rfl rfl ?_
      refine Eo.val (x := (.v (.int .i64 0))) rfl rfl rfl rfl ?_
      refine Eo.nil ?_
      refine Ec.block ?_
      obtain ⟨v1194, hv1195, H⟩ := bind_some H
      refine Ec.cut (J := (fun (v : LR (List TLine) ((List TLine) × Int × Int)) (x : X) (φ : Fr) (s : St) => match v with | .out x798 => x = (.exit 0) ∧ (∃ (a799 : A), Sl rTLine a799 x798 ∧ Hp s (.app a799 46 :: R) ∧ Fl [(6, a799)] φ) | .ret r => x = .ret ∧ Ret cfg Tryd.f10 (gasmtext_Parse_post R r) .ret φ s) v1194) (Ec.weak (.cons rfl (.cons rfl (.cons rfl (.cons rfl (.nil'))))) (Ec.loopF (f := (fun m (i : ((List TLine) × Int) × A) => gasmtext_Parse_L1 n r2 m i.1.1 i.1.2)) (G := (fun (i : ((List TLine) × Int) × A) => ([(6, i.2), (20, a3), (21, (.v (.int .i64 ((r2.length : Nat) : Int)))), (22, (.v (.int .i64 i.1.2)))] : List (Nat × A)))) (I := (fun (i : ((List TLine) × Int) × A) (s : St) => Sl rTLine i.2 i.1.1 ∧ Hp s (.app i.2 46 :: R))) (J := (fun (v : LR (List TLine) ((List TLine) × Int × Int)) (x : X) (φ : Fr) (s : St) => match v with | .out x798 => x = (.exit 0) ∧ (∃ (a799 : A), Sl rTLine a799 x798 ∧ Hp s (.app a799 46 :: R) ∧ Fl [(6, a799)] φ) | .ret r => x = .ret ∧ Ret cfg Tryd.f10 (gasmtext_Parse_post R r) .ret φ s)) (fun _ => rfl) ?_ n ((([] : List TLine), 0), nilS) _ v1194 ⟨Sl.nil, (Hp.appNil hp5 46)⟩ hv1195)) ?_
      · rintro m ⟨⟨y401, y404⟩, a402⟩ σ0 v ⟨h403, hp0⟩ H ih
        change gasmtext_Parse_L1 n r2 (m + 1) y401 y404 = some v at H
        rw [gasmtext_Parse_L1] at H
        change Ec _ _ _ [(6, a402), (20, a3), (21, (.v (.int .i64 ((r2.length : Nat) : Int)))), (22, (.v (.int .i64 y404)))] σ0 _
        refine Ec.seq ?_
        refine Ec.region ?_
        refine Eo.val (x := (.v (.bool (decide (y404 < ((r2.length : Nat) : Int)))))) rfl rfl rfl rfl ?_
        refine Eo.nil ?_
        refine Ec.seq ?_
        refine Ec.cond (t := (decide (y404 < ((r2.length : Nat) : Int)))) rfl (fun hc801 => ?_) (fun hc801 => ?_)
        · have H := cond_t hc801 H
          refine Ec.skip ?_
          refine Ec.seq ?_
          obtain ⟨v1192, hv1193, H⟩ := bind_some H
          refine Ec.cut (J := (fun (v : LR (List TLine) ((List TLine) × Int × Int)) (x : X) (φ : Fr) (s : St) => match v with | .out x992 => x = .normal ∧ (∃ (a993 : A), Sl rTLine a993 x992 ∧ Hp s (.app a993 46 :: R) ∧ Fl [(6, a993), (20, a3), (21, (.v (.int .i64 ((r2.length : Nat) : Int)))), (22, (.v (.int .i64 y404)))] φ) | .ret r => x = .ret ∧ Ret cfg Tryd.f10 (gasmtext_Parse_post R r) .ret φ s) v1192) ?_ ?_
          · have H := hv1193
            refine Ec.block ?_
            refine Ec.seq ?_
            refine Ec.region ?_
            refine Eo.val (x := (.v (.int .i64 y404))) rfl rfl rfl rfl ?_
            obtain ⟨x995, hvx995, H⟩ := bind_some H
            refine Eo.idx h4 hvx995 rfl rfl rfl Tryd.underlying44 rfl rfl rfl rfl ?_
            rintro cs996 p997 _ hat998 rfl
            refine Eo.val (x := (.v (.string x995))) (op_loadSp hat998 0 rfl rfl rfl rfl rfl) rfl rfl rfl ?_
            refine Eo.val (x := (.v (.int .i64 y404))) rfl rfl rfl rfl ?_
            refine Eo.val (x := (.v (.string x995))) rfl rfl rfl rfl ?_
            refine Eo.nil ?_
            refine Ec.seq ?_
            refine Ec.region ?_
            refine Eo.val (x := (.v (.string x995))) rfl rfl rfl rfl ?_
            obtain ⟨r999, hvr999, H⟩ := bind_some H
            refine Eo.call rfl rfl rfl rfl (gasmtext_Words_ok hp0 hvr999) ?_
            obtain ⟨r1000, r1001⟩ := r999
            rintro _ σ1005 ⟨a1002, rfl, h1003, hp1004⟩
            change Hp σ1005 (.app a1002 48 :: .app a402 46 :: R) at hp1004
            refine Eo.val (x := (.tup [a1002, (.v (.int .i64 r1001))])) rfl rfl rfl rfl ?_
            refine Eo.val (x := a1002) rfl rfl rfl rfl ?_
            refine Eo.val (x := (.v (.int .i64 r1001))) rfl rfl rfl rfl ?_
            refine Eo.val (x := a1002) rfl rfl rfl rfl ?_
            refine Eo.val (x := (.v (.int .i64 r1001))) rfl rfl rfl rfl ?_
            refine Eo.nil ?_
            refine Ec.seq ?_
            refine Ec.seq ?_
            refine Ec.region ?_
            refine Eo.val (x := (.v (.int .i64 r1001))) rfl rfl rfl rfl ?_
            refine Eo.val (x := (.v (.bool (r1001 != 0)))) rfl rfl rfl rfl ?_
            refine Eo.nil ?_
            refine Ec.cond (t := (r1001 != 0)) rfl (fun hc1006 => ?_) (fun hc1006 => ?_)
            · have H := cond_t hc1006 H
              refine Ec.seq ?_
              refine Ec.region ?_
              refine Eo.val (x := (.v (.int .i64 y404))) rfl rfl rfl rfl ?_
              refine Eo.val (x := (.v (.int .i64 (IntKind.wrap .i64 (y404 + 1))))) rfl rfl rfl rfl ?_
              refine Eo.val (x := (.v (.int .i64 r1001))) rfl rfl rfl rfl ?_
              refine Eo.val (x := nilS) rfl rfl rfl rfl ?_
              refine Eo.val (x := (.v (.int .i64 (IntKind.wrap .i64 (y404 + 1))))) rfl rfl rfl rfl ?_
              refine Eo.val (x := (.v (.int .i64 r1001))) rfl rfl rfl rfl ?_
              refine Eo.nil ?_
              obtain rfl := Option.some.inj H
              refine Ec.ret ?_
              refine And.intro rfl (Ret.mk rfl ?_)
              exact ⟨nilS, rfl, Sl.nil, (Hp.appNil (Hp.drop (Hp.drop hp1004 0) 0) 46)⟩
            · have H := cond_f hc1006 H
              refine Ec.skip ?_
              refine Ec.seq ?_
              refine Ec.region ?_
              refine Eo.val (x := (.v (.int .i64 y404))) rfl rfl rfl rfl ?_
              refine Eo.val (x := (.v (.int .i64 (IntKind.wrap .i64 (y404 + 1))))) rfl rfl rfl rfl ?_
              refine Eo.val (x := (.agg [(.v (.int .i64 (IntKind.wrap .i64 (y404 + 1)))), nilS, nilS])) (op_build (lay_cons rfl rfl rfl rfl rfl lay_nil) rfl (parts_cons rfl rfl rfl) Tryd.underlying46 rfl rfl) rfl rfl rfl ?_
              refine Eo.alloc (z := [(.v (.int .i64 0)), nilS, nilS]) hp1004 rfl rfl rfl rfl rfl ?_
              intro b1007 σ1009 hp1008
              refine Eo.store hp1008 0 rfl (storeCells_mk rfl rfl rfl rfl rfl rfl) rfl rfl rfl rfl rfl ?_
              intro σ1011 hp1010
              change Hp σ1011 (.blk b1007 (.cells [(.v (.int .i64 (IntKind.wrap .i64 (y404 + 1)))), nilS, nilS] 46) :: .app a1002 48 :: .app a402 46 :: R) at hp1010
              refine Eo.nil ?_
              refine Ec.seq ?_
              refine Ec.block ?_
              obtain ⟨v1162, hv1163, H⟩ := bind_some H
              refine Ec.cut (J := (fun (v : ((List TTok) × (List ByteArray))) (x : X) (φ : Fr) (s : St) => match v with | (x1110, x1113) => x = (.exit 2) ∧ (∃ (a1111 a1114 : A), Sl rTTok a1111 x1110 ∧ Sl rS a1114 x1113 ∧ Hp s (.blk b1007 (.cells [(.v (.int .i64 (IntKind.wrap .i64 (y404 + 1)))), a1114, nilS] 46) :: .app a402 46 :: .app a1114 9 :: R) ∧ Fl [(6, a402), (9, a1111), (11, (.ptr b1007 0)), (20, a3), (21, (.v (.int .i64 ((r2.length : Nat) : Int)))), (22, (.v (.int .i64 y404)))] φ)) v1162) (Ec.weak (.cons rfl (.cons rfl (.cons rfl (.cons rfl (.cons rfl (.cons rfl (.nil'))))))) (Ec.loopF (f := (fun m (i : ((List TTok) × (List ByteArray)) × (A × A)) => gasmtext_Parse_L2 n m i.1.1 i.1.2)) (G := (fun (i : ((List TTok) × (List ByteArray)) × (A × A)) => ([(6, a402), (9, i.2.1), (11, (.ptr b1007 0)), (20, a3), (21, (.v (.int .i64 ((r2.length : Nat) : Int)))), (22, (.v (.int .i64 y404)))] : List (Nat × A)))) (I := (fun (i : ((List TTok) × (List ByteArray)) × (A × A)) (s : St) => Sl rTTok i.2.1 i.1.1 ∧ Sl rS i.2.2 i.1.2 ∧ Hp s (.blk b1007 (.cells [(.v (.int .i64 (IntKind.wrap .i64 (y404 + 1)))), i.2.2, nilS] 46) :: .app a402 46 :: .app i.2.2 9 :: R))) (J := (fun (v : ((List TTok) × (List ByteArray))) (x : X) (φ : Fr) (s : St) => match v with | (x1110, x1113) => x = (.exit 2) ∧ (∃ (a1111 a1114 : A), Sl rTTok a1111 x1110 ∧ Sl rS a1114 x1113 ∧ Hp s (.blk b1007 (.cells [(.v (.int .i64 (IntKind.wrap .i64 (y404 + 1)))), a1114, nilS] 46) :: .app a402 46 :: .app a1114 9 :: R) ∧ Fl [(6, a402), (9, a1111), (11, (.ptr b1007 0)), (20, a3), (21, (.v (.int .i64 ((r2.length : Nat) : Int)))), (22, (.v (.int .i64 y404)))] φ))) (fun _ => rfl) ?_ n ((r1000, ([] : List ByteArray)), (a1002, nilS)) _ v1162 ⟨h1003, Sl.nil, (Hp.front (Hp.front (Hp.appNil (Hp.drop hp1010 1) 9) 2) 2)⟩ hv1163)) ?_
              · rintro m ⟨⟨y1058, y1061⟩, ⟨a1059, a1062⟩⟩ σ0 v ⟨h1060, h1063, hp0⟩ H ih
                change gasmtext_Parse_L2 n (m + 1) y1058 y1061 = some v at H
                rw [gasmtext_Parse_L2] at H
                change Ec _ _ _ [(6, a402), (9, a1059), (11, (.ptr b1007 0)), (20, a3), (21, (.v (.int .i64 ((r2.length : Nat) : Int)))), (22, (.v (.int .i64 y404)))] σ0 _
                refine Ec.seq ?_
                refine Ec.seq ?_
                refine Ec.region ?_
                refine Eo.val (x := a1059) rfl rfl rfl rfl ?_
                obtain ⟨r1116, hvr1116, H⟩ := bind_some H
                refine Eo.call rfl rfl rfl rfl (gasmtext_labelled_ok h1060 hp0 hvr1116) ?_
                rintro _ σ1118 ⟨rfl, hp1117⟩
                refine Eo.nil ?_
                refine Ec.cond (t := r1116) rfl (fun hc1119 => ?_) (fun hc1119 => ?_)
                · have H := cond_t hc1119 H
                  refine Ec.skip ?_
                  refine Ec.block ?_
                  refine Ec.seq ?_
                  obtain ⟨x1135, hv1161, H⟩ := bind_some H
                  refine Ec.cut (J := (fun (x1135 : (List ByteArray)) (x : X) (φ : Fr) (s : St) => x = .normal ∧ (∃ (a1136 : A), Sl rS a1136 x1135 ∧ Hp s (.blk b1007 (.cells [(.v (.int .i64 (IntKind.wrap .i64 (y404 + 1)))), a1136, nilS] 46) :: .app a402 46 :: .app a1136 9 :: R) ∧ Fl [(6, a402), (9, a1059), (11, (.ptr b1007 0)), (20, a3), (21, (.v (.int .i64 ((r2.length : Nat) : Int)))), (22, (.v (.int .i64 y404)))] φ)) x1135) ?_ ?_
                  · have H := hv1161
                    refine Ec.drawn (by kernel_rfl) ?_
                    refine Eo.val (x := (.ptr b1007 1)) rfl rfl rfl rfl ?_
                    refine Eo.val (x := a1062) (op_loadB hp1117 0 rfl rfl rfl rfl) rfl rfl rfl ?_
                    refine Eo.val (x := a1059) rfl rfl rfl rfl ?_
                    obtain ⟨x1138, hvx1138, H⟩ := bind_some H
                    refine Eo.idx h1060 hvx1138 rfl rfl rfl Tryd.underlying31 rfl rfl rfl rfl ?_
                    rintro cs1139 p1140 _ hat1141 rfl
                    refine Eo.val (x := (.sp cs1139 (p1140 + 1) .no)) rfl rfl rfl rfl ?_
                    refine Eo.val (x := (.v (.string x1138.f_Text))) (op_loadSp hat1141 1 rfl rfl rfl rfl rfl) rfl rfl rfl ?_
                    refine Eo.val (x := (.sl 1 [(.v (.string x1138.f_Text))] .ex)) (op_buildS (lay_cons rfl rfl rfl rfl rfl lay_nil) rfl (parts_cons rfl rfl rfl) Tryd.underlying44 rfl rfl rfl rfl (by decide) rfl) rfl rfl rfl ?_
                    have h1145 : Sl rS (.sl 1 [(.v (.string x1138.f_Text))] .ex) ([x1138.f_Text] : List ByteArray) := .inr ⟨_, _, rfl, (.cons (c := [(.v (.string x1138.f_Text))]) rfl .nil)⟩
                    have hp1144 := Hp.appEx hp1117 9 1 [(.v (.string x1138.f_Text))]
                    obtain ⟨l1146, hvl1146, H⟩ := bind_some H
                    refine Eo.append hp1144 3 rfl h1063 (New.of h1145) hvl1146 rfl rfl rfl rfl rfl rfl rfl Tryd.underlying44 rfl Tryd.underlying44 rfl rfl rfl rfl rfl rfl rfl rfl ?_
                    intro a1147 σ1150 h1148 hp1149
                    change Hp σ1150 (.app (.sl 1 [(.v (.string x1138.f_Text))] .ex) 9 :: .blk b1007 (.cells [(.v (.int .i64 (IntKind.wrap .i64 (y404 + 1)))), a1062, nilS] 46) :: .app a402 46 :: .app a1147 9 :: R) at hp1149
                    refine Eo.val (x := (.ptr b1007 1)) rfl rfl rfl rfl ?_
                    refine Eo.store hp1149 1 rfl (storeCells_mk (h1148.cells) rfl rfl (by simp [allOne, A.cells, h1148.isOne]) rfl rfl) rfl rfl rfl rfl rfl ?_
                    intro σ1152 hp1151
                    change Hp σ1152 (.app (.sl 1 [(.v (.string x1138.f_Text))] .ex) 9 :: .blk b1007 (.cells [(.v (.int .i64 (IntKind.wrap .i64 (y404 + 1)))), a1147, nilS] 46) :: .app a402 46 :: .app a1147 9 :: R) at hp1151
                    refine Eo.nil ?_
                    obtain rfl := Option.some.inj H
                    exact And.intro rfl (And.intro rfl ⟨a1147, h1148, (Hp.front (Hp.front (Hp.front (Hp.drop hp1151 0) 2) 2) 2), (.cons rfl (.cons rfl (.cons rfl (.cons rfl (.cons rfl (.cons rfl (.nil')))))))⟩)
                  · skip
                    intro x φ1155 σ1154 hJ
                    obtain ⟨rfl, a1136, h1137, hp1153, hf1156⟩ := hJ
                    refine Ec.of (F := [(6, a402), (9, a1059), (11, (.ptr b1007 0)), (20, a3), (21, (.v (.int .i64 ((r2.length : Nat) : Int)))), (22, (.v (.int .i64 y404)))]) hf1156 ?_
                    refine Ec.region ?_
                    refine Eo.val (x := a1059) rfl rfl rfl rfl ?_
                    obtain ⟨l1157, hvl1157, H⟩ := bind_some H
                    refine Eo.subL h1060 hvl1157 rfl rfl Tryd.underlying31 rfl (.inr ⟨_, _, rfl, rfl⟩) (.inl ⟨rfl, rfl⟩) rfl rfl rfl ?_
                    intro a1158 h1159
                    refine Eo.val (x := a1158) rfl rfl rfl rfl ?_
                    refine Eo.nil ?_
                    exact Ec.of (.cons rfl (.cons rfl (.cons rfl (.cons rfl (.cons rfl (.cons rfl (.nil'))))))) (ih ((l1157, x1135), (a1158, a1136)) _ ⟨h1159, h1137, (Hp.front (Hp.front (Hp.front hp1153 2) 2) 2)⟩ H)
                · have H := cond_f hc1119 H
                  refine Ec.exit ?_
                  obtain rfl := Option.some.inj H
                  exact And.intro rfl ⟨a1059, a1062, h1060, h1063, (Hp.front (Hp.front (Hp.front hp1117 2) 2) 2), (.cons rfl (.cons rfl (.cons rfl (.cons rfl (.cons rfl (.cons rfl (.nil')))))))⟩
              · skip
                intro x φ1166 σ1165 hJ
                obtain ⟨x1110, x1113⟩ := v1162
                obtain ⟨rfl, a1111, a1114, h1112, h1115, hp1164, hf1167⟩ := hJ
                refine Ec.of (F := [(6, a402), (9, a1111), (11, (.ptr b1007 0)), (20, a3), (21, (.v (.int .i64 ((r2.length : Nat) : Int)))), (22, (.v (.int .i64 y404)))]) hf1167 ?_
                refine Ec.seq ?_
                refine Ec.region ?_
                refine Eo.val (x := a1111) rfl rfl rfl rfl ?_
                refine Eo.val (x := (.ptr b1007 2)) rfl rfl rfl rfl ?_
                refine Eo.store hp1164 0 rfl (storeCells_mk (h1112.cells) rfl rfl (by simp [allOne, A.cells, h1112.isOne]) rfl rfl) rfl rfl rfl rfl rfl ?_
                intro σ1169 hp1168
                change Hp σ1169 (.blk b1007 (.cells [(.v (.int .i64 (IntKind.wrap .i64 (y404 + 1)))), a1114, a1111] 46) :: .app a402 46 :: .app a1114 9 :: R) at hp1168
                refine Eo.nil ?_
                refine Ec.seq ?_
                refine Ec.region ?_
                refine Eo.val (x := (.ptr b1007 1)) rfl rfl rfl rfl ?_
                refine Eo.val (x := a1114) (op_loadB hp1168 0 rfl rfl rfl rfl) rfl rfl rfl ?_
                refine Eo.val (x := (.v (.int .i64 ((x1113.length : Nat) : Int)))) (op_lenL h1115 rfl rfl rfl rfl rfl Tryd.underlying44) rfl rfl rfl ?_
                refine Eo.val (x := (.v (.bool (decide (((x1113.length : Nat) : Int) > 0))))) rfl rfl rfl rfl ?_
                refine Eo.val (x := (.v (.bool (decide (((x1113.length : Nat) : Int) > 0))))) rfl rfl rfl rfl ?_
                refine Eo.cutF 5 [(6, a402), (11, (.ptr b1007 0)), (20, a3), (21, (.v (.int .i64 ((r2.length : Nat) : Int)))), (22, (.v (.int .i64 y404))), (64, (.v (.bool ((decide (((x1113.length : Nat) : Int) > 0)) || (decide (((x1110.length : Nat) : Int) > 0))))))] ?_ ?_
                · skip
                  cases hc1172 : (decide (((x1113.length : Nat) : Int) > 0))
                  · skip
                    refine Eo.val (x := (.ptr b1007 2)) rfl rfl rfl rfl ?_
                    refine Eo.val (x := a1111) (op_loadB hp1168 0 rfl rfl rfl rfl) rfl rfl rfl ?_
                    refine Eo.val (x := (.v (.int .i64 ((x1110.length : Nat) : Int)))) (op_lenL h1112 rfl rfl rfl rfl rfl Tryd.underlying31) rfl rfl rfl ?_
                    refine Eo.val (x := (.v (.bool (decide (((x1110.length : Nat) : Int) > 0))))) rfl rfl rfl rfl ?_
                    refine Eo.val (x := (.v (.bool (decide (((x1110.length : Nat) : Int) > 0))))) rfl rfl rfl rfl ?_
                    exact Eo.nil (And.intro rfl (And.intro rfl (.cons rfl (.cons rfl (.cons rfl (.cons rfl (.cons rfl (.cons rfl (.nil')))))))))
                  · skip
                    refine Eo.off rfl rfl rfl ?_
                    refine Eo.off rfl rfl rfl ?_
                    refine Eo.off rfl rfl rfl ?_
                    refine Eo.off rfl rfl rfl ?_
                    refine Eo.val (x := (.v (.bool true))) rfl rfl rfl rfl ?_
                    exact Eo.nil (And.intro rfl (And.intro rfl (.cons rfl (.cons rfl (.cons rfl (.cons rfl (.cons rfl (.cons rfl (.nil')))))))))
                · skip
                  refine Eo.nil ?_
                  refine Ec.cond (t := ((decide (((x1113.length : Nat) : Int) > 0)) || (decide (((x1110.length : Nat) : Int) > 0)))) rfl (fun hc1175 => ?_) (fun hc1175 => ?_)
                  · have H := cond_t hc1175 H
                    refine Ec.region ?_
                    refine Eo.val (x := a402) rfl rfl rfl rfl ?_
                    refine Eo.val (x := (.agg [(.v (.int .i64 (IntKind.wrap .i64 (y404 + 1)))), a1114, a1111])) (op_loadB hp1168 0 rfl rfl rfl rfl) rfl rfl rfl ?_
                    refine Eo.val (x := (.sl 3 [(.v (.int .i64 (IntKind.wrap .i64 (y404 + 1)))), a1114, a1111] .ex)) (op_buildS (lay_cons rfl rfl rfl rfl rfl lay_nil) rfl (parts_cons rfl rfl rfl) Tryd.underlying23 rfl rfl rfl rfl (by decide) rfl) rfl rfl rfl ?_
                    have h1179 : Sl rTLine (.sl 3 [(.v (.int .i64 (IntKind.wrap .i64 (y404 + 1)))), a1114, a1111] .ex) ([(TLine.mk (IntKind.wrap .i64 (y404 + 1)) x1113 x1110)] : List TLine) := .inr ⟨_, _, rfl, (.cons (c := [(.v (.int .i64 (IntKind.wrap .i64 (y404 + 1)))), a1114, a1111]) ⟨a1114, a1111, rfl, h1115, h1112⟩ .nil)⟩
                    have hp1178 := Hp.appEx hp1168 46 3 [(.v (.int .i64 (IntKind.wrap .i64 (y404 + 1)))), a1114, a1111]
                    obtain ⟨l1180, hvl1180, H⟩ := bind_some H
                    refine Eo.append hp1178 2 rfl h403 (New.of h1179) hvl1180 rfl rfl rfl rfl rfl rfl rfl Tryd.underlying23 rfl Tryd.underlying23 rfl rfl rfl rfl rfl rfl rfl rfl ?_
                    intro a1181 σ1184 h1182 hp1183
                    change Hp σ1184 (.app (.sl 3 [(.v (.int .i64 (IntKind.wrap .i64 (y404 + 1)))), a1114, a1111] .ex) 46 :: .blk b1007 (.cells [(.v (.int .i64 (IntKind.wrap .i64 (y404 + 1)))), a1114, a1111] 46) :: .app a1181 46 :: .app a1114 9 :: R) at hp1183
                    refine Eo.val (x := a1181) rfl rfl rfl rfl ?_
                    refine Eo.nil ?_
                    obtain rfl := Option.some.inj H
                    exact And.intro rfl ⟨a1181, h1182, (Hp.drop (Hp.drop (Hp.drop hp1183 0) 0) 1), (.cons rfl (.cons rfl (.cons rfl (.cons rfl (.nil')))))⟩
                  · have H := cond_f hc1175 H
                    refine Ec.skip ?_
                    obtain rfl := Option.some.inj H
                    exact And.intro rfl ⟨a402, h403, (Hp.drop (Hp.drop hp1168 0) 1), (.cons rfl (.cons rfl (.cons rfl (.cons rfl (.nil')))))⟩
          · rcases v1192 with x992 | r1189
            · intro x φ1187 σ1186 hJ
              obtain ⟨rfl, a993, h994, hp1185, hf1188⟩ := hJ
              refine Ec.of (F := [(6, a993), (20, a3), (21, (.v (.int .i64 ((r2.length : Nat) : Int)))), (22, (.v (.int .i64 y404)))]) hf1188 ?_
              refine Ec.region ?_
              refine Eo.val (x := (.v (.int .i64 (IntKind.wrap .i64 (y404 + 1))))) rfl rfl rfl rfl ?_
              refine Eo.val (x := (.v (.int .i64 (IntKind.wrap .i64 (y404 + 1))))) rfl rfl rfl rfl ?_
              refine Eo.nil ?_
              exact Ec.of (.cons rfl (.cons rfl (.cons rfl (.cons rfl (.nil'))))) (ih ((x992, (IntKind.wrap .i64 (y404 + 1))), a993) _ ⟨h994, hp1185⟩ H)
            · intro x φ1190 σ1191 hJ
              obtain rfl := Option.some.inj H
              obtain ⟨rfl, hr⟩ := hJ
              exact And.intro rfl hr
        · have H := cond_f hc801 H
          refine Ec.exit ?_
          obtain rfl := Option.some.inj H
          exact And.intro rfl ⟨a402, h403, hp0, (.cons rfl (.nil'))⟩
      · rcases v1194 with x798 | r1200
        · intro x φ1198 σ1197 hJ
          obtain ⟨rfl, a799, h800, hp1196, hf1199⟩ := hJ
          refine Ec.of (F := [(6, a799)]) hf1199 ?_
          refine Ec.seq ?_
          refine Ec.region ?_
          refine Eo.val (x := a799) rfl rfl rfl rfl ?_
          refine Eo.val (x := a799) rfl rfl rfl rfl ?_
          refine Eo.val (x := (.v (.int .i64 0))) rfl rfl rfl rfl ?_
          refine Eo.val (x := (.v (.int .i64 0))) rfl rfl rfl rfl ?_
          refine Eo.nil ?_
          obtain rfl := Option.some.inj H
          refine Ec.ret ?_
          refine Ret.mk rfl ?_
          exact ⟨a799, rfl, h800, hp1196⟩
        · intro x φ1201 σ1202 hJ
          obtain rfl := Option.some.inj H
          obtain ⟨rfl, hr⟩ := hJ
          exact hr

def gdovetaillaw13_asmtextAlive (n : Nat) : Option (Bool) := ((gasmtext_Parse n (ByteArray.mk #[108, 111, 111, 112, 58, 32, 97, 100, 100, 105, 32, 97, 48, 44, 32, 97, 48, 44, 32, 45, 49, 32, 35, 32, 100, 111, 119, 110])).bind fun v => match v with | (r2, r3, r4) => (((cond ((r4 == 0) && (((r2.length : Nat) : Int) == 1)) (((atL r2 0).bind fun x25 => some (x25.f_No == 1))) (some false)) : Option (Bool)).bind fun x23 => (((cond x23 (((atL r2 0).bind fun x48 => some (((x48.f_Labels.length : Nat) : Int) == 1))) (some false)) : Option (Bool)).bind fun x46 => (((cond x46 (((atL r2 0).bind fun x75 => ((atL x75.f_Labels 0).bind fun x83 => some (decide (x83 = (ByteArray.mk #[108, 111, 111, 112])))))) (some false)) : Option (Bool)).bind fun x73 => (((cond x73 (((atL r2 0).bind fun x102 => some (((x102.f_Toks.length : Nat) : Int) == 7))) (some false)) : Option (Bool)).bind fun x100 => (((cond x100 (((atL r2 0).bind fun x129 => ((atL x129.f_Toks 6).bind fun x137 => some (decide (x137.f_Text = (ByteArray.mk #[49])))))) (some false)) : Option (Bool)).bind fun x127 => some x127))))))

def gdovetaillaw13_asmtextAlive_post (R : List Res) (r : Bool) (x : A) (s : St) : Prop := x = (.v (.bool r)) ∧ Hp s (R)

theorem gdovetaillaw13_asmtextAlive_ok {n : Nat} {R : List Res} {σ : St} (hp : Hp σ R) {r : Bool} (H : gdovetaillaw13_asmtextAlive n = some r) : Ca cfg 8 [] σ (gdovetaillaw13_asmtextAlive_post R r) := by
  unfold gdovetaillaw13_asmtextAlive at H
  refine Ca.enterL (G := []) Tryd.func8 rfl rfl rfl rfl ?_
  refine Ec.seq ?_
  refine Ec.region ?_
  refine Eo.val (x := (.v (.bool false))) rfl rfl rfl rfl ?_
  refine Eo.nil ?_
  refine Ec.seq ?_
  refine Ec.region ?_
  obtain ⟨r1, hvr1, H⟩ := bind_some H
  refine Eo.call rfl rfl rfl rfl (gasmtext_Parse_ok hp hvr1) ?_
  obtain ⟨r2, r3, r4⟩ := r1
  rintro _ σ8 ⟨a5, rfl, h6, hp7⟩
  change Hp σ8 (.app a5 46 :: R) at hp7
  refine Eo.val (x := (.tup [a5, (.v (.int .i64 r3)), (.v (.int .i64 r4))])) rfl rfl rfl rfl ?_
  refine Eo.val (x := a5) rfl rfl rfl rfl ?_
  refine Eo.val (x := (.v (.int .i64 r3))) rfl rfl rfl rfl ?_
  refine Eo.val (x := (.v (.int .i64 r4))) rfl rfl rfl rfl ?_
  refine Eo.val (x := a5) rfl rfl rfl rfl ?_
  refine Eo.val (x := (.v (.int .i64 r3))) rfl rfl rfl rfl ?_
  refine Eo.val (x := (.v (.int .i64 r4))) rfl rfl rfl rfl ?_
  refine Eo.nil ?_
  refine Ec.seq ?_
  refine Ec.region ?_
  refine Eo.val (x := (.v (.int .i64 r4))) rfl rfl rfl rfl ?_
  refine Eo.val (x := (.v (.bool (r4 == 0)))) rfl rfl rfl rfl ?_
  refine Eo.val (x := (.v (.bool (r4 == 0)))) rfl rfl rfl rfl ?_
  refine Eo.cutF 4 [(0, (.v (.bool false))), (1, a5), (15, (.v (.bool ((r4 == 0) && (((r2.length : Nat) : Int) == 1)))))] ?_ ?_
  · skip
    cases hc11 : (r4 == 0)
    · skip
      refine Eo.off rfl rfl rfl ?_
      refine Eo.off rfl rfl rfl ?_
      refine Eo.off rfl rfl rfl ?_
      refine Eo.val (x := (.v (.bool false))) rfl rfl rfl rfl ?_
      exact Eo.nil (And.intro rfl (And.intro rfl (.cons rfl (.cons rfl (.cons rfl (.nil'))))))
    · skip
      refine Eo.val (x := a5) rfl rfl rfl rfl ?_
      refine Eo.val (x := (.v (.int .i64 ((r2.length : Nat) : Int)))) (op_lenL h6 rfl rfl rfl rfl rfl Tryd.underlying23) rfl rfl rfl ?_
      refine Eo.val (x := (.v (.bool (((r2.length : Nat) : Int) == 1)))) rfl rfl rfl rfl ?_
      refine Eo.val (x := (.v (.bool (((r2.length : Nat) : Int) == 1)))) rfl rfl rfl rfl ?_
      exact Eo.nil (And.intro rfl (And.intro rfl (.cons rfl (.cons rfl (.cons rfl (.nil'))))))
  · skip
    refine Eo.val (x := (.v (.bool ((r4 == 0) && (((r2.length : Nat) : Int) == 1))))) rfl rfl rfl rfl ?_
    obtain ⟨x23, hv154, H⟩ := bind_some H
    refine Eo.cutN 6 (J := (fun (x23 : Bool) (x : X) (φ : Fr) (s : St) => x = .normal ∧ (Hp s (.app a5 46 :: R) ∧ Fl [(0, (.v (.bool false))), (1, a5), (22, (.v (.bool x23)))] φ)) x23) ?_ ?_
    · have H := hv154
      cases hc24 : ((r4 == 0) && (((r2.length : Nat) : Int) == 1))
      · have H := cond_f hc24 H
        refine Eo.off rfl rfl rfl ?_
        refine Eo.off rfl rfl rfl ?_
        refine Eo.off rfl rfl rfl ?_
        refine Eo.off rfl rfl rfl ?_
        refine Eo.off rfl rfl rfl ?_
        refine Eo.val (x := (.v (.bool false))) rfl rfl rfl rfl ?_
        refine Eo.nil ?_
        obtain rfl := Option.some.inj H
        exact And.intro rfl ⟨hp7, (.cons rfl (.cons rfl (.cons rfl (.nil'))))⟩
      · have H := cond_t hc24 H
        refine Eo.val (x := a5) rfl rfl rfl rfl ?_
        obtain ⟨x25, hvx25, H⟩ := bind_some H
        refine Eo.idx h6 hvx25 rfl rfl rfl Tryd.underlying23 rfl rfl rfl rfl ?_
        rintro cs26 p27 _ hat28 ⟨a29, a31, rfl, h30, h32⟩
        refine Eo.val (x := (.sp cs26 p27 .no)) rfl rfl rfl rfl ?_
        refine Eo.val (x := (.v (.int .i64 x25.f_No))) (op_loadSp hat28 0 rfl rfl rfl rfl rfl) rfl rfl rfl ?_
        refine Eo.val (x := (.v (.bool (x25.f_No == 1)))) rfl rfl rfl rfl ?_
        refine Eo.val (x := (.v (.bool (x25.f_No == 1)))) rfl rfl rfl rfl ?_
        refine Eo.nil ?_
        obtain rfl := Option.some.inj H
        exact And.intro rfl ⟨hp7, (.cons rfl (.cons rfl (.cons rfl (.nil'))))⟩
    · skip
      intro x φ35 σ34 hJ
      obtain ⟨rfl, hp33, hf36⟩ := hJ
      refine ⟨rfl, Eo.of (F := [(0, (.v (.bool false))), (1, a5), (22, (.v (.bool x23)))]) hf36 ?_⟩
      refine Eo.val (x := (.v (.bool x23))) rfl rfl rfl rfl ?_
      obtain ⟨x46, hv152, H⟩ := bind_some H
      refine Eo.cutN 7 (J := (fun (x46 : Bool) (x : X) (φ : Fr) (s : St) => x = .normal ∧ (Hp s (.app a5 46 :: R) ∧ Fl [(0, (.v (.bool false))), (1, a5), (30, (.v (.bool x46)))] φ)) x46) ?_ ?_
      · have H := hv152
        cases hc47 : x23
        · have H := cond_f hc47 H
          refine Eo.off rfl rfl rfl ?_
          refine Eo.off rfl rfl rfl ?_
          refine Eo.off rfl rfl rfl ?_
          refine Eo.off rfl rfl rfl ?_
          refine Eo.off rfl rfl rfl ?_
          refine Eo.off rfl rfl rfl ?_
          refine Eo.val (x := (.v (.bool false))) rfl rfl rfl rfl ?_
          refine Eo.nil ?_
          obtain rfl := Option.some.inj H
          exact And.intro rfl ⟨hp33, (.cons rfl (.cons rfl (.cons rfl (.nil'))))⟩
        · have H := cond_t hc47 H
          refine Eo.val (x := a5) rfl rfl rfl rfl ?_
          obtain ⟨x48, hvx48, H⟩ := bind_some H
          refine Eo.idx h6 hvx48 rfl rfl rfl Tryd.underlying23 rfl rfl rfl rfl ?_
          rintro cs49 p50 _ hat51 ⟨a52, a54, rfl, h53, h55⟩
          refine Eo.val (x := (.sp cs49 (p50 + 1) .no)) rfl rfl rfl rfl ?_
          refine Eo.val (x := a52) (op_loadSp hat51 1 rfl rfl rfl rfl rfl) rfl rfl rfl ?_
          refine Eo.val (x := (.v (.int .i64 ((x48.f_Labels.length : Nat) : Int)))) (op_lenL h53 rfl rfl rfl rfl rfl Tryd.underlying44) rfl rfl rfl ?_
          refine Eo.val (x := (.v (.bool (((x48.f_Labels.length : Nat) : Int) == 1)))) rfl rfl rfl rfl ?_
          refine Eo.val (x := (.v (.bool (((x48.f_Labels.length : Nat) : Int) == 1)))) rfl rfl rfl rfl ?_
          refine Eo.nil ?_
          obtain rfl := Option.some.inj H
          exact And.intro rfl ⟨hp33, (.cons rfl (.cons rfl (.cons rfl (.nil'))))⟩
      · skip
        intro x φ58 σ57 hJ
        obtain ⟨rfl, hp56, hf59⟩ := hJ
        refine ⟨rfl, Eo.of (F := [(0, (.v (.bool false))), (1, a5), (30, (.v (.bool x46)))]) hf59 ?_⟩
        refine Eo.val (x := (.v (.bool x46))) rfl rfl rfl rfl ?_
        obtain ⟨x73, hv150, H⟩ := bind_some H
        refine Eo.cutN 8 (J := (fun (x73 : Bool) (x : X) (φ : Fr) (s : St) => x = .normal ∧ (Hp s (.app a5 46 :: R) ∧ Fl [(0, (.v (.bool false))), (1, a5), (39, (.v (.bool x73)))] φ)) x73) ?_ ?_
        · have H := hv150
          cases hc74 : x46
          · have H := cond_f hc74 H
            refine Eo.off rfl rfl rfl ?_
            refine Eo.off rfl rfl rfl ?_
            refine Eo.off rfl rfl rfl ?_
            refine Eo.off rfl rfl rfl ?_
            refine Eo.off rfl rfl rfl ?_
            refine Eo.off rfl rfl rfl ?_
            refine Eo.off rfl rfl rfl ?_
            refine Eo.val (x := (.v (.bool false))) rfl rfl rfl rfl ?_
            refine Eo.nil ?_
            obtain rfl := Option.some.inj H
            exact And.intro rfl ⟨hp56, (.cons rfl (.cons rfl (.cons rfl (.nil'))))⟩
          · have H := cond_t hc74 H
            refine Eo.val (x := a5) rfl rfl rfl rfl ?_
            obtain ⟨x75, hvx75, H⟩ := bind_some H
            refine Eo.idx h6 hvx75 rfl rfl rfl Tryd.underlying23 rfl rfl rfl rfl ?_
            rintro cs76 p77 _ hat78 ⟨a79, a81, rfl, h80, h82⟩
            refine Eo.val (x := (.sp cs76 (p77 + 1) .no)) rfl rfl rfl rfl ?_
            refine Eo.val (x := a79) (op_loadSp hat78 1 rfl rfl rfl rfl rfl) rfl rfl rfl ?_
            obtain ⟨x83, hvx83, H⟩ := bind_some H
            refine Eo.idx h80 hvx83 rfl rfl rfl Tryd.underlying44 rfl rfl rfl rfl ?_
            rintro cs84 p85 _ hat86 rfl
            refine Eo.val (x := (.v (.string x83))) (op_loadSp hat86 0 rfl rfl rfl rfl rfl) rfl rfl rfl ?_
            refine Eo.val (x := (.v (.bool (decide (x83 = (ByteArray.mk #[108, 111, 111, 112])))))) (val_b rfl (seq_eq _ _)) rfl rfl rfl ?_
            refine Eo.val (x := (.v (.bool (decide (x83 = (ByteArray.mk #[108, 111, 111, 112])))))) rfl rfl rfl rfl ?_
            refine Eo.nil ?_
            obtain rfl := Option.some.inj H
            exact And.intro rfl ⟨hp56, (.cons rfl (.cons rfl (.cons rfl (.nil'))))⟩
        · skip
          intro x φ89 σ88 hJ
          obtain ⟨rfl, hp87, hf90⟩ := hJ
          refine ⟨rfl, Eo.of (F := [(0, (.v (.bool false))), (1, a5), (39, (.v (.bool x73)))]) hf90 ?_⟩
          refine Eo.val (x := (.v (.bool x73))) rfl rfl rfl rfl ?_
          obtain ⟨x100, hv148, H⟩ := bind_some H
          refine Eo.cutN 7 (J := (fun (x100 : Bool) (x : X) (φ : Fr) (s : St) => x = .normal ∧ (Hp s (.app a5 46 :: R) ∧ Fl [(0, (.v (.bool false))), (1, a5), (47, (.v (.bool x100)))] φ)) x100) ?_ ?_
          · have H := hv148
            cases hc101 : x73
            · have H := cond_f hc101 H
              refine Eo.off rfl rfl rfl ?_
              refine Eo.off rfl rfl rfl ?_
              refine Eo.off rfl rfl rfl ?_
              refine Eo.off rfl rfl rfl ?_
              refine Eo.off rfl rfl rfl ?_
              refine Eo.off rfl rfl rfl ?_
              refine Eo.val (x := (.v (.bool false))) rfl rfl rfl rfl ?_
              refine Eo.nil ?_
              obtain rfl := Option.some.inj H
              exact And.intro rfl ⟨hp87, (.cons rfl (.cons rfl (.cons rfl (.nil'))))⟩
            · have H := cond_t hc101 H
              refine Eo.val (x := a5) rfl rfl rfl rfl ?_
              obtain ⟨x102, hvx102, H⟩ := bind_some H
              refine Eo.idx h6 hvx102 rfl rfl rfl Tryd.underlying23 rfl rfl rfl rfl ?_
              rintro cs103 p104 _ hat105 ⟨a106, a108, rfl, h107, h109⟩
              refine Eo.val (x := (.sp cs103 (p104 + 2) .no)) rfl rfl rfl rfl ?_
              refine Eo.val (x := a108) (op_loadSp hat105 2 rfl rfl rfl rfl rfl) rfl rfl rfl ?_
              refine Eo.val (x := (.v (.int .i64 ((x102.f_Toks.length : Nat) : Int)))) (op_lenL h109 rfl rfl rfl rfl rfl Tryd.underlying31) rfl rfl rfl ?_
              refine Eo.val (x := (.v (.bool (((x102.f_Toks.length : Nat) : Int) == 7)))) rfl rfl rfl rfl ?_
              refine Eo.val (x := (.v (.bool (((x102.f_Toks.length : Nat) : Int) == 7)))) rfl rfl rfl rfl ?_
              refine Eo.nil ?_
              obtain rfl := Option.some.inj H
              exact And.intro rfl ⟨hp87, (.cons rfl (.cons rfl (.cons rfl (.nil'))))⟩
          · skip
            intro x φ112 σ111 hJ
            obtain ⟨rfl, hp110, hf113⟩ := hJ
            refine ⟨rfl, Eo.of (F := [(0, (.v (.bool false))), (1, a5), (47, (.v (.bool x100)))]) hf113 ?_⟩
            refine Eo.val (x := (.v (.bool x100))) rfl rfl rfl rfl ?_
            obtain ⟨x127, hv146, H⟩ := bind_some H
            refine Eo.cutN 9 (J := (fun (x127 : Bool) (x : X) (φ : Fr) (s : St) => x = .normal ∧ (Hp s (R) ∧ Fl [(0, (.v (.bool false))), (57, (.v (.bool x127)))] φ)) x127) ?_ ?_
            · have H := hv146
              cases hc128 : x100
              · have H := cond_f hc128 H
                refine Eo.off rfl rfl rfl ?_
                refine Eo.off rfl rfl rfl ?_
                refine Eo.off rfl rfl rfl ?_
                refine Eo.off rfl rfl rfl ?_
                refine Eo.off rfl rfl rfl ?_
                refine Eo.off rfl rfl rfl ?_
                refine Eo.off rfl rfl rfl ?_
                refine Eo.off rfl rfl rfl ?_
                refine Eo.val (x := (.v (.bool false))) rfl rfl rfl rfl ?_
                refine Eo.nil ?_
                obtain rfl := Option.some.inj H
                exact And.intro rfl ⟨(Hp.drop hp110 0), (.cons rfl (.cons rfl (.nil')))⟩
              · have H := cond_t hc128 H
                refine Eo.val (x := a5) rfl rfl rfl rfl ?_
                obtain ⟨x129, hvx129, H⟩ := bind_some H
                refine Eo.idx h6 hvx129 rfl rfl rfl Tryd.underlying23 rfl rfl rfl rfl ?_
                rintro cs130 p131 _ hat132 ⟨a133, a135, rfl, h134, h136⟩
                refine Eo.val (x := (.sp cs130 (p131 + 2) .no)) rfl rfl rfl rfl ?_
                refine Eo.val (x := a135) (op_loadSp hat132 2 rfl rfl rfl rfl rfl) rfl rfl rfl ?_
                obtain ⟨x137, hvx137, H⟩ := bind_some H
                refine Eo.idx h136 hvx137 rfl rfl rfl Tryd.underlying31 rfl rfl rfl rfl ?_
                rintro cs138 p139 _ hat140 rfl
                refine Eo.val (x := (.sp cs138 (p139 + 1) .no)) rfl rfl rfl rfl ?_
                refine Eo.val (x := (.v (.string x137.f_Text))) (op_loadSp hat140 1 rfl rfl rfl rfl rfl) rfl rfl rfl ?_
                refine Eo.val (x := (.v (.bool (decide (x137.f_Text = (ByteArray.mk #[49])))))) (val_b rfl (seq_eq _ _)) rfl rfl rfl ?_
                refine Eo.val (x := (.v (.bool (decide (x137.f_Text = (ByteArray.mk #[49])))))) rfl rfl rfl rfl ?_
                refine Eo.nil ?_
                obtain rfl := Option.some.inj H
                exact And.intro rfl ⟨(Hp.drop hp110 0), (.cons rfl (.cons rfl (.nil')))⟩
            · skip
              intro x φ143 σ142 hJ
              obtain ⟨rfl, hp141, hf144⟩ := hJ
              refine ⟨rfl, Eo.of (F := [(0, (.v (.bool false))), (57, (.v (.bool x127)))]) hf144 ?_⟩
              refine Eo.val (x := (.v (.bool x127))) rfl rfl rfl rfl ?_
              refine Eo.nil ?_
              obtain rfl := Option.some.inj H
              refine Ec.ret ?_
              refine Ret.mk rfl ?_
              exact ⟨rfl, hp141⟩

def gdovetaillaw13_AsmtextParses (n : Nat) (p0 : ByteArray) : Option (Bool) := ((gdovetaillaw13_asmtextAlive n ).bind fun r1 => (cond (!r1) (some false) (((gdovetailref13_Parse n p0).bind fun v => match v with | (r6, r7, r8) => ((gasmtext_Parse n p0).bind fun v => match v with | (r14, r15, r16) => (((cond ((r16 == r8) && (r15 == r7)) (((gdovetailref13_Same n r14 r6).bind fun r32 => some r32)) (some false)) : Option (Bool)).bind fun x30 => some x30))))))

def gdovetaillaw13_AsmtextParses_post (R : List Res) (r : Bool) (x : A) (s : St) : Prop := x = (.v (.bool r)) ∧ Hp s (R)

theorem gdovetaillaw13_AsmtextParses_ok {n : Nat} {p0 : ByteArray} {R : List Res} {σ : St} (hp : Hp σ R) {r : Bool} (H : gdovetaillaw13_AsmtextParses n p0 = some r) : Ca cfg 4 [(.v (.string p0))] σ (gdovetaillaw13_AsmtextParses_post R r) := by
  unfold gdovetaillaw13_AsmtextParses at H
  refine Ca.enterL (G := [(0, (.v (.string p0)))]) Tryd.func4 rfl rfl rfl rfl ?_
  refine Ec.seq ?_
  refine Ec.region ?_
  refine Eo.val (x := (.v (.bool false))) rfl rfl rfl rfl ?_
  refine Eo.nil ?_
  refine Ec.seq ?_
  refine Ec.seq ?_
  refine Ec.region ?_
  obtain ⟨r1, hvr1, H⟩ := bind_some H
  refine Eo.call rfl rfl rfl rfl (gdovetaillaw13_asmtextAlive_ok hp hvr1) ?_
  rintro _ σ3 ⟨rfl, hp2⟩
  refine Eo.val (x := (.v (.bool (!r1)))) rfl rfl rfl rfl ?_
  refine Eo.nil ?_
  refine Ec.cond (t := (!r1)) rfl (fun hc4 => ?_) (fun hc4 => ?_)
  · have H := cond_t hc4 H
    refine Ec.seq ?_
    refine Ec.region ?_
    refine Eo.val (x := (.v (.bool false))) rfl rfl rfl rfl ?_
    refine Eo.nil ?_
    obtain rfl := Option.some.inj H
    refine Ec.ret ?_
    refine Ret.mk rfl ?_
    exact ⟨rfl, hp2⟩
  · have H := cond_f hc4 H
    refine Ec.skip ?_
    refine Ec.seq ?_
    refine Ec.region ?_
    refine Eo.val (x := (.v (.string p0))) rfl rfl rfl rfl ?_
    obtain ⟨r5, hvr5, H⟩ := bind_some H
    refine Eo.call rfl rfl rfl rfl (gdovetailref13_Parse_ok hp2 hvr5) ?_
    obtain ⟨r6, r7, r8⟩ := r5
    rintro _ σ12 ⟨a9, rfl, h10, hp11⟩
    change Hp σ12 (.app a9 46 :: R) at hp11
    refine Eo.val (x := (.tup [a9, (.v (.int .i64 r7)), (.v (.int .i64 r8))])) rfl rfl rfl rfl ?_
    refine Eo.val (x := a9) rfl rfl rfl rfl ?_
    refine Eo.val (x := (.v (.int .i64 r7))) rfl rfl rfl rfl ?_
    refine Eo.val (x := (.v (.int .i64 r8))) rfl rfl rfl rfl ?_
    refine Eo.val (x := a9) rfl rfl rfl rfl ?_
    refine Eo.val (x := (.v (.int .i64 r7))) rfl rfl rfl rfl ?_
    refine Eo.val (x := (.v (.int .i64 r8))) rfl rfl rfl rfl ?_
    refine Eo.nil ?_
    refine Ec.seq ?_
    refine Ec.region ?_
    refine Eo.val (x := (.v (.string p0))) rfl rfl rfl rfl ?_
    obtain ⟨r13, hvr13, H⟩ := bind_some H
    refine Eo.call rfl rfl rfl rfl (gasmtext_Parse_ok hp11 hvr13) ?_
    obtain ⟨r14, r15, r16⟩ := r13
    rintro _ σ20 ⟨a17, rfl, h18, hp19⟩
    change Hp σ20 (.app a17 46 :: .app a9 46 :: R) at hp19
    refine Eo.val (x := (.tup [a17, (.v (.int .i64 r15)), (.v (.int .i64 r16))])) rfl rfl rfl rfl ?_
    refine Eo.val (x := a17) rfl rfl rfl rfl ?_
    refine Eo.val (x := (.v (.int .i64 r15))) rfl rfl rfl rfl ?_
    refine Eo.val (x := (.v (.int .i64 r16))) rfl rfl rfl rfl ?_
    refine Eo.val (x := a17) rfl rfl rfl rfl ?_
    refine Eo.val (x := (.v (.int .i64 r15))) rfl rfl rfl rfl ?_
    refine Eo.val (x := (.v (.int .i64 r16))) rfl rfl rfl rfl ?_
    refine Eo.nil ?_
    refine Ec.seq ?_
    refine Ec.region ?_
    refine Eo.val (x := (.v (.int .i64 r16))) rfl rfl rfl rfl ?_
    refine Eo.val (x := (.v (.int .i64 r8))) rfl rfl rfl rfl ?_
    refine Eo.val (x := (.v (.bool (r16 == r8)))) rfl rfl rfl rfl ?_
    refine Eo.val (x := (.v (.bool (r16 == r8)))) rfl rfl rfl rfl ?_
    refine Eo.cutF 4 [(2, (.v (.bool false))), (3, a9), (6, a17), (30, (.v (.bool ((r16 == r8) && (r15 == r7)))))] ?_ ?_
    · skip
      cases hc23 : (r16 == r8)
      · skip
        refine Eo.off rfl rfl rfl ?_
        refine Eo.off rfl rfl rfl ?_
        refine Eo.off rfl rfl rfl ?_
        refine Eo.val (x := (.v (.bool false))) rfl rfl rfl rfl ?_
        exact Eo.nil (And.intro rfl (And.intro rfl (.cons rfl (.cons rfl (.cons rfl (.cons rfl (.nil')))))))
      · skip
        refine Eo.val (x := (.v (.int .i64 r15))) rfl rfl rfl rfl ?_
        refine Eo.val (x := (.v (.int .i64 r7))) rfl rfl rfl rfl ?_
        refine Eo.val (x := (.v (.bool (r15 == r7)))) rfl rfl rfl rfl ?_
        refine Eo.val (x := (.v (.bool (r15 == r7)))) rfl rfl rfl rfl ?_
        exact Eo.nil (And.intro rfl (And.intro rfl (.cons rfl (.cons rfl (.cons rfl (.cons rfl (.nil')))))))
    · skip
      refine Eo.val (x := (.v (.bool ((r16 == r8) && (r15 == r7))))) rfl rfl rfl rfl ?_
      obtain ⟨x30, hv40, H⟩ := bind_some H
      refine Eo.cutN 4 (J := (fun (x30 : Bool) (x : X) (φ : Fr) (s : St) => x = .normal ∧ (Hp s (R) ∧ Fl [(2, (.v (.bool false))), (35, (.v (.bool x30)))] φ)) x30) ?_ ?_
      · have H := hv40
        cases hc31 : ((r16 == r8) && (r15 == r7))
        · have H := cond_f hc31 H
          refine Eo.off rfl rfl rfl ?_
          refine Eo.off rfl rfl rfl ?_
          refine Eo.off rfl rfl rfl ?_
          refine Eo.val (x := (.v (.bool false))) rfl rfl rfl rfl ?_
          refine Eo.nil ?_
          obtain rfl := Option.some.inj H
          exact And.intro rfl ⟨(Hp.drop (Hp.drop hp19 0) 0), (.cons rfl (.cons rfl (.nil')))⟩
        · have H := cond_t hc31 H
          refine Eo.val (x := a17) rfl rfl rfl rfl ?_
          refine Eo.val (x := a9) rfl rfl rfl rfl ?_
          obtain ⟨r32, hvr32, H⟩ := bind_some H
          refine Eo.call rfl rfl rfl rfl (gdovetailref13_Same_ok h18 h10 hp19 hvr32) ?_
          rintro _ σ34 ⟨rfl, hp33⟩
          refine Eo.val (x := (.v (.bool r32))) rfl rfl rfl rfl ?_
          refine Eo.nil ?_
          obtain rfl := Option.some.inj H
          exact And.intro rfl ⟨(Hp.drop (Hp.drop hp33 0) 0), (.cons rfl (.cons rfl (.nil')))⟩
      · skip
        intro x φ37 σ36 hJ
        obtain ⟨rfl, hp35, hf38⟩ := hJ
        refine ⟨rfl, Eo.of (F := [(2, (.v (.bool false))), (35, (.v (.bool x30)))]) hf38 ?_⟩
        refine Eo.val (x := (.v (.bool x30))) rfl rfl rfl rfl ?_
        refine Eo.nil ?_
        obtain rfl := Option.some.inj H
        refine Ec.ret ?_
        refine Ret.mk rfl ?_
        exact ⟨rfl, hp35⟩
end Go.DM
