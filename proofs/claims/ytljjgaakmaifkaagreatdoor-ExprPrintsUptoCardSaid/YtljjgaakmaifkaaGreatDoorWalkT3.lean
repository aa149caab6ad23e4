/- Typed functions of the program's functions, and the walks that show that the calls come to them. No condition. -/
import Derived.Test.YtljjgaakmaifkaaGreatDoorWalkT2
namespace Go.DM
open Go Go.Proofs
set_option maxRecDepth 100000
set_option maxHeartbeats 1000000
theorem gdovetailref12_Same_ok {n : Nat} {p0 : TLin} {p1 : TLin} {a1 a3 a5 a7 : A} {R : List Res} {σ : St} (h2 : Sl rS a1 p0.f_Syms) (h4 : Sl (rI .i64) a3 p0.f_Times) (h6 : Sl rS a5 p1.f_Syms) (h8 : Sl (rI .i64) a7 p1.f_Times) (hp : Hp σ R) {r : Bool} (H : gdovetailref12_Same n p0 p1 = some r) : Ca cfg 11 [(.agg [a1, a3, (.v (.int .i64 p0.f_Off))]), (.agg [a5, a7, (.v (.int .i64 p1.f_Off))])] σ (gdovetailref12_Same_post R r) := by
  unfold gdovetailref12_Same at H
  refine Ca.enterL (G := [(0, (.agg [a1, a3, (.v (.int .i64 p0.f_Off))])), (1, (.agg [a5, a7, (.v (.int .i64 p1.f_Off))]))]) Tryz.func11 rfl rfl rfl rfl ?_
  refine Ec.seq ?_
  refine Ec.region ?_
  refine Eo.box hp rfl (by simp [allOne, A.cells, h2.isOne, h4.isOne]) rfl rfl rfl rfl rfl ?_
  intro b9 σ11 hp10
  refine Eo.box hp10 rfl (by simp [allOne, A.cells, h6.isOne, h8.isOne]) rfl rfl rfl rfl rfl ?_
  intro b12 σ14 hp13
  refine Eo.val (x := (.v (.bool false))) rfl rfl rfl rfl ?_
  refine Eo.nil ?_
  refine Ec.seq ?_
  refine Ec.seq ?_
  refine Ec.region ?_
  refine Eo.val (x := (.ptr b9 2)) rfl rfl rfl rfl ?_
  refine Eo.val (x := (.v (.int .i64 p0.f_Off))) (op_loadB hp13 1 rfl rfl rfl rfl) rfl rfl rfl ?_
  refine Eo.val (x := (.ptr b12 2)) rfl rfl rfl rfl ?_
  refine Eo.val (x := (.v (.int .i64 p1.f_Off))) (op_loadB hp13 0 rfl rfl rfl rfl) rfl rfl rfl ?_
  refine Eo.val (x := (.v (.bool (p0.f_Off != p1.f_Off)))) rfl rfl rfl rfl ?_
  refine Eo.val (x := (.v (.bool (p0.f_Off != p1.f_Off)))) rfl rfl rfl rfl ?_
  refine Eo.cutF 8 [(2, (.ptr b9 0)), (3, (.ptr b12 0)), (20, (.v (.bool ((p0.f_Off != p1.f_Off) || (((p0.f_Syms.length : Nat) : Int) != ((p1.f_Syms.length : Nat) : Int))))))] ?_ ?_
  · skip
    cases hc17 : (p0.f_Off != p1.f_Off)
    · skip
      refine Eo.val (x := (.ptr b9 0)) rfl rfl rfl rfl ?_
      refine Eo.val (x := a1) (op_loadB hp13 1 rfl rfl rfl rfl) rfl rfl rfl ?_
      refine Eo.val (x := (.v (.int .i64 ((p0.f_Syms.length : Nat) : Int)))) (op_lenL h2 rfl rfl rfl rfl rfl Tryz.underlying22) rfl rfl rfl ?_
      refine Eo.val (x := (.ptr b12 0)) rfl rfl rfl rfl ?_
      refine Eo.val (x := a5) (op_loadB hp13 0 rfl rfl rfl rfl) rfl rfl rfl ?_
      refine Eo.val (x := (.v (.int .i64 ((p1.f_Syms.length : Nat) : Int)))) (op_lenL h6 rfl rfl rfl rfl rfl Tryz.underlying22) rfl rfl rfl ?_
      refine Eo.val (x := (.v (.bool (((p0.f_Syms.length : Nat) : Int) != ((p1.f_Syms.length : Nat) : Int))))) rfl rfl rfl rfl ?_
      refine Eo.val (x := (.v (.bool (((p0.f_Syms.length : Nat) : Int) != ((p1.f_Syms.length : Nat) : Int))))) rfl rfl rfl rfl ?_
      exact Eo.nil (And.intro rfl (And.intro rfl (.cons rfl (.cons rfl (.cons rfl (.nil'))))))
    · skip
      refine Eo.off rfl rfl rfl ?_
      refine Eo.off rfl rfl rfl ?_
      refine Eo.off rfl rfl rfl ?_
      refine Eo.off rfl rfl rfl ?_
      refine Eo.off rfl rfl rfl ?_
      refine Eo.off rfl rfl rfl ?_
      refine Eo.off rfl rfl rfl ?_
      refine Eo.val (x := (.v (.bool true))) rfl rfl rfl rfl ?_
      exact Eo.nil (And.intro rfl (And.intro rfl (.cons rfl (.cons rfl (.cons rfl (.nil'))))))
  · skip
    refine Eo.val (x := (.v (.bool ((p0.f_Off != p1.f_Off) || (((p0.f_Syms.length : Nat) : Int) != ((p1.f_Syms.length : Nat) : Int)))))) rfl rfl rfl rfl ?_
    refine Eo.cutF 8 [(2, (.ptr b9 0)), (3, (.ptr b12 0)), (29, (.v (.bool (((p0.f_Off != p1.f_Off) || (((p0.f_Syms.length : Nat) : Int) != ((p1.f_Syms.length : Nat) : Int))) || (((p0.f_Times.length : Nat) : Int) != ((p1.f_Times.length : Nat) : Int))))))] ?_ ?_
    · skip
      cases hc22 : ((p0.f_Off != p1.f_Off) || (((p0.f_Syms.length : Nat) : Int) != ((p1.f_Syms.length : Nat) : Int)))
      · skip
        refine Eo.val (x := (.ptr b9 1)) rfl rfl rfl rfl ?_
        refine Eo.val (x := a3) (op_loadB hp13 1 rfl rfl rfl rfl) rfl rfl rfl ?_
        refine Eo.val (x := (.v (.int .i64 ((p0.f_Times.length : Nat) : Int)))) (op_lenL h4 rfl rfl rfl rfl rfl Tryz.underlying23) rfl rfl rfl ?_
        refine Eo.val (x := (.ptr b12 1)) rfl rfl rfl rfl ?_
        refine Eo.val (x := a7) (op_loadB hp13 0 rfl rfl rfl rfl) rfl rfl rfl ?_
        refine Eo.val (x := (.v (.int .i64 ((p1.f_Times.length : Nat) : Int)))) (op_lenL h8 rfl rfl rfl rfl rfl Tryz.underlying23) rfl rfl rfl ?_
        refine Eo.val (x := (.v (.bool (((p0.f_Times.length : Nat) : Int) != ((p1.f_Times.length : Nat) : Int))))) rfl rfl rfl rfl ?_
        refine Eo.val (x := (.v (.bool (((p0.f_Times.length : Nat) : Int) != ((p1.f_Times.length : Nat) : Int))))) rfl rfl rfl rfl ?_
        exact Eo.nil (And.intro rfl (And.intro rfl (.cons rfl (.cons rfl (.cons rfl (.nil'))))))
      · skip
        refine Eo.off rfl rfl rfl ?_
        refine Eo.off rfl rfl rfl ?_
        refine Eo.off rfl rfl rfl ?_
        refine Eo.off rfl rfl rfl ?_
        refine Eo.off rfl rfl rfl ?_
        refine Eo.off rfl rfl rfl ?_
        refine Eo.off rfl rfl rfl ?_
        refine Eo.val (x := (.v (.bool true))) rfl rfl rfl rfl ?_
        exact Eo.nil (And.intro rfl (And.intro rfl (.cons rfl (.cons rfl (.cons rfl (.nil'))))))
    · skip
      refine Eo.nil ?_
      refine Ec.cond (t := (((p0.f_Off != p1.f_Off) || (((p0.f_Syms.length : Nat) : Int) != ((p1.f_Syms.length : Nat) : Int))) || (((p0.f_Times.length : Nat) : Int) != ((p1.f_Times.length : Nat) : Int)))) rfl (fun hc25 => ?_) (fun hc25 => ?_)
      · have H := cond_t hc25 H
        refine Ec.seq ?_
        refine Ec.region ?_
        refine Eo.val (x := (.v (.bool false))) rfl rfl rfl rfl ?_
        refine Eo.nil ?_
        obtain rfl := Option.some.inj H
        refine Ec.ret ?_
        refine Ret.mk rfl ?_
        exact ⟨rfl, (Hp.drop (Hp.drop hp13 0) 0)⟩
      · have H := cond_f hc25 H
        refine Ec.skip ?_
        refine Ec.seq ?_
        refine Ec.seq ?_
        refine Ec.region ?_
        refine Eo.val (x := (.ptr b9 0)) rfl rfl rfl rfl ?_
        refine Eo.val (x := a1) (op_loadB hp13 1 rfl rfl rfl rfl) rfl rfl rfl ?_
        refine Eo.val (x := (.v (.int .i64 ((p0.f_Syms.length : Nat) : Int)))) (op_lenL h2 rfl rfl rfl rfl rfl Tryz.underlying22) rfl rfl rfl ?_
        refine Eo.val (x := (.v (.int .i64 0))) rfl rfl rfl rfl ?_
        refine Eo.nil ?_
        refine Ec.block ?_
        obtain ⟨v102, hv103, H⟩ := bind_some H
        refine Ec.cut (J := (fun (v : LR Unit Bool) (x : X) (φ : Fr) (s : St) => match v with | .out _ => x = (.exit 0) ∧ (Hp s (.blk b9 (.cells [a1, a3, (.v (.int .i64 p0.f_Off))] 25) :: .blk b12 (.cells [a5, a7, (.v (.int .i64 p1.f_Off))] 25) :: R) ∧ Fl [(2, (.ptr b9 0)), (3, (.ptr b12 0))] φ) | .ret r => x = .ret ∧ Ret cfg Tryz.f11 (gdovetailref12_Same_post R r) .ret φ s) v102) (Ec.weak (.cons rfl (.cons rfl (.cons rfl (.cons rfl (.nil'))))) (Ec.loopF (f := (fun m (i : Int × Unit) => gdovetailref12_Same_L1 n p0 p1 m i.1)) (G := (fun (i : Int × Unit) => ([(2, (.ptr b9 0)), (3, (.ptr b12 0)), (32, (.v (.int .i64 ((p0.f_Syms.length : Nat) : Int)))), (33, (.v (.int .i64 i.1)))] : List (Nat × A)))) (I := (fun (i : Int × Unit) (s : St) => Hp s (.blk b9 (.cells [a1, a3, (.v (.int .i64 p0.f_Off))] 25) :: .blk b12 (.cells [a5, a7, (.v (.int .i64 p1.f_Off))] 25) :: R))) (J := (fun (v : LR Unit Bool) (x : X) (φ : Fr) (s : St) => match v with | .out _ => x = (.exit 0) ∧ (Hp s (.blk b9 (.cells [a1, a3, (.v (.int .i64 p0.f_Off))] 25) :: .blk b12 (.cells [a5, a7, (.v (.int .i64 p1.f_Off))] 25) :: R) ∧ Fl [(2, (.ptr b9 0)), (3, (.ptr b12 0))] φ) | .ret r => x = .ret ∧ Ret cfg Tryz.f11 (gdovetailref12_Same_post R r) .ret φ s)) (fun _ => rfl) ?_ n (0, ()) _ v102 (Hp.front hp13 1) hv103)) ?_
        · rintro m ⟨y51, _⟩ σ0 v hp0 H ih
          change gdovetailref12_Same_L1 n p0 p1 (m + 1) y51 = some v at H
          rw [gdovetailref12_Same_L1] at H
          change Ec _ _ _ [(2, (.ptr b9 0)), (3, (.ptr b12 0)), (32, (.v (.int .i64 ((p0.f_Syms.length : Nat) : Int)))), (33, (.v (.int .i64 y51)))] σ0 _
          refine Ec.seq ?_
          refine Ec.region ?_
          refine Eo.val (x := (.v (.bool (decide (y51 < ((p0.f_Syms.length : Nat) : Int)))))) rfl rfl rfl rfl ?_
          refine Eo.nil ?_
          refine Ec.seq ?_
          refine Ec.cond (t := (decide (y51 < ((p0.f_Syms.length : Nat) : Int)))) rfl (fun hc77 => ?_) (fun hc77 => ?_)
          · have H := cond_t hc77 H
            refine Ec.skip ?_
            refine Ec.seq ?_
            refine Ec.block ?_
            refine Ec.seq ?_
            refine Ec.region ?_
            refine Eo.val (x := (.v (.int .i64 y51))) rfl rfl rfl rfl ?_
            refine Eo.val (x := (.v (.int .i64 y51))) rfl rfl rfl rfl ?_
            refine Eo.nil ?_
            refine Ec.seq ?_
            obtain ⟨x86, hv101, H⟩ := bind_some H
            refine Ec.cut (J := (fun (x86 : Bool) (x : X) (φ : Fr) (s : St) => x = .normal ∧ (Hp s (.blk b9 (.cells [a1, a3, (.v (.int .i64 p0.f_Off))] 25) :: .blk b12 (.cells [a5, a7, (.v (.int .i64 p1.f_Off))] 25) :: R) ∧ Fl [(2, (.ptr b9 0)), (3, (.ptr b12 0)), (32, (.v (.int .i64 ((p0.f_Syms.length : Nat) : Int)))), (33, (.v (.int .i64 y51))), (46, (.v (.bool x86)))] φ)) x86) ?_ ?_
            · have H := hv101
              refine Ec.drawn2 (by kernel_rfl) ?_
              refine Eo.val (x := (.ptr b9 0)) rfl rfl rfl rfl ?_
              refine Eo.val (x := a1) (op_loadB hp0 0 rfl rfl rfl rfl) rfl rfl rfl ?_
              refine Eo.val (x := (.v (.int .i64 y51))) rfl rfl rfl rfl ?_
              obtain ⟨x87, hvx87, H⟩ := bind_some H
              refine Eo.idx h2 hvx87 rfl rfl rfl Tryz.underlying22 rfl rfl rfl rfl ?_
              rintro cs88 p89 _ hat90 rfl
              refine Eo.val (x := (.v (.string x87))) (op_loadSp hat90 0 rfl rfl rfl rfl rfl) rfl rfl rfl ?_
              refine Eo.val (x := (.ptr b12 0)) rfl rfl rfl rfl ?_
              refine Eo.val (x := a5) (op_loadB hp0 1 rfl rfl rfl rfl) rfl rfl rfl ?_
              refine Eo.val (x := (.v (.int .i64 y51))) rfl rfl rfl rfl ?_
              obtain ⟨x91, hvx91, H⟩ := bind_some H
              refine Eo.idx h6 hvx91 rfl rfl rfl Tryz.underlying22 rfl rfl rfl rfl ?_
              rintro cs92 p93 _ hat94 rfl
              refine Eo.val (x := (.v (.string x91))) (op_loadSp hat94 0 rfl rfl rfl rfl rfl) rfl rfl rfl ?_
              refine Eo.val (x := (.v (.bool (!decide (x87 = x91))))) (val_b rfl (sne_eq _ _)) rfl rfl rfl ?_
              refine Eo.nil ?_
              obtain rfl := Option.some.inj H
              exact And.intro rfl (And.intro rfl ⟨(Hp.front (Hp.front hp0 1) 1), (.cons rfl (.cons rfl (.cons rfl (.cons rfl (.cons rfl (.nil'))))))⟩)
            · skip
              intro x φ97 σ96 hJ
              obtain ⟨rfl, hp95, hf98⟩ := hJ
              refine Ec.of (F := [(2, (.ptr b9 0)), (3, (.ptr b12 0)), (32, (.v (.int .i64 ((p0.f_Syms.length : Nat) : Int)))), (33, (.v (.int .i64 y51))), (46, (.v (.bool x86)))]) hf98 ?_
              refine Ec.cond (t := x86) rfl (fun hc99 => ?_) (fun hc99 => ?_)
              · have H := cond_t hc99 H
                refine Ec.seq ?_
                refine Ec.region ?_
                refine Eo.val (x := (.v (.bool false))) rfl rfl rfl rfl ?_
                refine Eo.nil ?_
                obtain rfl := Option.some.inj H
                refine Ec.ret ?_
                refine And.intro rfl (Ret.mk rfl ?_)
                exact ⟨rfl, (Hp.drop (Hp.drop hp95 0) 0)⟩
              · have H := cond_f hc99 H
                refine Ec.skip ?_
                refine Ec.region ?_
                refine Eo.val (x := (.v (.int .i64 (IntKind.wrap .i64 (y51 + 1))))) rfl rfl rfl rfl ?_
                refine Eo.val (x := (.v (.int .i64 (IntKind.wrap .i64 (y51 + 1))))) rfl rfl rfl rfl ?_
                refine Eo.nil ?_
                exact Ec.of (.cons rfl (.cons rfl (.cons rfl (.cons rfl (.nil'))))) (ih ((IntKind.wrap .i64 (y51 + 1)), ()) _ (Hp.front (Hp.front hp95 1) 1) H)
          · have H := cond_f hc77 H
            refine Ec.exit ?_
            obtain rfl := Option.some.inj H
            exact And.intro rfl ⟨(Hp.front (Hp.front hp0 1) 1), (.cons rfl (.cons rfl (.nil')))⟩
        · rcases v102 with _ | r193
          · intro x φ106 σ105 hJ
            obtain ⟨rfl, hp104, hf107⟩ := hJ
            refine Ec.of (F := [(2, (.ptr b9 0)), (3, (.ptr b12 0))]) hf107 ?_
            refine Ec.seq ?_
            refine Ec.seq ?_
            refine Ec.region ?_
            refine Eo.val (x := (.ptr b9 1)) rfl rfl rfl rfl ?_
            refine Eo.val (x := a3) (op_loadB hp104 0 rfl rfl rfl rfl) rfl rfl rfl ?_
            refine Eo.val (x := (.v (.int .i64 ((p0.f_Times.length : Nat) : Int)))) (op_lenL h4 rfl rfl rfl rfl rfl Tryz.underlying23) rfl rfl rfl ?_
            refine Eo.val (x := (.v (.int .i64 0))) rfl rfl rfl rfl ?_
            refine Eo.nil ?_
            refine Ec.block ?_
            obtain ⟨v184, hv185, H⟩ := bind_some H
            refine Ec.cut (J := (fun (v : LR Unit Bool) (x : X) (φ : Fr) (s : St) => match v with | .out _ => x = (.exit 2) ∧ (Hp s (R) ∧ Fl [] φ) | .ret r => x = .ret ∧ Ret cfg Tryz.f11 (gdovetailref12_Same_post R r) .ret φ s) v184) (Ec.weak (.cons rfl (.cons rfl (.cons rfl (.cons rfl (.nil'))))) (Ec.loopF (f := (fun m (i : Int × Unit) => gdovetailref12_Same_L2 n p0 p1 m i.1)) (G := (fun (i : Int × Unit) => ([(2, (.ptr b9 0)), (3, (.ptr b12 0)), (50, (.v (.int .i64 ((p0.f_Times.length : Nat) : Int)))), (51, (.v (.int .i64 i.1)))] : List (Nat × A)))) (I := (fun (i : Int × Unit) (s : St) => Hp s (.blk b9 (.cells [a1, a3, (.v (.int .i64 p0.f_Off))] 25) :: .blk b12 (.cells [a5, a7, (.v (.int .i64 p1.f_Off))] 25) :: R))) (J := (fun (v : LR Unit Bool) (x : X) (φ : Fr) (s : St) => match v with | .out _ => x = (.exit 2) ∧ (Hp s (R) ∧ Fl [] φ) | .ret r => x = .ret ∧ Ret cfg Tryz.f11 (gdovetailref12_Same_post R r) .ret φ s)) (fun _ => rfl) ?_ n (0, ()) _ v184 (Hp.front (Hp.front hp104 1) 1) hv185)) ?_
            · rintro m ⟨y133, _⟩ σ0 v hp0 H ih
              change gdovetailref12_Same_L2 n p0 p1 (m + 1) y133 = some v at H
              rw [gdovetailref12_Same_L2] at H
              change Ec _ _ _ [(2, (.ptr b9 0)), (3, (.ptr b12 0)), (50, (.v (.int .i64 ((p0.f_Times.length : Nat) : Int)))), (51, (.v (.int .i64 y133)))] σ0 _
              refine Ec.seq ?_
              refine Ec.region ?_
              refine Eo.val (x := (.v (.bool (decide (y133 < ((p0.f_Times.length : Nat) : Int)))))) rfl rfl rfl rfl ?_
              refine Eo.nil ?_
              refine Ec.seq ?_
              refine Ec.cond (t := (decide (y133 < ((p0.f_Times.length : Nat) : Int)))) rfl (fun hc159 => ?_) (fun hc159 => ?_)
              · have H := cond_t hc159 H
                refine Ec.skip ?_
                refine Ec.seq ?_
                refine Ec.block ?_
                refine Ec.seq ?_
                refine Ec.region ?_
                refine Eo.val (x := (.v (.int .i64 y133))) rfl rfl rfl rfl ?_
                refine Eo.val (x := (.v (.int .i64 y133))) rfl rfl rfl rfl ?_
                refine Eo.nil ?_
                refine Ec.seq ?_
                obtain ⟨x168, hv183, H⟩ := bind_some H
                refine Ec.cut (J := (fun (x168 : Bool) (x : X) (φ : Fr) (s : St) => x = .normal ∧ (Hp s (.blk b9 (.cells [a1, a3, (.v (.int .i64 p0.f_Off))] 25) :: .blk b12 (.cells [a5, a7, (.v (.int .i64 p1.f_Off))] 25) :: R) ∧ Fl [(2, (.ptr b9 0)), (3, (.ptr b12 0)), (50, (.v (.int .i64 ((p0.f_Times.length : Nat) : Int)))), (51, (.v (.int .i64 y133))), (64, (.v (.bool x168)))] φ)) x168) ?_ ?_
                · have H := hv183
                  refine Ec.drawn2 (by kernel_rfl) ?_
                  refine Eo.val (x := (.ptr b9 1)) rfl rfl rfl rfl ?_
                  refine Eo.val (x := a3) (op_loadB hp0 0 rfl rfl rfl rfl) rfl rfl rfl ?_
                  refine Eo.val (x := (.v (.int .i64 y133))) rfl rfl rfl rfl ?_
                  obtain ⟨x169, hvx169, H⟩ := bind_some H
                  refine Eo.idx h4 hvx169 rfl rfl rfl Tryz.underlying23 rfl rfl rfl rfl ?_
                  rintro cs170 p171 _ hat172 rfl
                  refine Eo.val (x := (.v (.int .i64 x169))) (op_loadSp hat172 0 rfl rfl rfl rfl rfl) rfl rfl rfl ?_
                  refine Eo.val (x := (.ptr b12 1)) rfl rfl rfl rfl ?_
                  refine Eo.val (x := a7) (op_loadB hp0 1 rfl rfl rfl rfl) rfl rfl rfl ?_
                  refine Eo.val (x := (.v (.int .i64 y133))) rfl rfl rfl rfl ?_
                  obtain ⟨x173, hvx173, H⟩ := bind_some H
                  refine Eo.idx h8 hvx173 rfl rfl rfl Tryz.underlying23 rfl rfl rfl rfl ?_
                  rintro cs174 p175 _ hat176 rfl
                  refine Eo.val (x := (.v (.int .i64 x173))) (op_loadSp hat176 0 rfl rfl rfl rfl rfl) rfl rfl rfl ?_
                  refine Eo.val (x := (.v (.bool (x169 != x173)))) rfl rfl rfl rfl ?_
                  refine Eo.nil ?_
                  obtain rfl := Option.some.inj H
                  exact And.intro rfl (And.intro rfl ⟨(Hp.front (Hp.front hp0 1) 1), (.cons rfl (.cons rfl (.cons rfl (.cons rfl (.cons rfl (.nil'))))))⟩)
                · skip
                  intro x φ179 σ178 hJ
                  obtain ⟨rfl, hp177, hf180⟩ := hJ
                  refine Ec.of (F := [(2, (.ptr b9 0)), (3, (.ptr b12 0)), (50, (.v (.int .i64 ((p0.f_Times.length : Nat) : Int)))), (51, (.v (.int .i64 y133))), (64, (.v (.bool x168)))]) hf180 ?_
                  refine Ec.cond (t := x168) rfl (fun hc181 => ?_) (fun hc181 => ?_)
                  · have H := cond_t hc181 H
                    refine Ec.seq ?_
                    refine Ec.region ?_
                    refine Eo.val (x := (.v (.bool false))) rfl rfl rfl rfl ?_
                    refine Eo.nil ?_
                    obtain rfl := Option.some.inj H
                    refine Ec.ret ?_
                    refine And.intro rfl (Ret.mk rfl ?_)
                    exact ⟨rfl, (Hp.drop (Hp.drop hp177 0) 0)⟩
                  · have H := cond_f hc181 H
                    refine Ec.skip ?_
                    refine Ec.region ?_
                    refine Eo.val (x := (.v (.int .i64 (IntKind.wrap .i64 (y133 + 1))))) rfl rfl rfl rfl ?_
                    refine Eo.val (x := (.v (.int .i64 (IntKind.wrap .i64 (y133 + 1))))) rfl rfl rfl rfl ?_
                    refine Eo.nil ?_
                    exact Ec.of (.cons rfl (.cons rfl (.cons rfl (.cons rfl (.nil'))))) (ih ((IntKind.wrap .i64 (y133 + 1)), ()) _ (Hp.front (Hp.front hp177 1) 1) H)
              · have H := cond_f hc159 H
                refine Ec.exit ?_
                obtain rfl := Option.some.inj H
                exact And.intro rfl ⟨(Hp.drop (Hp.drop hp0 0) 0), (.nil')⟩
            · rcases v184 with _ | r190
              · intro x φ188 σ187 hJ
                obtain ⟨rfl, hp186, hf189⟩ := hJ
                refine Ec.of (F := []) hf189 ?_
                refine Ec.seq ?_
                refine Ec.region ?_
                refine Eo.val (x := (.v (.bool true))) rfl rfl rfl rfl ?_
                refine Eo.nil ?_
                obtain rfl := Option.some.inj H
                refine Ec.ret ?_
                refine Ret.mk rfl ?_
                exact ⟨rfl, hp186⟩
              · intro x φ191 σ192 hJ
                obtain rfl := Option.some.inj H
                obtain ⟨rfl, hr⟩ := hJ
                exact hr
          · intro x φ194 σ195 hJ
            obtain rfl := Option.some.inj H
            obtain ⟨rfl, hr⟩ := hJ
            exact hr

def gdovetaillaw12_ExprPrints (n : Nat) (p0 : TLin) : Option (Bool) := ((gdovetailref12_Copy n p0).bind fun r7 => ((gexpr_Print n r7).bind fun v => match v with | (r15, r16) => ((gdovetailref12_Normal n p0).bind fun r19 => (cond (!r19) (some ((decide (r15 = (ByteArray.mk #[]))) && (r16 == 121))) (((gexpr_Parse n r15).bind fun v => match v with | (r29, r30, r31) => (((cond (r16 == 0) (((gdovetailref12_Print n p0).bind fun r49 => some (decide (r15 = r49)))) (some false)) : Option (Bool)).bind fun x47 => (((cond (x47 && (r31 == 0)) (((gdovetailref12_Same n r29 p0).bind fun r67 => some r67)) (some false)) : Option (Bool)).bind fun x65 => some x65))))))))

def gdovetaillaw12_ExprPrints_post (R : List Res) (r : Bool) (x : A) (s : St) : Prop := x = (.v (.bool r)) ∧ Hp s (R)

theorem gdovetaillaw12_ExprPrints_ok {n : Nat} {p0 : TLin} {a1 a3 : A} (h2 : Sl rS a1 p0.f_Syms) (h4 : Sl (rI .i64) a3 p0.f_Times) {r : Bool} (H : gdovetaillaw12_ExprPrints n p0 = some r) : Ca cfg 3 [(.agg [a1, a3, (.v (.int .i64 p0.f_Off))])] σ0 (gdovetaillaw12_ExprPrints_post [] r) := by
  unfold gdovetaillaw12_ExprPrints at H
  refine Ca.enterL (G := [(0, (.agg [a1, a3, (.v (.int .i64 p0.f_Off))]))]) Tryz.func3 rfl rfl rfl rfl ?_
  refine Ec.seq ?_
  refine Ec.region ?_
  refine Eo.boxC (b := 0) rfl rfl (by simp [allOne, A.cells, h2.isOne, h4.isOne]) rfl rfl rfl rfl rfl ?_
  refine Eo.val (x := (.v (.bool false))) rfl rfl rfl rfl ?_
  refine Eo.nil ?_
  refine Ec.seq ?_
  refine Ec.seq ?_
  refine Ec.region ?_
  refine Eo.call rfl rfl rfl rfl (galive1 _) ?_
  rintro _ σ6 ⟨rfl, hp5⟩
  change Hp σ6 (.blk 0 (.cells [a1, a3, (.v (.int .i64 p0.f_Off))] 25) :: ([] : List Res)) at hp5
  refine Eo.val (x := (.v (.bool false))) rfl rfl rfl rfl ?_
  refine Eo.nil ?_
  refine Ec.cond (t := false) rfl (fun h => nomatch h) (fun h => ?_)
  refine Ec.skip ?_
  refine Ec.seq ?_
  refine Ec.region ?_
  refine Eo.val (x := (.agg [a1, a3, (.v (.int .i64 p0.f_Off))])) (op_loadB hp5 0 rfl rfl rfl rfl) rfl rfl rfl ?_
  obtain ⟨r7, hvr7, H⟩ := bind_some H
  refine Eo.call rfl rfl rfl rfl (gdovetailref12_Copy_ok h2 h4 hp5 hvr7) ?_
  rintro _ σ13 ⟨a8, a10, rfl, h9, h11, hp12⟩
  change Hp σ13 (.app a8 9 :: .app a10 3 :: .blk 0 (.cells [a1, a3, (.v (.int .i64 p0.f_Off))] 25) :: ([] : List Res)) at hp12
  obtain ⟨r14, hvr14, H⟩ := bind_some H
  refine Eo.call rfl rfl rfl rfl (gexpr_Print_ok h9 h11 hp12 hvr14) ?_
  obtain ⟨r15, r16⟩ := r14
  rintro _ σ18 ⟨rfl, hp17⟩
  refine Eo.val (x := (.tup [(.v (.string r15)), (.v (.int .i64 r16))])) rfl rfl rfl rfl ?_
  refine Eo.val (x := (.v (.string r15))) rfl rfl rfl rfl ?_
  refine Eo.val (x := (.v (.int .i64 r16))) rfl rfl rfl rfl ?_
  refine Eo.val (x := (.v (.string r15))) rfl rfl rfl rfl ?_
  refine Eo.val (x := (.v (.int .i64 r16))) rfl rfl rfl rfl ?_
  refine Eo.nil ?_
  refine Ec.seq ?_
  refine Ec.seq ?_
  refine Ec.region ?_
  refine Eo.val (x := (.agg [a1, a3, (.v (.int .i64 p0.f_Off))])) (op_loadB hp17 2 rfl rfl rfl rfl) rfl rfl rfl ?_
  obtain ⟨r19, hvr19, H⟩ := bind_some H
  refine Eo.call rfl rfl rfl rfl (gdovetailref12_Normal_ok h2 h4 hp17 hvr19) ?_
  rintro _ σ21 ⟨rfl, hp20⟩
  refine Eo.val (x := (.v (.bool (!r19)))) rfl rfl rfl rfl ?_
  refine Eo.nil ?_
  refine Ec.cond (t := (!r19)) rfl (fun hc22 => ?_) (fun hc22 => ?_)
  · have H := cond_t hc22 H
    refine Ec.seq ?_
    refine Ec.region ?_
    refine Eo.val (x := (.v (.string r15))) rfl rfl rfl rfl ?_
    refine Eo.val (x := (.v (.bool (decide (r15 = (ByteArray.mk #[])))))) (val_b rfl (seq_eq _ _)) rfl rfl rfl ?_
    refine Eo.val (x := (.v (.bool (decide (r15 = (ByteArray.mk #[])))))) rfl rfl rfl rfl ?_
    refine Eo.cutF 3 [(2, (.v (.bool false))), (24, (.v (.bool ((decide (r15 = (ByteArray.mk #[]))) && (r16 == 121)))))] ?_ ?_
    · skip
      cases hc25 : (decide (r15 = (ByteArray.mk #[])))
      · skip
        refine Eo.off rfl rfl rfl ?_
        refine Eo.off rfl rfl rfl ?_
        refine Eo.val (x := (.v (.bool false))) rfl rfl rfl rfl ?_
        exact Eo.nil (And.intro rfl (And.intro rfl (.cons rfl (.cons rfl (.nil')))))
      · skip
        refine Eo.val (x := (.v (.int .i64 r16))) rfl rfl rfl rfl ?_
        refine Eo.val (x := (.v (.bool (r16 == 121)))) rfl rfl rfl rfl ?_
        refine Eo.val (x := (.v (.bool (r16 == 121)))) rfl rfl rfl rfl ?_
        exact Eo.nil (And.intro rfl (And.intro rfl (.cons rfl (.cons rfl (.nil')))))
    · skip
      refine Eo.val (x := (.v (.bool ((decide (r15 = (ByteArray.mk #[]))) && (r16 == 121))))) rfl rfl rfl rfl ?_
      refine Eo.nil ?_
      obtain rfl := Option.some.inj H
      refine Ec.ret ?_
      refine Ret.mk rfl ?_
      exact ⟨rfl, (Hp.drop (Hp.drop (Hp.drop hp20 0) 0) 0)⟩
  · have H := cond_f hc22 H
    refine Ec.skip ?_
    refine Ec.seq ?_
    refine Ec.region ?_
    refine Eo.val (x := (.v (.string r15))) rfl rfl rfl rfl ?_
    obtain ⟨r28, hvr28, H⟩ := bind_some H
    refine Eo.call rfl rfl rfl rfl (gexpr_Parse_ok hp20 hvr28) ?_
    obtain ⟨r29, r30, r31⟩ := r28
    rintro _ σ37 ⟨a32, a34, rfl, h33, h35, hp36⟩
    change Hp σ37 (.app a32 9 :: .app a34 3 :: .app a8 9 :: .app a10 3 :: .blk 0 (.cells [a1, a3, (.v (.int .i64 p0.f_Off))] 25) :: ([] : List Res)) at hp36
    refine Eo.val (x := (.tup [(.agg [a32, a34, (.v (.int .i64 r29.f_Off))]), (.v (.int .i64 r30)), (.v (.int .i64 r31))])) rfl rfl rfl rfl ?_
    refine Eo.val (x := (.agg [a32, a34, (.v (.int .i64 r29.f_Off))])) rfl rfl rfl rfl ?_
    refine Eo.val (x := (.v (.int .i64 r30))) rfl rfl rfl rfl ?_
    refine Eo.val (x := (.v (.int .i64 r31))) rfl rfl rfl rfl ?_
    refine Eo.alloc (z := [nilS, nilS, (.v (.int .i64 0))]) hp36 rfl rfl rfl rfl rfl ?_
    intro b38 σ40 hp39
    refine Eo.store hp39 0 rfl (storeCells_mk rfl rfl rfl (by simp [allOne, A.cells, h33.isOne, h35.isOne]) rfl rfl) rfl rfl rfl rfl rfl ?_
    intro σ42 hp41
    change Hp σ42 (.blk b38 (.cells [a32, a34, (.v (.int .i64 r29.f_Off))] 25) :: .app a32 9 :: .app a34 3 :: .app a8 9 :: .app a10 3 :: .blk 0 (.cells [a1, a3, (.v (.int .i64 p0.f_Off))] 25) :: ([] : List Res)) at hp41
    refine Eo.val (x := (.v (.int .i64 r30))) rfl rfl rfl rfl ?_
    refine Eo.val (x := (.v (.int .i64 r31))) rfl rfl rfl rfl ?_
    refine Eo.nil ?_
    refine Ec.seq ?_
    refine Ec.region ?_
    refine Eo.val (x := (.v (.int .i64 r16))) rfl rfl rfl rfl ?_
    refine Eo.val (x := (.v (.bool (r16 == 0)))) rfl rfl rfl rfl ?_
    refine Eo.val (x := (.v (.bool (r16 == 0)))) rfl rfl rfl rfl ?_
    obtain ⟨x47, hv77, H⟩ := bind_some H
    refine Eo.cutN 5 (J := (fun (x47 : Bool) (x : X) (φ : Fr) (s : St) => x = .normal ∧ (Hp s (.blk 0 (.cells [a1, a3, (.v (.int .i64 p0.f_Off))] 25) :: .blk b38 (.cells [a32, a34, (.v (.int .i64 r29.f_Off))] 25) :: .app a32 9 :: .app a34 3 :: ([] : List Res)) ∧ Fl [(1, (.ptr 0 0)), (2, (.v (.bool false))), (5, (.ptr b38 0)), (7, (.v (.int .i64 r31))), (38, (.v (.bool x47)))] φ)) x47) ?_ ?_
    · have H := hv77
      cases hc48 : (r16 == 0)
      · have H := cond_f hc48 H
        refine Eo.off rfl rfl rfl ?_
        refine Eo.off rfl rfl rfl ?_
        refine Eo.off rfl rfl rfl ?_
        refine Eo.off rfl rfl rfl ?_
        refine Eo.val (x := (.v (.bool false))) rfl rfl rfl rfl ?_
        refine Eo.nil ?_
        obtain rfl := Option.some.inj H
        exact And.intro rfl ⟨(Hp.front (Hp.front (Hp.front (Hp.front (Hp.drop (Hp.drop hp41 3) 3) 2) 2) 2) 3), (.cons rfl (.cons rfl (.cons rfl (.cons rfl (.cons rfl (.nil'))))))⟩
      · have H := cond_t hc48 H
        refine Eo.val (x := (.v (.string r15))) rfl rfl rfl rfl ?_
        refine Eo.val (x := (.agg [a1, a3, (.v (.int .i64 p0.f_Off))])) (op_loadB hp41 5 rfl rfl rfl rfl) rfl rfl rfl ?_
        obtain ⟨r49, hvr49, H⟩ := bind_some H
        refine Eo.call rfl rfl rfl rfl (gdovetailref12_Print_ok h2 h4 hp41 hvr49) ?_
        rintro _ σ51 ⟨rfl, hp50⟩
        refine Eo.val (x := (.v (.bool (decide (r15 = r49))))) (val_b rfl (seq_eq _ _)) rfl rfl rfl ?_
        refine Eo.val (x := (.v (.bool (decide (r15 = r49))))) rfl rfl rfl rfl ?_
        refine Eo.nil ?_
        obtain rfl := Option.some.inj H
        exact And.intro rfl ⟨(Hp.front (Hp.front (Hp.front (Hp.front (Hp.drop (Hp.drop hp50 3) 3) 2) 2) 2) 3), (.cons rfl (.cons rfl (.cons rfl (.cons rfl (.cons rfl (.nil'))))))⟩
    · skip
      intro x φ54 σ53 hJ
      obtain ⟨rfl, hp52, hf55⟩ := hJ
      refine ⟨rfl, Eo.of (F := [(1, (.ptr 0 0)), (2, (.v (.bool false))), (5, (.ptr b38 0)), (7, (.v (.int .i64 r31))), (38, (.v (.bool x47)))]) hf55 ?_⟩
      refine Eo.val (x := (.v (.bool x47))) rfl rfl rfl rfl ?_
      refine Eo.cutF 3 [(1, (.ptr 0 0)), (2, (.v (.bool false))), (5, (.ptr b38 0)), (42, (.v (.bool (x47 && (r31 == 0)))))] ?_ ?_
      · skip
        cases hc58 : x47
        · skip
          refine Eo.off rfl rfl rfl ?_
          refine Eo.off rfl rfl rfl ?_
          refine Eo.val (x := (.v (.bool false))) rfl rfl rfl rfl ?_
          exact Eo.nil (And.intro rfl (And.intro rfl (.cons rfl (.cons rfl (.cons rfl (.cons rfl (.nil')))))))
        · skip
          refine Eo.val (x := (.v (.int .i64 r31))) rfl rfl rfl rfl ?_
          refine Eo.val (x := (.v (.bool (r31 == 0)))) rfl rfl rfl rfl ?_
          refine Eo.val (x := (.v (.bool (r31 == 0)))) rfl rfl rfl rfl ?_
          exact Eo.nil (And.intro rfl (And.intro rfl (.cons rfl (.cons rfl (.cons rfl (.cons rfl (.nil')))))))
      · skip
        refine Eo.val (x := (.v (.bool (x47 && (r31 == 0))))) rfl rfl rfl rfl ?_
        obtain ⟨x65, hv75, H⟩ := bind_some H
        refine Eo.cutN 4 (J := (fun (x65 : Bool) (x : X) (φ : Fr) (s : St) => x = .normal ∧ (Hp s (([] : List Res)) ∧ Fl [(2, (.v (.bool false))), (47, (.v (.bool x65)))] φ)) x65) ?_ ?_
        · have H := hv75
          cases hc66 : (x47 && (r31 == 0))
          · have H := cond_f hc66 H
            refine Eo.off rfl rfl rfl ?_
            refine Eo.off rfl rfl rfl ?_
            refine Eo.off rfl rfl rfl ?_
            refine Eo.val (x := (.v (.bool false))) rfl rfl rfl rfl ?_
            refine Eo.nil ?_
            obtain rfl := Option.some.inj H
            exact And.intro rfl ⟨(Hp.drop (Hp.drop (Hp.drop (Hp.drop hp52 0) 0) 0) 0), (.cons rfl (.cons rfl (.nil')))⟩
          · have H := cond_t hc66 H
            refine Eo.val (x := (.agg [a32, a34, (.v (.int .i64 r29.f_Off))])) (op_loadB hp52 1 rfl rfl rfl rfl) rfl rfl rfl ?_
            refine Eo.val (x := (.agg [a1, a3, (.v (.int .i64 p0.f_Off))])) (op_loadB hp52 0 rfl rfl rfl rfl) rfl rfl rfl ?_
            obtain ⟨r67, hvr67, H⟩ := bind_some H
            refine Eo.call rfl rfl rfl rfl (gdovetailref12_Same_ok h33 h35 h2 h4 hp52 hvr67) ?_
            rintro _ σ69 ⟨rfl, hp68⟩
            refine Eo.val (x := (.v (.bool r67))) rfl rfl rfl rfl ?_
            refine Eo.nil ?_
            obtain rfl := Option.some.inj H
            exact And.intro rfl ⟨(Hp.drop (Hp.drop (Hp.drop (Hp.drop hp68 0) 0) 0) 0), (.cons rfl (.cons rfl (.nil')))⟩
        · skip
          intro x φ72 σ71 hJ
          obtain ⟨rfl, hp70, hf73⟩ := hJ
          refine ⟨rfl, Eo.of (F := [(2, (.v (.bool false))), (47, (.v (.bool x65)))]) hf73 ?_⟩
          refine Eo.val (x := (.v (.bool x65))) rfl rfl rfl rfl ?_
          refine Eo.nil ?_
          obtain rfl := Option.some.inj H
          refine Ec.ret ?_
          refine Ret.mk rfl ?_
          exact ⟨rfl, hp70⟩
end Go.DM
