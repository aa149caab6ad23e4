/- Typed functions of the program's functions, and the walks that show that the calls come to them. No condition. -/
import Derived.Test.YtljjgaakmaifkaaGreatDoorWalkT1
namespace Go.DM
open Go Go.Proofs
set_option maxRecDepth 100000
set_option maxHeartbeats 1000000
theorem gdovetaillaw12_ExprEvals_ok {n : Nat} {p0 : TLin} {p1 : TLin} {p2 : (List Int)} {a1 a3 a5 a7 a9 : A} (h2 : Sl rS a1 p0.f_Syms) (h4 : Sl (rI .i64) a3 p0.f_Times) (h6 : Sl rS a5 p1.f_Syms) (h8 : Sl (rI .i64) a7 p1.f_Times) (h10 : Sl (rI .i64) a9 p2) {r : Bool} (H : gdovetaillaw12_ExprEvals n p0 p1 p2 = some r) : Ca cfg 4 [(.agg [a1, a3, (.v (.int .i64 p0.f_Off))]), (.agg [a5, a7, (.v (.int .i64 p1.f_Off))]), a9] σ0 (gdovetaillaw12_ExprEvals_post [] r) := by
  unfold gdovetaillaw12_ExprEvals at H
  refine Ca.enterL (G := [(0, (.agg [a1, a3, (.v (.int .i64 p0.f_Off))])), (1, (.agg [a5, a7, (.v (.int .i64 p1.f_Off))])), (2, a9)]) Tryz.func4 rfl rfl rfl rfl ?_
  refine Ec.seq ?_
  refine Ec.region ?_
  refine Eo.boxC (b := 0) rfl rfl (by simp [allOne, A.cells, h2.isOne, h4.isOne]) rfl rfl rfl rfl rfl ?_
  refine Eo.boxC (b := 1) rfl rfl (by simp [allOne, A.cells, h6.isOne, h8.isOne]) rfl rfl rfl rfl rfl ?_
  refine Eo.val (x := (.v (.bool false))) rfl rfl rfl rfl ?_
  refine Eo.nil ?_
  refine Ec.seq ?_
  refine Ec.seq ?_
  refine Ec.region ?_
  refine Eo.call rfl rfl rfl rfl (galive2 _ _) ?_
  rintro _ σ12 ⟨rfl, hp11⟩
  change Hp σ12 (.blk 1 (.cells [a5, a7, (.v (.int .i64 p1.f_Off))] 25) :: .blk 0 (.cells [a1, a3, (.v (.int .i64 p0.f_Off))] 25) :: ([] : List Res)) at hp11
  refine Eo.val (x := (.v (.bool false))) rfl rfl rfl rfl ?_
  refine Eo.nil ?_
  refine Ec.cond (t := false) rfl (fun h => nomatch h) (fun h => ?_)
  refine Ec.skip ?_
  refine Ec.seq ?_
  refine Ec.region ?_
  refine Eo.val (x := (.sl 1 [] .ex)) rfl rfl rfl rfl ?_
  have hp15 := Hp.appEx hp11 9 1 []
  refine Eo.val (x := (.ptr 0 0)) rfl rfl rfl rfl ?_
  refine Eo.val (x := a1) (op_loadB hp15 2 rfl rfl rfl rfl) rfl rfl rfl ?_
  obtain ⟨l16, hvl16, H⟩ := bind_some H
  refine Eo.append hp15 0 rfl (.inr ⟨_, _, rfl, .nil⟩ : Sl rS (.sl 1 [] .ex) ([] : List ByteArray)) (New.of h2) hvl16 rfl rfl rfl rfl rfl rfl rfl Tryz.underlying22 rfl Tryz.underlying22 rfl rfl rfl rfl rfl rfl rfl rfl ?_
  intro a17 σ20 h18 hp19
  change Hp σ20 (.app a17 9 :: .blk 1 (.cells [a5, a7, (.v (.int .i64 p1.f_Off))] 25) :: .blk 0 (.cells [a1, a3, (.v (.int .i64 p0.f_Off))] 25) :: ([] : List Res)) at hp19
  refine Eo.val (x := a17) rfl rfl rfl rfl ?_
  refine Eo.nil ?_
  refine Ec.seq ?_
  refine Ec.region ?_
  refine Eo.val (x := a17) rfl rfl rfl rfl ?_
  refine Eo.val (x := (.ptr 1 0)) rfl rfl rfl rfl ?_
  refine Eo.val (x := a5) (op_loadB hp19 1 rfl rfl rfl rfl) rfl rfl rfl ?_
  obtain ⟨l21, hvl21, H⟩ := bind_some H
  refine Eo.append hp19 0 rfl h18 (New.of h6) hvl21 rfl rfl rfl rfl rfl rfl rfl Tryz.underlying22 rfl Tryz.underlying22 rfl rfl rfl rfl rfl rfl rfl rfl ?_
  intro a22 σ25 h23 hp24
  change Hp σ25 (.app a22 9 :: .blk 1 (.cells [a5, a7, (.v (.int .i64 p1.f_Off))] 25) :: .blk 0 (.cells [a1, a3, (.v (.int .i64 p0.f_Off))] 25) :: ([] : List Res)) at hp24
  refine Eo.val (x := a22) rfl rfl rfl rfl ?_
  refine Eo.nil ?_
  refine Ec.seq ?_
  refine Ec.region ?_
  refine Eo.val (x := (.agg [a1, a3, (.v (.int .i64 p0.f_Off))])) (op_loadB hp24 2 rfl rfl rfl rfl) rfl rfl rfl ?_
  refine Eo.val (x := a22) rfl rfl rfl rfl ?_
  refine Eo.val (x := a9) rfl rfl rfl rfl ?_
  obtain ⟨r26, hvr26, H⟩ := bind_some H
  refine Eo.call rfl rfl rfl rfl (gexpr_Eval_ok h2 h4 h23 h10 hp24 hvr26) ?_
  obtain ⟨r27, r28⟩ := r26
  rintro _ σ30 ⟨rfl, hp29⟩
  refine Eo.val (x := (.tup [(.v (.int .i64 r27)), (.v (.bool r28))])) rfl rfl rfl rfl ?_
  refine Eo.val (x := (.v (.int .i64 r27))) rfl rfl rfl rfl ?_
  refine Eo.val (x := (.v (.bool r28))) rfl rfl rfl rfl ?_
  refine Eo.val (x := (.v (.int .i64 r27))) rfl rfl rfl rfl ?_
  refine Eo.val (x := (.v (.bool r28))) rfl rfl rfl rfl ?_
  refine Eo.nil ?_
  refine Ec.seq ?_
  refine Ec.region ?_
  refine Eo.val (x := (.agg [a1, a3, (.v (.int .i64 p0.f_Off))])) (op_loadB hp29 2 rfl rfl rfl rfl) rfl rfl rfl ?_
  refine Eo.val (x := a22) rfl rfl rfl rfl ?_
  refine Eo.val (x := a9) rfl rfl rfl rfl ?_
  obtain ⟨r31, hvr31, H⟩ := bind_some H
  refine Eo.call rfl rfl rfl rfl (gdovetailref12_Eval_ok h2 h4 h23 h10 hp29 hvr31) ?_
  obtain ⟨r32, r33⟩ := r31
  rintro _ σ35 ⟨rfl, hp34⟩
  refine Eo.val (x := (.tup [(.v (.int .i64 r32)), (.v (.bool r33))])) rfl rfl rfl rfl ?_
  refine Eo.val (x := (.v (.int .i64 r32))) rfl rfl rfl rfl ?_
  refine Eo.val (x := (.v (.bool r33))) rfl rfl rfl rfl ?_
  refine Eo.val (x := (.v (.int .i64 r32))) rfl rfl rfl rfl ?_
  refine Eo.val (x := (.v (.bool r33))) rfl rfl rfl rfl ?_
  refine Eo.nil ?_
  refine Ec.seq ?_
  refine Ec.seq ?_
  refine Ec.region ?_
  refine Eo.val (x := (.v (.int .i64 r27))) rfl rfl rfl rfl ?_
  refine Eo.val (x := (.v (.int .i64 r32))) rfl rfl rfl rfl ?_
  refine Eo.val (x := (.v (.bool (r27 != r32)))) rfl rfl rfl rfl ?_
  refine Eo.val (x := (.v (.bool (r27 != r32)))) rfl rfl rfl rfl ?_
  refine Eo.cutF 4 [(2, a9), (3, (.ptr 0 0)), (4, (.ptr 1 0)), (7, a22), (8, (.v (.int .i64 r27))), (9, (.v (.bool r28))), (51, (.v (.bool ((r27 != r32) || (!(r28 == r33))))))] ?_ ?_
  · skip
    cases hc38 : (r27 != r32)
    · skip
      refine Eo.val (x := (.v (.bool r28))) rfl rfl rfl rfl ?_
      refine Eo.val (x := (.v (.bool r33))) rfl rfl rfl rfl ?_
      refine Eo.val (x := (.v (.bool (!(r28 == r33))))) rfl rfl rfl rfl ?_
      refine Eo.val (x := (.v (.bool (!(r28 == r33))))) rfl rfl rfl rfl ?_
      exact Eo.nil (And.intro rfl (And.intro rfl (.cons rfl (.cons rfl (.cons rfl (.cons rfl (.cons rfl (.cons rfl (.cons rfl (.nil'))))))))))
    · skip
      refine Eo.off rfl rfl rfl ?_
      refine Eo.off rfl rfl rfl ?_
      refine Eo.off rfl rfl rfl ?_
      refine Eo.val (x := (.v (.bool true))) rfl rfl rfl rfl ?_
      exact Eo.nil (And.intro rfl (And.intro rfl (.cons rfl (.cons rfl (.cons rfl (.cons rfl (.cons rfl (.cons rfl (.cons rfl (.nil'))))))))))
  · skip
    refine Eo.nil ?_
    refine Ec.cond (t := ((r27 != r32) || (!(r28 == r33)))) rfl (fun hc41 => ?_) (fun hc41 => ?_)
    · have H := cond_t hc41 H
      refine Ec.seq ?_
      refine Ec.region ?_
      refine Eo.val (x := (.v (.bool false))) rfl rfl rfl rfl ?_
      refine Eo.nil ?_
      obtain rfl := Option.some.inj H
      refine Ec.ret ?_
      refine Ret.mk rfl ?_
      exact ⟨rfl, (Hp.drop (Hp.drop (Hp.drop hp34 0) 0) 0)⟩
    · have H := cond_f hc41 H
      refine Ec.skip ?_
      refine Ec.seq ?_
      refine Ec.region ?_
      refine Eo.val (x := (.agg [a5, a7, (.v (.int .i64 p1.f_Off))])) (op_loadB hp34 1 rfl rfl rfl rfl) rfl rfl rfl ?_
      refine Eo.val (x := a22) rfl rfl rfl rfl ?_
      refine Eo.val (x := a9) rfl rfl rfl rfl ?_
      obtain ⟨r42, hvr42, H⟩ := bind_some H
      refine Eo.call rfl rfl rfl rfl (gexpr_Eval_ok h6 h8 h23 h10 hp34 hvr42) ?_
      obtain ⟨r43, r44⟩ := r42
      rintro _ σ46 ⟨rfl, hp45⟩
      refine Eo.val (x := (.tup [(.v (.int .i64 r43)), (.v (.bool r44))])) rfl rfl rfl rfl ?_
      refine Eo.val (x := (.v (.int .i64 r43))) rfl rfl rfl rfl ?_
      refine Eo.val (x := (.v (.bool r44))) rfl rfl rfl rfl ?_
      refine Eo.val (x := (.v (.int .i64 r43))) rfl rfl rfl rfl ?_
      refine Eo.val (x := (.v (.bool r44))) rfl rfl rfl rfl ?_
      refine Eo.nil ?_
      refine Ec.seq ?_
      obtain ⟨v166, hv167, H⟩ := bind_some H
      refine Ec.cut (J := (fun (v : (Int × (List ByteArray) × (List Int) × Int)) (x : X) (φ : Fr) (s : St) => match v with | (x76, x77, x80, x83) => x = .normal ∧ (∃ (b75 : Nat), ∃ (a78 a81 : A), Sl rS a78 x77 ∧ Sl (rI .i64) a81 x80 ∧ Hp s (.blk 0 (.cells [a1, a3, (.v (.int .i64 p0.f_Off))] 25) :: .blk b75 (.cells [a78, a81, (.v (.int .i64 x83))] 25) :: .app a22 9 :: .app a78 9 :: .app a81 3 :: ([] : List Res)) ∧ Fl [(2, a9), (3, (.ptr 0 0)), (7, a22), (8, (.v (.int .i64 r27))), (9, (.v (.bool r28))), (12, (.v (.int .i64 r43))), (13, (.v (.bool r44))), (14, (.ptr b75 0)), (15, (.v (.int .i64 x76)))] φ)) v166) ?_ ?_
      · have H := hv167
        refine Ec.drawnS (by kernel_rfl) ?_
        refine Ed.val (x := (.agg [a1, a3, (.v (.int .i64 p0.f_Off))])) (op_loadB hp45 2 rfl rfl rfl rfl) rfl rfl rfl rfl rfl ?_
        obtain ⟨r84, hvr84, H⟩ := bind_some H
        refine Ed.call (gdovetailref12_Copy_ok h2 h4 hp45 hvr84) rfl rfl rfl rfl rfl (fun _ _ _ => (stF_bef (by kernel_rfl) stF_nil)) ?_
        rintro _ σ90 ⟨a85, a87, rfl, h86, h88, hp89⟩
        change Hp σ90 (.app a85 9 :: .app a87 3 :: .app a22 9 :: .blk 1 (.cells [a5, a7, (.v (.int .i64 p1.f_Off))] 25) :: .blk 0 (.cells [a1, a3, (.v (.int .i64 p0.f_Off))] 25) :: ([] : List Res)) at hp89
        refine Ed.valP (x := (.agg [a5, a7, (.v (.int .i64 p1.f_Off))])) (op_loadB hp89 3 rfl rfl rfl rfl) rfl rfl rfl rfl (stP_op rfl (op_loadB hp45 1 rfl rfl rfl rfl) stP_nil) ?_
        obtain ⟨r91, hvr91, H⟩ := bind_some H
        refine Ed.call (gdovetailref12_Copy_ok h6 h8 hp89 hvr91) rfl rfl rfl rfl rfl (fun _ _ _ => (stF_bef (by kernel_rfl) (stF_bef (by kernel_rfl) stF_nil))) ?_
        rintro _ σ97 ⟨a92, a94, rfl, h93, h95, hp96⟩
        change Hp σ97 (.app a92 9 :: .app a94 3 :: .app a85 9 :: .app a87 3 :: .app a22 9 :: .blk 1 (.cells [a5, a7, (.v (.int .i64 p1.f_Off))] 25) :: .blk 0 (.cells [a1, a3, (.v (.int .i64 p0.f_Off))] 25) :: ([] : List Res)) at hp96
        obtain ⟨r98, hvr98, H⟩ := bind_some H
        refine Ed.call (gexpr_Add_ok h86 h88 h93 h95 hp96 hvr98) rfl rfl rfl rfl rfl (fun _ _ _ => (stF_bef (by kernel_rfl) (stF_bef (by kernel_rfl) stF_nil))) ?_
        obtain ⟨r99, r100⟩ := r98
        rintro _ σ106 ⟨a101, a103, rfl, h102, h104, hp105⟩
        change Hp σ106 (.app a101 9 :: .app a103 3 :: .app a92 9 :: .app a94 3 :: .app a85 9 :: .app a87 3 :: .app a22 9 :: .blk 1 (.cells [a5, a7, (.v (.int .i64 p1.f_Off))] 25) :: .blk 0 (.cells [a1, a3, (.v (.int .i64 p0.f_Off))] 25) :: ([] : List Res)) at hp105
        refine Ed.valP (x := (.tup [(.agg [a101, a103, (.v (.int .i64 r99.f_Off))]), (.v (.int .i64 r100))])) rfl rfl rfl rfl rfl (stP_pure rfl (stP_pure rfl (stP_pure rfl stP_nil))) ?_
        refine Ed.valP (x := (.agg [a101, a103, (.v (.int .i64 r99.f_Off))])) rfl rfl rfl rfl rfl (stP_pure rfl (stP_pure rfl (stP_pure rfl stP_nil))) ?_
        refine Ed.valP (x := (.v (.int .i64 r100))) rfl rfl rfl rfl rfl (stP_pure rfl (stP_pure rfl (stP_pure rfl stP_nil))) ?_
        refine Ed.alloc (z := [nilS, nilS, (.v (.int .i64 0))]) hp105 rfl rfl rfl rfl rfl (fun b' σ' hp' => ((stF_pure rfl (stF_pure rfl (stF_pure rfl (stF_load rfl (op_loadB hp' 8 rfl rfl rfl rfl) (stF_load rfl (op_loadB hp' 9 rfl rfl rfl rfl) stF_nil))))))) ?_
        intro b107 σ109 hp108
        refine Ed.store hp108 0 rfl (storeCells_mk rfl rfl rfl (by simp [allOne, A.cells, h102.isOne, h104.isOne]) rfl rfl) rfl rfl rfl rfl rfl (fun σ' hp' => ((stF_pure rfl (stF_pure rfl (stF_pure rfl (stF_bef (by kernel_rfl) (stF_bef (by kernel_rfl) stF_nil))))))) ?_
        intro σ111 hp110
        change Hp σ111 (.blk b107 (.cells [a101, a103, (.v (.int .i64 r99.f_Off))] 25) :: .app a101 9 :: .app a103 3 :: .app a92 9 :: .app a94 3 :: .app a85 9 :: .app a87 3 :: .app a22 9 :: .blk 1 (.cells [a5, a7, (.v (.int .i64 p1.f_Off))] 25) :: .blk 0 (.cells [a1, a3, (.v (.int .i64 p0.f_Off))] 25) :: ([] : List Res)) at hp110
        refine Ed.valP (x := (.v (.int .i64 r100))) rfl rfl rfl rfl rfl (stP_pure rfl (stP_pure rfl (stP_pure rfl (stP_pure rfl (stP_pure rfl stP_nil))))) ?_
        refine Ed.nil ?_
        obtain rfl := Option.some.inj H
        exact And.intro rfl (And.intro rfl ⟨b107, a101, a103, h102, h104, (Hp.front (Hp.front (Hp.front (Hp.front (Hp.front (Hp.drop (Hp.drop (Hp.drop (Hp.drop (Hp.drop hp110 3) 3) 3) 3) 4) 2) 2) 3) 3) 4), (.cons rfl (.cons rfl (.cons rfl (.cons rfl (.cons rfl (.cons rfl (.cons rfl (.cons rfl (.cons rfl (.nil'))))))))))⟩)
      · skip
        intro x φ114 σ113 hJ
        obtain ⟨x76, x77, x80, x83⟩ := v166
        obtain ⟨rfl, b75, a78, a81, h79, h82, hp112, hf115⟩ := hJ
        refine Ec.of (F := [(2, a9), (3, (.ptr 0 0)), (7, a22), (8, (.v (.int .i64 r27))), (9, (.v (.bool r28))), (12, (.v (.int .i64 r43))), (13, (.v (.bool r44))), (14, (.ptr b75 0)), (15, (.v (.int .i64 x76)))]) hf115 ?_
        refine Ec.seq ?_
        refine Ec.seq ?_
        refine Ec.region ?_
        refine Eo.val (x := (.v (.bool r28))) rfl rfl rfl rfl ?_
        refine Eo.val (x := (.v (.bool (!r28)))) rfl rfl rfl rfl ?_
        refine Eo.val (x := (.v (.bool (!r28)))) rfl rfl rfl rfl ?_
        refine Eo.cutF 3 [(2, a9), (3, (.ptr 0 0)), (7, a22), (8, (.v (.int .i64 r27))), (12, (.v (.int .i64 r43))), (14, (.ptr b75 0)), (15, (.v (.int .i64 x76))), (72, (.v (.bool ((!r28) || (!r44)))))] ?_ ?_
        · skip
          cases hc118 : (!r28)
          · skip
            refine Eo.val (x := (.v (.bool r44))) rfl rfl rfl rfl ?_
            refine Eo.val (x := (.v (.bool (!r44)))) rfl rfl rfl rfl ?_
            refine Eo.val (x := (.v (.bool (!r44)))) rfl rfl rfl rfl ?_
            exact Eo.nil (And.intro rfl (And.intro rfl (.cons rfl (.cons rfl (.cons rfl (.cons rfl (.cons rfl (.cons rfl (.cons rfl (.cons rfl (.nil')))))))))))
          · skip
            refine Eo.off rfl rfl rfl ?_
            refine Eo.off rfl rfl rfl ?_
            refine Eo.val (x := (.v (.bool true))) rfl rfl rfl rfl ?_
            exact Eo.nil (And.intro rfl (And.intro rfl (.cons rfl (.cons rfl (.cons rfl (.cons rfl (.cons rfl (.cons rfl (.cons rfl (.cons rfl (.nil')))))))))))
        · skip
          refine Eo.val (x := (.v (.bool ((!r28) || (!r44))))) rfl rfl rfl rfl ?_
          refine Eo.cutF 3 [(2, a9), (3, (.ptr 0 0)), (7, a22), (8, (.v (.int .i64 r27))), (12, (.v (.int .i64 r43))), (14, (.ptr b75 0)), (76, (.v (.bool (((!r28) || (!r44)) || (x76 != 0)))))] ?_ ?_
          · skip
            cases hc123 : ((!r28) || (!r44))
            · skip
              refine Eo.val (x := (.v (.int .i64 x76))) rfl rfl rfl rfl ?_
              refine Eo.val (x := (.v (.bool (x76 != 0)))) rfl rfl rfl rfl ?_
              refine Eo.val (x := (.v (.bool (x76 != 0)))) rfl rfl rfl rfl ?_
              exact Eo.nil (And.intro rfl (And.intro rfl (.cons rfl (.cons rfl (.cons rfl (.cons rfl (.cons rfl (.cons rfl (.cons rfl (.nil'))))))))))
            · skip
              refine Eo.off rfl rfl rfl ?_
              refine Eo.off rfl rfl rfl ?_
              refine Eo.val (x := (.v (.bool true))) rfl rfl rfl rfl ?_
              exact Eo.nil (And.intro rfl (And.intro rfl (.cons rfl (.cons rfl (.cons rfl (.cons rfl (.cons rfl (.cons rfl (.cons rfl (.nil'))))))))))
          · skip
            refine Eo.nil ?_
            refine Ec.cond (t := (((!r28) || (!r44)) || (x76 != 0))) rfl (fun hc126 => ?_) (fun hc126 => ?_)
            · have H := cond_t hc126 H
              refine Ec.seq ?_
              refine Ec.region ?_
              refine Eo.val (x := (.v (.bool true))) rfl rfl rfl rfl ?_
              refine Eo.nil ?_
              obtain rfl := Option.some.inj H
              refine Ec.ret ?_
              refine Ret.mk rfl ?_
              exact ⟨rfl, (Hp.drop (Hp.drop (Hp.drop (Hp.drop (Hp.drop hp112 0) 0) 0) 0) 0)⟩
            · have H := cond_f hc126 H
              refine Ec.skip ?_
              refine Ec.seq ?_
              refine Ec.region ?_
              refine Eo.val (x := (.agg [a78, a81, (.v (.int .i64 x83))])) (op_loadB hp112 1 rfl rfl rfl rfl) rfl rfl rfl ?_
              refine Eo.val (x := a22) rfl rfl rfl rfl ?_
              refine Eo.val (x := a9) rfl rfl rfl rfl ?_
              obtain ⟨r127, hvr127, H⟩ := bind_some H
              refine Eo.call rfl rfl rfl rfl (gexpr_Eval_ok h79 h82 h23 h10 hp112 hvr127) ?_
              obtain ⟨r128, r129⟩ := r127
              rintro _ σ131 ⟨rfl, hp130⟩
              refine Eo.val (x := (.tup [(.v (.int .i64 r128)), (.v (.bool r129))])) rfl rfl rfl rfl ?_
              refine Eo.val (x := (.v (.int .i64 r128))) rfl rfl rfl rfl ?_
              refine Eo.val (x := (.v (.bool r129))) rfl rfl rfl rfl ?_
              refine Eo.val (x := (.v (.int .i64 r128))) rfl rfl rfl rfl ?_
              refine Eo.val (x := (.v (.bool r129))) rfl rfl rfl rfl ?_
              refine Eo.nil ?_
              refine Ec.seq ?_
              refine Ec.region ?_
              refine Eo.val (x := (.agg [a1, a3, (.v (.int .i64 p0.f_Off))])) (op_loadB hp130 0 rfl rfl rfl rfl) rfl rfl rfl ?_
              obtain ⟨r132, hvr132, H⟩ := bind_some H
              refine Eo.call rfl rfl rfl rfl (gdovetailref12_Copy_ok h2 h4 hp130 hvr132) ?_
              rintro _ σ138 ⟨a133, a135, rfl, h134, h136, hp137⟩
              change Hp σ138 (.app a133 9 :: .app a135 3 :: .blk 0 (.cells [a1, a3, (.v (.int .i64 p0.f_Off))] 25) :: .blk b75 (.cells [a78, a81, (.v (.int .i64 x83))] 25) :: .app a22 9 :: .app a78 9 :: .app a81 3 :: ([] : List Res)) at hp137
              obtain ⟨r139, hvr139, H⟩ := bind_some H
              refine Eo.call rfl rfl rfl rfl (gexpr_Times_ok h134 h136 hp137 hvr139) ?_
              rintro _ σ145 ⟨a140, a142, rfl, h141, h143, hp144⟩
              change Hp σ145 (.app a140 9 :: .app a142 3 :: .app a133 9 :: .app a135 3 :: .blk 0 (.cells [a1, a3, (.v (.int .i64 p0.f_Off))] 25) :: .blk b75 (.cells [a78, a81, (.v (.int .i64 x83))] 25) :: .app a22 9 :: .app a78 9 :: .app a81 3 :: ([] : List Res)) at hp144
              refine Eo.val (x := a22) rfl rfl rfl rfl ?_
              refine Eo.val (x := a9) rfl rfl rfl rfl ?_
              obtain ⟨r146, hvr146, H⟩ := bind_some H
              refine Eo.call rfl rfl rfl rfl (gexpr_Eval_ok h141 h143 h23 h10 hp144 hvr146) ?_
              obtain ⟨r147, r148⟩ := r146
              rintro _ σ150 ⟨rfl, hp149⟩
              refine Eo.val (x := (.tup [(.v (.int .i64 r147)), (.v (.bool r148))])) rfl rfl rfl rfl ?_
              refine Eo.val (x := (.v (.int .i64 r147))) rfl rfl rfl rfl ?_
              refine Eo.val (x := (.v (.bool r148))) rfl rfl rfl rfl ?_
              refine Eo.val (x := (.v (.int .i64 r147))) rfl rfl rfl rfl ?_
              refine Eo.val (x := (.v (.bool r148))) rfl rfl rfl rfl ?_
              refine Eo.nil ?_
              refine Ec.seq ?_
              refine Ec.region ?_
              refine Eo.val (x := (.v (.bool r129))) rfl rfl rfl rfl ?_
              refine Eo.val (x := (.v (.bool r129))) rfl rfl rfl rfl ?_
              refine Eo.cutF 2 [(8, (.v (.int .i64 r27))), (12, (.v (.int .i64 r43))), (16, (.v (.int .i64 r128))), (18, (.v (.int .i64 r147))), (96, (.v (.bool (r129 && r148))))] ?_ ?_
              · skip
                cases hc153 : r129
                · skip
                  refine Eo.off rfl rfl rfl ?_
                  refine Eo.val (x := (.v (.bool false))) rfl rfl rfl rfl ?_
                  exact Eo.nil (And.intro rfl (And.intro rfl (.cons rfl (.cons rfl (.cons rfl (.cons rfl (.cons rfl (.nil'))))))))
                · skip
                  refine Eo.val (x := (.v (.bool r148))) rfl rfl rfl rfl ?_
                  refine Eo.val (x := (.v (.bool r148))) rfl rfl rfl rfl ?_
                  exact Eo.nil (And.intro rfl (And.intro rfl (.cons rfl (.cons rfl (.cons rfl (.cons rfl (.cons rfl (.nil'))))))))
              · skip
                refine Eo.val (x := (.v (.bool (r129 && r148)))) rfl rfl rfl rfl ?_
                refine Eo.cutF 6 [(8, (.v (.int .i64 r27))), (18, (.v (.int .i64 r147))), (103, (.v (.bool ((r129 && r148) && (r128 == (IntKind.wrap .i64 (r27 + r43)))))))] ?_ ?_
                · skip
                  cases hc158 : (r129 && r148)
                  · skip
                    refine Eo.off rfl rfl rfl ?_
                    refine Eo.off rfl rfl rfl ?_
                    refine Eo.off rfl rfl rfl ?_
                    refine Eo.off rfl rfl rfl ?_
                    refine Eo.off rfl rfl rfl ?_
                    refine Eo.val (x := (.v (.bool false))) rfl rfl rfl rfl ?_
                    exact Eo.nil (And.intro rfl (And.intro rfl (.cons rfl (.cons rfl (.cons rfl (.nil'))))))
                  · skip
                    refine Eo.val (x := (.v (.int .i64 r128))) rfl rfl rfl rfl ?_
                    refine Eo.val (x := (.v (.int .i64 r27))) rfl rfl rfl rfl ?_
                    refine Eo.val (x := (.v (.int .i64 r43))) rfl rfl rfl rfl ?_
                    refine Eo.val (x := (.v (.int .i64 (IntKind.wrap .i64 (r27 + r43))))) rfl rfl rfl rfl ?_
                    refine Eo.val (x := (.v (.bool (r128 == (IntKind.wrap .i64 (r27 + r43)))))) rfl rfl rfl rfl ?_
                    refine Eo.val (x := (.v (.bool (r128 == (IntKind.wrap .i64 (r27 + r43)))))) rfl rfl rfl rfl ?_
                    exact Eo.nil (And.intro rfl (And.intro rfl (.cons rfl (.cons rfl (.cons rfl (.nil'))))))
                · skip
                  refine Eo.val (x := (.v (.bool ((r129 && r148) && (r128 == (IntKind.wrap .i64 (r27 + r43))))))) rfl rfl rfl rfl ?_
                  refine Eo.cutF 5 [(109, (.v (.bool (((r129 && r148) && (r128 == (IntKind.wrap .i64 (r27 + r43)))) && (r147 == (IntKind.wrap .i64 (7 * r27)))))))] ?_ ?_
                  · skip
                    cases hc163 : ((r129 && r148) && (r128 == (IntKind.wrap .i64 (r27 + r43))))
                    · skip
                      refine Eo.off rfl rfl rfl ?_
                      refine Eo.off rfl rfl rfl ?_
                      refine Eo.off rfl rfl rfl ?_
                      refine Eo.off rfl rfl rfl ?_
                      refine Eo.val (x := (.v (.bool false))) rfl rfl rfl rfl ?_
                      exact Eo.nil (And.intro rfl (And.intro rfl (.cons rfl (.nil'))))
                    · skip
                      refine Eo.val (x := (.v (.int .i64 r147))) rfl rfl rfl rfl ?_
                      refine Eo.val (x := (.v (.int .i64 r27))) rfl rfl rfl rfl ?_
                      refine Eo.val (x := (.v (.int .i64 (IntKind.wrap .i64 (7 * r27))))) rfl rfl rfl rfl ?_
                      refine Eo.val (x := (.v (.bool (r147 == (IntKind.wrap .i64 (7 * r27)))))) rfl rfl rfl rfl ?_
                      refine Eo.val (x := (.v (.bool (r147 == (IntKind.wrap .i64 (7 * r27)))))) rfl rfl rfl rfl ?_
                      exact Eo.nil (And.intro rfl (And.intro rfl (.cons rfl (.nil'))))
                  · skip
                    refine Eo.val (x := (.v (.bool (((r129 && r148) && (r128 == (IntKind.wrap .i64 (r27 + r43)))) && (r147 == (IntKind.wrap .i64 (7 * r27))))))) rfl rfl rfl rfl ?_
                    refine Eo.nil ?_
                    obtain rfl := Option.some.inj H
                    refine Ec.ret ?_
                    refine Ret.mk rfl ?_
                    exact ⟨rfl, (Hp.drop (Hp.drop (Hp.drop (Hp.drop (Hp.drop (Hp.drop (Hp.drop (Hp.drop (Hp.drop hp149 0) 0) 0) 0) 0) 0) 0) 0) 0)⟩

def gexpr_digits (n : Nat) (p0 : Int) : Option (ByteArray) := (cond (p0 == (-9223372036854775808)) (some (ByteArray.mk #[48, 120, 56, 48, 48, 48, 48, 48, 48, 48, 48, 48, 48, 48, 48, 48, 48, 48])) (((itoaT p0).bind fun r2 => some r2)))

def gexpr_digits_post (R : List Res) (r : ByteArray) (x : A) (s : St) : Prop := x = (.v (.string r)) ∧ Hp s (R)

theorem gexpr_digits_ok {n : Nat} {p0 : Int} {R : List Res} {σ : St} (hp : Hp σ R) {r : ByteArray} (H : gexpr_digits n p0 = some r) : Ca cfg 18 [(.v (.int .i64 p0))] σ (gexpr_digits_post R r) := by
  unfold gexpr_digits at H
  refine Ca.enterL (G := [(0, (.v (.int .i64 p0)))]) Tryz.func18 rfl rfl rfl rfl ?_
  refine Ec.seq ?_
  refine Ec.region ?_
  refine Eo.val (x := (.v (.string (ByteArray.mk #[])))) rfl rfl rfl rfl ?_
  refine Eo.nil ?_
  refine Ec.seq ?_
  refine Ec.seq ?_
  refine Ec.region ?_
  refine Eo.val (x := (.v (.int .i64 p0))) rfl rfl rfl rfl ?_
  refine Eo.val (x := (.v (.bool (p0 == (-9223372036854775808))))) rfl rfl rfl rfl ?_
  refine Eo.nil ?_
  refine Ec.cond (t := (p0 == (-9223372036854775808))) rfl (fun hc1 => ?_) (fun hc1 => ?_)
  · have H := cond_t hc1 H
    refine Ec.seq ?_
    refine Ec.region ?_
    refine Eo.val (x := (.v (.string (ByteArray.mk #[48, 120, 56, 48, 48, 48, 48, 48, 48, 48, 48, 48, 48, 48, 48, 48, 48, 48])))) rfl rfl rfl rfl ?_
    refine Eo.nil ?_
    obtain rfl := Option.some.inj H
    refine Ec.ret ?_
    refine Ret.mk rfl ?_
    exact ⟨rfl, hp⟩
  · have H := cond_f hc1 H
    refine Ec.skip ?_
    refine Ec.seq ?_
    refine Ec.region ?_
    refine Eo.val (x := (.v (.int .i64 p0))) rfl rfl rfl rfl ?_
    obtain ⟨r2, hvr2, H⟩ := bind_some H
    refine Eo.call rfl rfl rfl rfl (prim30_ok hp hvr2) ?_
    rintro _ σ4 ⟨rfl, hp3⟩
    refine Eo.val (x := (.v (.string r2))) rfl rfl rfl rfl ?_
    refine Eo.nil ?_
    obtain rfl := Option.some.inj H
    refine Ec.ret ?_
    refine Ret.mk rfl ?_
    exact ⟨rfl, hp3⟩

def gexpr_Print_L1 (N : Nat) (p0 : TLin) : Nat → Int → (List Int) → Option ((List Int))
  | 0, _, _ => none
  | m + 1, y37, y41 => (cond (decide (y37 < ((p0.f_Syms.length : Nat) : Int))) (((atL p0.f_Syms y37).bind fun x73 => ((atL p0.f_Times y37).bind fun x77 => ((gexpr_digits N x77).bind fun r81 => ((catS r81 (ByteArray.mk #[42])).bind fun s84 => ((catS s84 x73).bind fun s85 => ((catS s85 (ByteArray.mk #[43])).bind fun s86 => ((appL 1 y41 (bs s86)).bind fun l87 => gexpr_Print_L1 N p0 m (IntKind.wrap .i64 (y37 + 1)) l87)))))))) (some y41))

def gexpr_Print (n : Nat) (p0 : TLin) : Option ((ByteArray × Int)) := ((gexpr_normal n p0).bind fun r8 => (cond (!r8) (some ((ByteArray.mk #[]), 121)) (((gexpr_Print_L1 n p0 n 0 ([] : List Int)).bind fun x69 => ((gexpr_digits n p0.f_Off).bind fun r100 => ((appL 1 x69 (bs r100)).bind fun l103 => ((strT l103).bind fun s110 => some (s110, 0))))))))

def gexpr_Print_post (R : List Res) (r : (ByteArray × Int)) (x : A) (s : St) : Prop := x = (.tup [(.v (.string r.1)), (.v (.int .i64 r.2))]) ∧ Hp s (R)

theorem gexpr_Print_ok {n : Nat} {p0 : TLin} {a1 a3 : A} {R : List Res} {σ : St} (h2 : Sl rS a1 p0.f_Syms) (h4 : Sl (rI .i64) a3 p0.f_Times) (hp : Hp σ R) {r : (ByteArray × Int)} (H : gexpr_Print n p0 = some r) : Ca cfg 6 [(.agg [a1, a3, (.v (.int .i64 p0.f_Off))])] σ (gexpr_Print_post R r) := by
  unfold gexpr_Print at H
  refine Ca.enterL (G := [(0, (.agg [a1, a3, (.v (.int .i64 p0.f_Off))]))]) Tryz.func6 rfl rfl rfl rfl ?_
  refine Ec.seq ?_
  refine Ec.region ?_
  refine Eo.box hp rfl (by simp [allOne, A.cells, h2.isOne, h4.isOne]) rfl rfl rfl rfl rfl ?_
  intro b5 σ7 hp6
  refine Eo.val (x := (.v (.string (ByteArray.mk #[])))) rfl rfl rfl rfl ?_
  refine Eo.val (x := (.v (.int .i64 0))) rfl rfl rfl rfl ?_
  refine Eo.nil ?_
  refine Ec.seq ?_
  refine Ec.seq ?_
  refine Ec.region ?_
  refine Eo.val (x := (.agg [a1, a3, (.v (.int .i64 p0.f_Off))])) (op_loadB hp6 0 rfl rfl rfl rfl) rfl rfl rfl ?_
  obtain ⟨r8, hvr8, H⟩ := bind_some H
  refine Eo.call rfl rfl rfl rfl (gexpr_normal_ok h2 h4 hp6 hvr8) ?_
  rintro _ σ10 ⟨rfl, hp9⟩
  refine Eo.val (x := (.v (.bool (!r8)))) rfl rfl rfl rfl ?_
  refine Eo.nil ?_
  refine Ec.cond (t := (!r8)) rfl (fun hc11 => ?_) (fun hc11 => ?_)
  · have H := cond_t hc11 H
    refine Ec.seq ?_
    refine Ec.region ?_
    refine Eo.val (x := (.v (.string (ByteArray.mk #[])))) rfl rfl rfl rfl ?_
    refine Eo.val (x := (.v (.int .i64 121))) rfl rfl rfl rfl ?_
    refine Eo.nil ?_
    obtain rfl := Option.some.inj H
    refine Ec.ret ?_
    refine Ret.mk rfl ?_
    exact ⟨rfl, (Hp.drop hp9 0)⟩
  · have H := cond_f hc11 H
    refine Ec.skip ?_
    refine Ec.seq ?_
    refine Ec.region ?_
    refine Eo.alloc (z := [(.v (.pointer none)), nilS]) hp9 rfl rfl rfl rfl rfl ?_
    intro b12 σ14 hp13
    refine Eo.nil ?_
    refine Ec.seq ?_
    refine Ec.seq ?_
    refine Ec.region ?_
    refine Eo.val (x := (.ptr b5 0)) rfl rfl rfl rfl ?_
    refine Eo.val (x := a1) (op_loadB hp13 1 rfl rfl rfl rfl) rfl rfl rfl ?_
    refine Eo.val (x := (.v (.int .i64 ((p0.f_Syms.length : Nat) : Int)))) (op_lenL h2 rfl rfl rfl rfl rfl Tryz.underlying22) rfl rfl rfl ?_
    refine Eo.val (x := (.v (.int .i64 0))) rfl rfl rfl rfl ?_
    refine Eo.nil ?_
    refine Ec.block ?_
    obtain ⟨x69, hv95, H⟩ := bind_some H
    refine Ec.cut (J := (fun (x69 : (List Int)) (x : X) (φ : Fr) (s : St) => x = (.exit 0) ∧ (∃ (a67 a70 : A), AddrOk a67 b12 ∧ BufIs a70 x69 ∧ Hp s (.blk b5 (.cells [a1, a3, (.v (.int .i64 p0.f_Off))] 25) :: .blk b12 (.cells [a67, a70] 45) :: .app a70 5 :: R) ∧ Fl [(1, (.ptr b5 0)), (4, (.ptr b12 0))] φ)) x69) (Ec.weak (.cons rfl (.cons rfl (.cons rfl (.cons rfl (.cons rfl (.nil')))))) (Ec.loopF (f := (fun m (i : (Int × (List Int)) × (A × A)) => gexpr_Print_L1 n p0 m i.1.1 i.1.2)) (G := (fun (i : (Int × (List Int)) × (A × A)) => ([(1, (.ptr b5 0)), (4, (.ptr b12 0)), (11, a1), (12, (.v (.int .i64 ((p0.f_Syms.length : Nat) : Int)))), (13, (.v (.int .i64 i.1.1)))] : List (Nat × A)))) (I := (fun (i : (Int × (List Int)) × (A × A)) (s : St) => AddrOk i.2.1 b12 ∧ BufIs i.2.2 i.1.2 ∧ Hp s (.blk b5 (.cells [a1, a3, (.v (.int .i64 p0.f_Off))] 25) :: .blk b12 (.cells [i.2.1, i.2.2] 45) :: .app i.2.2 5 :: R))) (J := (fun (x69 : (List Int)) (x : X) (φ : Fr) (s : St) => x = (.exit 0) ∧ (∃ (a67 a70 : A), AddrOk a67 b12 ∧ BufIs a70 x69 ∧ Hp s (.blk b5 (.cells [a1, a3, (.v (.int .i64 p0.f_Off))] 25) :: .blk b12 (.cells [a67, a70] 45) :: .app a70 5 :: R) ∧ Fl [(1, (.ptr b5 0)), (4, (.ptr b12 0))] φ))) (fun _ => rfl) ?_ n ((0, ([] : List Int)), ((.v (.pointer none)), nilS)) _ x69 ⟨(.inl rfl), BufIs.nil, (Hp.front (Hp.front (Hp.appNil hp13 5) 1) 2)⟩ hv95)) ?_
    · rintro m ⟨⟨y37, y41⟩, ⟨a39, a42⟩⟩ σ0 v ⟨h40, h43, hp0⟩ H ih
      change gexpr_Print_L1 n p0 (m + 1) y37 y41 = some v at H
      rw [gexpr_Print_L1] at H
      change Ec _ _ _ [(1, (.ptr b5 0)), (4, (.ptr b12 0)), (11, a1), (12, (.v (.int .i64 ((p0.f_Syms.length : Nat) : Int)))), (13, (.v (.int .i64 y37)))] σ0 _
      refine Ec.seq ?_
      refine Ec.region ?_
      refine Eo.val (x := (.v (.bool (decide (y37 < ((p0.f_Syms.length : Nat) : Int)))))) rfl rfl rfl rfl ?_
      refine Eo.nil ?_
      refine Ec.seq ?_
      refine Ec.cond (t := (decide (y37 < ((p0.f_Syms.length : Nat) : Int)))) rfl (fun hc72 => ?_) (fun hc72 => ?_)
      · have H := cond_t hc72 H
        refine Ec.skip ?_
        refine Ec.seq ?_
        refine Ec.block ?_
        refine Ec.seq ?_
        refine Ec.region ?_
        refine Eo.val (x := (.v (.int .i64 y37))) rfl rfl rfl rfl ?_
        obtain ⟨x73, hvx73, H⟩ := bind_some H
        refine Eo.idx h2 hvx73 rfl rfl rfl Tryz.underlying22 rfl rfl rfl rfl ?_
        rintro cs74 p75 _ hat76 rfl
        refine Eo.val (x := (.v (.string x73))) (op_loadSp hat76 0 rfl rfl rfl rfl rfl) rfl rfl rfl ?_
        refine Eo.val (x := (.v (.int .i64 y37))) rfl rfl rfl rfl ?_
        refine Eo.val (x := (.v (.string x73))) rfl rfl rfl rfl ?_
        refine Eo.nil ?_
        refine Ec.region ?_
        refine Eo.val (x := (.ptr b5 1)) rfl rfl rfl rfl ?_
        refine Eo.val (x := a3) (op_loadB hp0 0 rfl rfl rfl rfl) rfl rfl rfl ?_
        refine Eo.val (x := (.v (.int .i64 y37))) rfl rfl rfl rfl ?_
        obtain ⟨x77, hvx77, H⟩ := bind_some H
        refine Eo.idx h4 hvx77 rfl rfl rfl Tryz.underlying23 rfl rfl rfl rfl ?_
        rintro cs78 p79 _ hat80 rfl
        refine Eo.val (x := (.v (.int .i64 x77))) (op_loadSp hat80 0 rfl rfl rfl rfl rfl) rfl rfl rfl ?_
        obtain ⟨r81, hvr81, H⟩ := bind_some H
        refine Eo.call rfl rfl rfl rfl (gexpr_digits_ok hp0 hvr81) ?_
        rintro _ σ83 ⟨rfl, hp82⟩
        obtain ⟨s84, hvs84, H⟩ := bind_some H
        refine Eo.val (op_catS hvs84 rfl rfl rfl) rfl rfl rfl ?_
        refine Eo.val (x := (.v (.string x73))) rfl rfl rfl rfl ?_
        obtain ⟨s85, hvs85, H⟩ := bind_some H
        refine Eo.val (op_catS hvs85 rfl rfl rfl) rfl rfl rfl ?_
        obtain ⟨s86, hvs86, H⟩ := bind_some H
        refine Eo.val (op_catS hvs86 rfl rfl rfl) rfl rfl rfl ?_
        obtain ⟨l87, hvl87, H⟩ := bind_some H
        refine Eo.call rfl rfl rfl rfl (bld_WriteString h40 h43 (Hp.front (Hp.front hp82 2) 2) hvl87) ?_
        rintro _ σ93 ⟨a88, a89, rfl, h90, h91, hp92⟩
        change Hp σ93 (.blk b12 (.cells [a88, a89] 45) :: .app a89 5 :: .blk b5 (.cells [a1, a3, (.v (.int .i64 p0.f_Off))] 25) :: R) at hp92
        refine Eo.nil ?_
        refine Ec.region ?_
        refine Eo.val (x := (.v (.int .i64 (IntKind.wrap .i64 (y37 + 1))))) rfl rfl rfl rfl ?_
        refine Eo.val (x := (.v (.int .i64 (IntKind.wrap .i64 (y37 + 1))))) rfl rfl rfl rfl ?_
        refine Eo.nil ?_
        exact Ec.of (.cons rfl (.cons rfl (.cons rfl (.cons rfl (.cons rfl (.nil')))))) (ih (((IntKind.wrap .i64 (y37 + 1)), l87), (a88, a89)) _ ⟨h90, h91, (Hp.front (Hp.front (Hp.front hp92 1) 1) 2)⟩ H)
      · have H := cond_f hc72 H
        refine Ec.exit ?_
        obtain rfl := Option.some.inj H
        exact And.intro rfl ⟨a39, a42, h40, h43, (Hp.front (Hp.front (Hp.front hp0 2) 2) 2), (.cons rfl (.cons rfl (.nil')))⟩
    · skip
      intro x φ98 σ97 hJ
      obtain ⟨rfl, a67, a70, h68, h71, hp96, hf99⟩ := hJ
      refine Ec.of (F := [(1, (.ptr b5 0)), (4, (.ptr b12 0))]) hf99 ?_
      refine Ec.seq ?_
      refine Ec.region ?_
      refine Eo.val (x := (.ptr b5 2)) rfl rfl rfl rfl ?_
      refine Eo.val (x := (.v (.int .i64 p0.f_Off))) (op_loadB hp96 0 rfl rfl rfl rfl) rfl rfl rfl ?_
      obtain ⟨r100, hvr100, H⟩ := bind_some H
      refine Eo.call rfl rfl rfl rfl (gexpr_digits_ok hp96 hvr100) ?_
      rintro _ σ102 ⟨rfl, hp101⟩
      obtain ⟨l103, hvl103, H⟩ := bind_some H
      refine Eo.call rfl rfl rfl rfl (bld_WriteString h68 h71 (Hp.front (Hp.front hp101 2) 2) hvl103) ?_
      rintro _ σ109 ⟨a104, a105, rfl, h106, h107, hp108⟩
      change Hp σ109 (.blk b12 (.cells [a104, a105] 45) :: .app a105 5 :: .blk b5 (.cells [a1, a3, (.v (.int .i64 p0.f_Off))] 25) :: R) at hp108
      refine Eo.nil ?_
      refine Ec.seq ?_
      refine Ec.region ?_
      obtain ⟨s110, hvs110, H⟩ := bind_some H
      refine Eo.call rfl rfl rfl rfl (bld_String h106 h107 (Hp.front (Hp.front (Hp.front hp108 2) 2) 2) hvs110) ?_
      rintro _ σ112 ⟨rfl, hp111⟩
      change Hp σ112 (.blk b12 (.cells [a104, a105] 45) :: .app a105 5 :: .blk b5 (.cells [a1, a3, (.v (.int .i64 p0.f_Off))] 25) :: R) at hp111
      refine Eo.val (x := (.v (.string s110))) rfl rfl rfl rfl ?_
      refine Eo.val (x := (.v (.int .i64 0))) rfl rfl rfl rfl ?_
      refine Eo.nil ?_
      obtain rfl := Option.some.inj H
      refine Ec.ret ?_
      refine Ret.mk rfl ?_
      exact ⟨rfl, (Hp.drop (Hp.drop (Hp.drop hp111 0) 0) 0)⟩

def gexpr_parser__next_L1 (N : Nat) (p0_0 : ByteArray) : Nat → Int → Option (Int)
  | 0, _ => none
  | m + 1, y15 => (((cond (decide (y15 < ((p0_0.size : Nat) : Int))) (((atS p0_0 y15).bind fun b35 => some (b35 == 32))) (some false)) : Option (Bool)).bind fun x33 => (cond x33 (gexpr_parser__next_L1 N p0_0 m (IntKind.wrap .i64 (y15 + 1))) (some y15)))

def gexpr_parser__next (n : Nat) (p0_0 : ByteArray) (p0_1 : Int) : Option ((Int × Int)) := ((gexpr_parser__next_L1 n p0_0 n p0_1).bind fun x30 => ((some (x30 == ((p0_0.size : Nat) : Int)) : Option (Bool)).bind fun x51 => (cond x51 (some (0, x30)) (((((atS p0_0 x30).bind fun b59 => some b59) : Option (Int)).bind fun x58 => some (x58, x30))))))

def gexpr_parser__next_post (bq0 : Nat) (p0_0 : ByteArray) (R : List Res) (r : (Int × Int)) (x : A) (s : St) : Prop := x = (.v (.int .u8 r.1)) ∧ Hp s (.blk bq0 (.cells [(.v (.string p0_0)), (.v (.int .i64 r.2))] 57) :: R)

theorem gexpr_parser__next_ok {n : Nat} {bq0 : Nat} {p0_0 : ByteArray} {p0_1 : Int} {R : List Res} {σ : St} (hp : Hp σ (.blk bq0 (.cells [(.v (.string p0_0)), (.v (.int .i64 p0_1))] 57) :: R)) {r : (Int × Int)} (H : gexpr_parser__next n p0_0 p0_1 = some r) : Ca cfg 23 [(.ptr bq0 0)] σ (gexpr_parser__next_post bq0 p0_0 R r) := by
  unfold gexpr_parser__next at H
  refine Ca.enterL (G := [(0, (.ptr bq0 0))]) Tryz.func23 rfl rfl rfl rfl ?_
  refine Ec.seq ?_
  refine Ec.region ?_
  refine Eo.val (x := (.v (.int .u8 0))) rfl rfl rfl rfl ?_
  refine Eo.nil ?_
  refine Ec.seq ?_
  refine Ec.block ?_
  obtain ⟨x30, hv46, H⟩ := bind_some H
  refine Ec.cut (J := (fun (x30 : Int) (x : X) (φ : Fr) (s : St) => x = (.exit 0) ∧ (Hp s (.blk bq0 (.cells [(.v (.string p0_0)), (.v (.int .i64 x30))] 57) :: R) ∧ Fl [(0, (.ptr bq0 0))] φ)) x30) (Ec.weak (.cons rfl (.nil')) (Ec.loopF (f := (fun m (i : Int × Unit) => gexpr_parser__next_L1 n p0_0 m i.1)) (G := (fun (i : Int × Unit) => ([(0, (.ptr bq0 0))] : List (Nat × A)))) (I := (fun (i : Int × Unit) (s : St) => Hp s (.blk bq0 (.cells [(.v (.string p0_0)), (.v (.int .i64 i.1))] 57) :: R))) (J := (fun (x30 : Int) (x : X) (φ : Fr) (s : St) => x = (.exit 0) ∧ (Hp s (.blk bq0 (.cells [(.v (.string p0_0)), (.v (.int .i64 x30))] 57) :: R) ∧ Fl [(0, (.ptr bq0 0))] φ))) (fun _ => rfl) ?_ n (p0_1, ()) _ x30 hp hv46)) ?_
  · rintro m ⟨y15, _⟩ σ0 v hp0 H ih
    change gexpr_parser__next_L1 n p0_0 (m + 1) y15 = some v at H
    rw [gexpr_parser__next_L1] at H
    change Ec _ _ _ [(0, (.ptr bq0 0))] σ0 _
    refine Ec.seq ?_
    refine Ec.seq ?_
    obtain ⟨x33, hv44, H⟩ := bind_some H
    refine Ec.cut (J := (fun (x33 : Bool) (x : X) (φ : Fr) (s : St) => x = .normal ∧ (Hp s (.blk bq0 (.cells [(.v (.string p0_0)), (.v (.int .i64 y15))] 57) :: R) ∧ Fl [(0, (.ptr bq0 0)), (24, (.v (.bool x33)))] φ)) x33) ?_ ?_
    · have H := hv44
      refine Ec.drawn2 (by kernel_rfl) ?_
      refine Eo.val (x := (.ptr bq0 0)) rfl rfl rfl rfl ?_
      refine Eo.val (x := (.ptr bq0 0)) rfl rfl rfl rfl ?_
      refine Eo.val (x := (.ptr bq0 1)) rfl rfl rfl rfl ?_
      refine Eo.val (x := (.v (.int .i64 y15))) (op_loadB hp0 0 rfl rfl rfl rfl) rfl rfl rfl ?_
      refine Eo.val (x := (.ptr bq0 0)) rfl rfl rfl rfl ?_
      refine Eo.val (x := (.ptr bq0 0)) rfl rfl rfl rfl ?_
      refine Eo.val (x := (.ptr bq0 0)) rfl rfl rfl rfl ?_
      refine Eo.val (x := (.v (.string p0_0))) (op_loadB hp0 0 rfl rfl rfl rfl) rfl rfl rfl ?_
      refine Eo.val (x := (.v (.int .i64 ((p0_0.size : Nat) : Int)))) (op_len rfl rfl rfl rfl rfl Tryz.underlying9) rfl rfl rfl ?_
      refine Eo.val (x := (.v (.bool (decide (y15 < ((p0_0.size : Nat) : Int)))))) rfl rfl rfl rfl ?_
      refine Eo.val (x := (.v (.bool (decide (y15 < ((p0_0.size : Nat) : Int)))))) rfl rfl rfl rfl ?_
      cases hc34 : (decide (y15 < ((p0_0.size : Nat) : Int)))
      · have H := cond_f hc34 H
        refine Eo.off rfl rfl rfl ?_
        refine Eo.off rfl rfl rfl ?_
        refine Eo.off rfl rfl rfl ?_
        refine Eo.off rfl rfl rfl ?_
        refine Eo.off rfl rfl rfl ?_
        refine Eo.off rfl rfl rfl ?_
        refine Eo.off rfl rfl rfl ?_
        refine Eo.off rfl rfl rfl ?_
        refine Eo.off rfl rfl rfl ?_
        refine Eo.off rfl rfl rfl ?_
        refine Eo.val (x := (.v (.bool false))) rfl rfl rfl rfl ?_
        refine Eo.nil ?_
        obtain rfl := Option.some.inj H
        exact And.intro rfl (And.intro rfl ⟨hp0, (.cons rfl (.cons rfl (.nil')))⟩)
      · have H := cond_t hc34 H
        refine Eo.val (x := (.ptr bq0 0)) rfl rfl rfl rfl ?_
        refine Eo.val (x := (.ptr bq0 0)) rfl rfl rfl rfl ?_
        refine Eo.val (x := (.ptr bq0 0)) rfl rfl rfl rfl ?_
        refine Eo.val (x := (.v (.string p0_0))) (op_loadB hp0 0 rfl rfl rfl rfl) rfl rfl rfl ?_
        refine Eo.val (x := (.ptr bq0 0)) rfl rfl rfl rfl ?_
        refine Eo.val (x := (.ptr bq0 0)) rfl rfl rfl rfl ?_
        refine Eo.val (x := (.ptr bq0 1)) rfl rfl rfl rfl ?_
        refine Eo.val (x := (.v (.int .i64 y15))) (op_loadB hp0 0 rfl rfl rfl rfl) rfl rfl rfl ?_
        obtain ⟨b35, hvb35, H⟩ := bind_some H
        refine Eo.val (op_byteS hvb35 rfl rfl rfl Tryz.underlying9) rfl rfl rfl ?_
        refine Eo.val (x := (.v (.bool (b35 == 32)))) rfl rfl rfl rfl ?_
        refine Eo.val (x := (.v (.bool (b35 == 32)))) rfl rfl rfl rfl ?_
        refine Eo.nil ?_
        obtain rfl := Option.some.inj H
        exact And.intro rfl (And.intro rfl ⟨hp0, (.cons rfl (.cons rfl (.nil')))⟩)
    · skip
      intro x φ38 σ37 hJ
      obtain ⟨rfl, hp36, hf39⟩ := hJ
      refine Ec.of (F := [(0, (.ptr bq0 0)), (24, (.v (.bool x33)))]) hf39 ?_
      refine Ec.cond (t := x33) rfl (fun hc40 => ?_) (fun hc40 => ?_)
      · have H := cond_t hc40 H
        refine Ec.skip ?_
        refine Ec.block ?_
        refine Ec.region ?_
        refine Eo.val (x := (.ptr bq0 0)) rfl rfl rfl rfl ?_
        refine Eo.val (x := (.ptr bq0 0)) rfl rfl rfl rfl ?_
        refine Eo.val (x := (.ptr bq0 1)) rfl rfl rfl rfl ?_
        refine Eo.val (x := (.v (.int .i64 y15))) (op_loadB hp36 0 rfl rfl rfl rfl) rfl rfl rfl ?_
        refine Eo.val (x := (.v (.int .i64 (IntKind.wrap .i64 (y15 + 1))))) rfl rfl rfl rfl ?_
        refine Eo.val (x := (.ptr bq0 0)) rfl rfl rfl rfl ?_
        refine Eo.val (x := (.ptr bq0 1)) rfl rfl rfl rfl ?_
        refine Eo.store hp36 0 rfl (storeCells_mk rfl rfl rfl rfl rfl rfl) rfl rfl rfl rfl rfl ?_
        intro σ42 hp41
        change Hp σ42 (.blk bq0 (.cells [(.v (.string p0_0)), (.v (.int .i64 (IntKind.wrap .i64 (y15 + 1))))] 57) :: R) at hp41
        refine Eo.nil ?_
        exact Ec.of (.cons rfl (.nil')) (ih ((IntKind.wrap .i64 (y15 + 1)), ()) _ hp41 H)
      · have H := cond_f hc40 H
        refine Ec.exit ?_
        obtain rfl := Option.some.inj H
        exact And.intro rfl ⟨hp36, (.cons rfl (.nil'))⟩
  · skip
    intro x φ49 σ48 hJ
    obtain ⟨rfl, hp47, hf50⟩ := hJ
    refine Ec.of (F := [(0, (.ptr bq0 0))]) hf50 ?_
    refine Ec.seq ?_
    refine Ec.seq ?_
    obtain ⟨x51, hv67, H⟩ := bind_some H
    refine Ec.cut (J := (fun (x51 : Bool) (x : X) (φ : Fr) (s : St) => x = .normal ∧ (Hp s (.blk bq0 (.cells [(.v (.string p0_0)), (.v (.int .i64 x30))] 57) :: R) ∧ Fl [(0, (.ptr bq0 0)), (41, (.v (.bool x51)))] φ)) x51) ?_ ?_
    · have H := hv67
      refine Ec.drawn2 (by kernel_rfl) ?_
      refine Eo.val (x := (.ptr bq0 0)) rfl rfl rfl rfl ?_
      refine Eo.val (x := (.ptr bq0 0)) rfl rfl rfl rfl ?_
      refine Eo.val (x := (.ptr bq0 1)) rfl rfl rfl rfl ?_
      refine Eo.val (x := (.v (.int .i64 x30))) (op_loadB hp47 0 rfl rfl rfl rfl) rfl rfl rfl ?_
      refine Eo.val (x := (.ptr bq0 0)) rfl rfl rfl rfl ?_
      refine Eo.val (x := (.ptr bq0 0)) rfl rfl rfl rfl ?_
      refine Eo.val (x := (.ptr bq0 0)) rfl rfl rfl rfl ?_
      refine Eo.val (x := (.v (.string p0_0))) (op_loadB hp47 0 rfl rfl rfl rfl) rfl rfl rfl ?_
      refine Eo.val (x := (.v (.int .i64 ((p0_0.size : Nat) : Int)))) (op_len rfl rfl rfl rfl rfl Tryz.underlying9) rfl rfl rfl ?_
      refine Eo.val (x := (.v (.bool (x30 == ((p0_0.size : Nat) : Int))))) rfl rfl rfl rfl ?_
      refine Eo.nil ?_
      obtain rfl := Option.some.inj H
      exact And.intro rfl (And.intro rfl ⟨hp47, (.cons rfl (.cons rfl (.nil')))⟩)
    · skip
      intro x φ54 σ53 hJ
      obtain ⟨rfl, hp52, hf55⟩ := hJ
      refine Ec.of (F := [(0, (.ptr bq0 0)), (41, (.v (.bool x51)))]) hf55 ?_
      refine Ec.cond (t := x51) rfl (fun hc56 => ?_) (fun hc56 => ?_)
      · have H := cond_t hc56 H
        refine Ec.seq ?_
        refine Ec.region ?_
        refine Eo.val (x := (.v (.int .u8 0))) rfl rfl rfl rfl ?_
        refine Eo.nil ?_
        obtain rfl := Option.some.inj H
        refine Ec.ret ?_
        refine Ret.mk rfl ?_
        exact ⟨rfl, hp52⟩
      · have H := cond_f hc56 H
        refine Ec.skip ?_
        refine Ec.seq ?_
        obtain ⟨x58, hv65, H⟩ := bind_some H
        refine Ec.cut (J := (fun (x58 : Int) (x : X) (φ : Fr) (s : St) => x = .normal ∧ (Hp s (.blk bq0 (.cells [(.v (.string p0_0)), (.v (.int .i64 x30))] 57) :: R) ∧ Fl [(2, (.v (.int .u8 x58)))] φ)) x58) ?_ ?_
        · have H := hv65
          refine Ec.drawn2 (by kernel_rfl) ?_
          refine Eo.val (x := (.ptr bq0 0)) rfl rfl rfl rfl ?_
          refine Eo.val (x := (.ptr bq0 0)) rfl rfl rfl rfl ?_
          refine Eo.val (x := (.ptr bq0 0)) rfl rfl rfl rfl ?_
          refine Eo.val (x := (.v (.string p0_0))) (op_loadB hp52 0 rfl rfl rfl rfl) rfl rfl rfl ?_
          refine Eo.val (x := (.ptr bq0 0)) rfl rfl rfl rfl ?_
          refine Eo.val (x := (.ptr bq0 0)) rfl rfl rfl rfl ?_
          refine Eo.val (x := (.ptr bq0 1)) rfl rfl rfl rfl ?_
          refine Eo.val (x := (.v (.int .i64 x30))) (op_loadB hp52 0 rfl rfl rfl rfl) rfl rfl rfl ?_
          obtain ⟨b59, hvb59, H⟩ := bind_some H
          refine Eo.val (op_byteS hvb59 rfl rfl rfl Tryz.underlying9) rfl rfl rfl ?_
          refine Eo.val (x := (.v (.int .u8 b59))) rfl rfl rfl rfl ?_
          refine Eo.nil ?_
          obtain rfl := Option.some.inj H
          exact And.intro rfl (And.intro rfl ⟨hp52, (.cons rfl (.nil'))⟩)
        · skip
          intro x φ62 σ61 hJ
          obtain ⟨rfl, hp60, hf63⟩ := hJ
          refine Ec.of (F := [(2, (.v (.int .u8 x58)))]) hf63 ?_
          obtain rfl := Option.some.inj H
          refine Ec.ret ?_
          refine Ret.mk rfl ?_
          exact ⟨rfl, hp60⟩

def gexpr_parser__run_L1 (N : Nat) (p0_0 : ByteArray) : Nat → Int → Option (Int)
  | 0, _ => none
  | m + 1, y29 => (((cond (decide (y29 < ((p0_0.size : Nat) : Int))) (((atS p0_0 y29).bind fun b71 => ((gexpr_letter N b71).bind fun r72 => (cond r72 (some true) (((atS p0_0 y29).bind fun b76 => ((gexpr_digit N b76).bind fun r77 => some r77))))))) (some false)) : Option (Bool)).bind fun x69 => (cond x69 (gexpr_parser__run_L1 N p0_0 m (IntKind.wrap .i64 (y29 + 1))) (some y29)))

def gexpr_parser__run (n : Nat) (p0_0 : ByteArray) (p0_1 : Int) : Option ((ByteArray × Int)) := ((gexpr_parser__run_L1 n p0_0 n p0_1).bind fun x58 => ((((subS p0_0 p0_1 x58).bind fun s95 => some s95) : Option (ByteArray)).bind fun x94 => some (x94, x58)))

def gexpr_parser__run_post (bq0 : Nat) (p0_0 : ByteArray) (R : List Res) (r : (ByteArray × Int)) (x : A) (s : St) : Prop := x = (.v (.string r.1)) ∧ Hp s (.blk bq0 (.cells [(.v (.string p0_0)), (.v (.int .i64 r.2))] 57) :: R)

theorem gexpr_parser__run_ok {n : Nat} {bq0 : Nat} {p0_0 : ByteArray} {p0_1 : Int} {R : List Res} {σ : St} (hp : Hp σ (.blk bq0 (.cells [(.v (.string p0_0)), (.v (.int .i64 p0_1))] 57) :: R)) {r : (ByteArray × Int)} (H : gexpr_parser__run n p0_0 p0_1 = some r) : Ca cfg 46 [(.ptr bq0 0)] σ (gexpr_parser__run_post bq0 p0_0 R r) := by
  unfold gexpr_parser__run at H
  refine Ca.enterL (G := [(0, (.ptr bq0 0))]) Tryz.func46 rfl rfl rfl rfl ?_
  refine Ec.seq ?_
  refine Ec.region ?_
  refine Eo.val (x := (.v (.string (ByteArray.mk #[])))) rfl rfl rfl rfl ?_
  refine Eo.nil ?_
  refine Ec.seq ?_
  refine Ec.region ?_
  refine Eo.val (x := (.ptr bq0 0)) rfl rfl rfl rfl ?_
  refine Eo.val (x := (.ptr bq0 0)) rfl rfl rfl rfl ?_
  refine Eo.val (x := (.ptr bq0 1)) rfl rfl rfl rfl ?_
  refine Eo.val (x := (.v (.int .i64 p0_1))) (op_loadB hp 0 rfl rfl rfl rfl) rfl rfl rfl ?_
  refine Eo.val (x := (.v (.int .i64 p0_1))) rfl rfl rfl rfl ?_
  refine Eo.nil ?_
  refine Ec.seq ?_
  refine Ec.block ?_
  obtain ⟨x58, hv88, H⟩ := bind_some H
  refine Ec.cut (J := (fun (x58 : Int) (x : X) (φ : Fr) (s : St) => x = (.exit 0) ∧ (Hp s (.blk bq0 (.cells [(.v (.string p0_0)), (.v (.int .i64 p0_1))] 57) :: R) ∧ Fl [(0, (.ptr bq0 0)), (3, (.v (.int .i64 x58)))] φ)) x58) (Ec.weak (.cons rfl (.cons rfl (.nil'))) (Ec.loopF (f := (fun m (i : Int × Unit) => gexpr_parser__run_L1 n p0_0 m i.1)) (G := (fun (i : Int × Unit) => ([(0, (.ptr bq0 0)), (3, (.v (.int .i64 i.1)))] : List (Nat × A)))) (I := (fun (i : Int × Unit) (s : St) => Hp s (.blk bq0 (.cells [(.v (.string p0_0)), (.v (.int .i64 p0_1))] 57) :: R))) (J := (fun (x58 : Int) (x : X) (φ : Fr) (s : St) => x = (.exit 0) ∧ (Hp s (.blk bq0 (.cells [(.v (.string p0_0)), (.v (.int .i64 p0_1))] 57) :: R) ∧ Fl [(0, (.ptr bq0 0)), (3, (.v (.int .i64 x58)))] φ))) (fun _ => rfl) ?_ n (p0_1, ()) _ x58 hp hv88)) ?_
  · rintro m ⟨y29, _⟩ σ0 v hp0 H ih
    change gexpr_parser__run_L1 n p0_0 (m + 1) y29 = some v at H
    rw [gexpr_parser__run_L1] at H
    change Ec _ _ _ [(0, (.ptr bq0 0)), (3, (.v (.int .i64 y29)))] σ0 _
    refine Ec.seq ?_
    refine Ec.seq ?_
    refine Ec.region ?_
    refine Eo.val (x := (.v (.int .i64 y29))) rfl rfl rfl rfl ?_
    refine Eo.val (x := (.ptr bq0 0)) rfl rfl rfl rfl ?_
    refine Eo.val (x := (.ptr bq0 0)) rfl rfl rfl rfl ?_
    refine Eo.val (x := (.ptr bq0 0)) rfl rfl rfl rfl ?_
    refine Eo.val (x := (.v (.string p0_0))) (op_loadB hp0 0 rfl rfl rfl rfl) rfl rfl rfl ?_
    refine Eo.val (x := (.v (.int .i64 ((p0_0.size : Nat) : Int)))) (op_len rfl rfl rfl rfl rfl Tryz.underlying9) rfl rfl rfl ?_
    refine Eo.val (x := (.v (.bool (decide (y29 < ((p0_0.size : Nat) : Int)))))) rfl rfl rfl rfl ?_
    refine Eo.val (x := (.v (.bool (decide (y29 < ((p0_0.size : Nat) : Int)))))) rfl rfl rfl rfl ?_
    obtain ⟨x69, hv86, H⟩ := bind_some H
    refine Eo.cutN 17 (J := (fun (x69 : Bool) (x : X) (φ : Fr) (s : St) => x = .normal ∧ (Hp s (.blk bq0 (.cells [(.v (.string p0_0)), (.v (.int .i64 p0_1))] 57) :: R) ∧ Fl [(0, (.ptr bq0 0)), (3, (.v (.int .i64 y29))), (33, (.v (.bool x69)))] φ)) x69) ?_ ?_
    · have H := hv86
      cases hc70 : (decide (y29 < ((p0_0.size : Nat) : Int)))
      · have H := cond_f hc70 H
        refine Eo.off rfl rfl rfl ?_
        refine Eo.off rfl rfl rfl ?_
        refine Eo.off rfl rfl rfl ?_
        refine Eo.off rfl rfl rfl ?_
        refine Eo.off rfl rfl rfl ?_
        refine Eo.off rfl rfl rfl ?_
        refine Eo.off rfl rfl rfl ?_
        refine Eo.off rfl rfl rfl ?_
        refine Eo.off rfl rfl rfl ?_
        refine Eo.off rfl rfl rfl ?_
        refine Eo.off rfl rfl rfl ?_
        refine Eo.off rfl rfl rfl ?_
        refine Eo.off rfl rfl rfl ?_
        refine Eo.off rfl rfl rfl ?_
        refine Eo.off rfl rfl rfl ?_
        refine Eo.off rfl rfl rfl ?_
        refine Eo.val (x := (.v (.bool false))) rfl rfl rfl rfl ?_
        refine Eo.nil ?_
        obtain rfl := Option.some.inj H
        exact And.intro rfl ⟨hp0, (.cons rfl (.cons rfl (.cons rfl (.nil'))))⟩
      · have H := cond_t hc70 H
        refine Eo.val (x := (.ptr bq0 0)) rfl rfl rfl rfl ?_
        refine Eo.val (x := (.ptr bq0 0)) rfl rfl rfl rfl ?_
        refine Eo.val (x := (.ptr bq0 0)) rfl rfl rfl rfl ?_
        refine Eo.val (x := (.v (.string p0_0))) (op_loadB hp0 0 rfl rfl rfl rfl) rfl rfl rfl ?_
        refine Eo.val (x := (.v (.int .i64 y29))) rfl rfl rfl rfl ?_
        obtain ⟨b71, hvb71, H⟩ := bind_some H
        refine Eo.val (op_byteS hvb71 rfl rfl rfl Tryz.underlying9) rfl rfl rfl ?_
        obtain ⟨r72, hvr72, H⟩ := bind_some H
        refine Eo.call rfl rfl rfl rfl (gexpr_letter_ok hp0 hvr72) ?_
        rintro _ σ74 ⟨rfl, hp73⟩
        refine Eo.val (x := (.v (.bool r72))) rfl rfl rfl rfl ?_
        cases hc75 : r72
        · have H := cond_f hc75 H
          refine Eo.val (x := (.ptr bq0 0)) rfl rfl rfl rfl ?_
          refine Eo.val (x := (.ptr bq0 0)) rfl rfl rfl rfl ?_
          refine Eo.val (x := (.ptr bq0 0)) rfl rfl rfl rfl ?_
          refine Eo.val (x := (.v (.string p0_0))) (op_loadB hp73 0 rfl rfl rfl rfl) rfl rfl rfl ?_
          refine Eo.val (x := (.v (.int .i64 y29))) rfl rfl rfl rfl ?_
          obtain ⟨b76, hvb76, H⟩ := bind_some H
          refine Eo.val (op_byteS hvb76 rfl rfl rfl Tryz.underlying9) rfl rfl rfl ?_
          obtain ⟨r77, hvr77, H⟩ := bind_some H
          refine Eo.call rfl rfl rfl rfl (gexpr_digit_ok hp73 hvr77) ?_
          rintro _ σ79 ⟨rfl, hp78⟩
          refine Eo.val (x := (.v (.bool r77))) rfl rfl rfl rfl ?_
          refine Eo.val (x := (.v (.bool r77))) rfl rfl rfl rfl ?_
          refine Eo.nil ?_
          obtain rfl := Option.some.inj H
          exact And.intro rfl ⟨hp78, (.cons rfl (.cons rfl (.cons rfl (.nil'))))⟩
        · have H := cond_t hc75 H
          refine Eo.off rfl rfl rfl ?_
          refine Eo.off rfl rfl rfl ?_
          refine Eo.off rfl rfl rfl ?_
          refine Eo.off rfl rfl rfl ?_
          refine Eo.off rfl rfl rfl ?_
          refine Eo.off rfl rfl rfl ?_
          refine Eo.off rfl rfl rfl ?_
          refine Eo.val (x := (.v (.bool true))) rfl rfl rfl rfl ?_
          refine Eo.val (x := (.v (.bool true))) rfl rfl rfl rfl ?_
          refine Eo.nil ?_
          obtain rfl := Option.some.inj H
          exact And.intro rfl ⟨hp73, (.cons rfl (.cons rfl (.cons rfl (.nil'))))⟩
    · skip
      intro x φ82 σ81 hJ
      obtain ⟨rfl, hp80, hf83⟩ := hJ
      refine ⟨rfl, Eo.of (F := [(0, (.ptr bq0 0)), (3, (.v (.int .i64 y29))), (33, (.v (.bool x69)))]) hf83 ?_⟩
      refine Eo.nil ?_
      refine Ec.cond (t := x69) rfl (fun hc84 => ?_) (fun hc84 => ?_)
      · have H := cond_t hc84 H
        refine Ec.skip ?_
        refine Ec.block ?_
        refine Ec.region ?_
        refine Eo.val (x := (.v (.int .i64 y29))) rfl rfl rfl rfl ?_
        refine Eo.val (x := (.v (.int .i64 (IntKind.wrap .i64 (y29 + 1))))) rfl rfl rfl rfl ?_
        refine Eo.val (x := (.v (.int .i64 (IntKind.wrap .i64 (y29 + 1))))) rfl rfl rfl rfl ?_
        refine Eo.nil ?_
        exact Ec.of (.cons rfl (.cons rfl (.nil'))) (ih ((IntKind.wrap .i64 (y29 + 1)), ()) _ hp80 H)
      · have H := cond_f hc84 H
        refine Ec.exit ?_
        obtain rfl := Option.some.inj H
        exact And.intro rfl ⟨hp80, (.cons rfl (.cons rfl (.nil')))⟩
  · skip
    intro x φ91 σ90 hJ
    obtain ⟨rfl, hp89, hf92⟩ := hJ
    refine Ec.of (F := [(0, (.ptr bq0 0)), (3, (.v (.int .i64 x58)))]) hf92 ?_
    refine Ec.seq ?_
    obtain ⟨x94, hv103, H⟩ := bind_some H
    refine Ec.cut (J := (fun (x94 : ByteArray) (x : X) (φ : Fr) (s : St) => x = .normal ∧ (Hp s (.blk bq0 (.cells [(.v (.string p0_0)), (.v (.int .i64 p0_1))] 57) :: R) ∧ Fl [(0, (.ptr bq0 0)), (3, (.v (.int .i64 x58))), (4, (.v (.string x94)))] φ)) x94) ?_ ?_
    · have H := hv103
      refine Ec.drawn2 (by kernel_rfl) ?_
      refine Eo.val (x := (.ptr bq0 0)) rfl rfl rfl rfl ?_
      refine Eo.val (x := (.ptr bq0 0)) rfl rfl rfl rfl ?_
      refine Eo.val (x := (.ptr bq0 0)) rfl rfl rfl rfl ?_
      refine Eo.val (x := (.v (.string p0_0))) (op_loadB hp89 0 rfl rfl rfl rfl) rfl rfl rfl ?_
      refine Eo.val (x := (.ptr bq0 0)) rfl rfl rfl rfl ?_
      refine Eo.val (x := (.ptr bq0 0)) rfl rfl rfl rfl ?_
      refine Eo.val (x := (.ptr bq0 1)) rfl rfl rfl rfl ?_
      refine Eo.val (x := (.v (.int .i64 p0_1))) (op_loadB hp89 0 rfl rfl rfl rfl) rfl rfl rfl ?_
      refine Eo.val (x := (.v (.int .i64 x58))) rfl rfl rfl rfl ?_
      obtain ⟨s95, hvs95, H⟩ := bind_some H
      refine Eo.val (op_partS hvs95 rfl rfl Tryz.underlying9 (.inr ⟨_, _, rfl, rfl⟩) (.inr ⟨_, _, rfl, rfl⟩)) rfl rfl rfl ?_
      refine Eo.val (x := (.v (.string s95))) rfl rfl rfl rfl ?_
      refine Eo.nil ?_
      obtain rfl := Option.some.inj H
      exact And.intro rfl (And.intro rfl ⟨hp89, (.cons rfl (.cons rfl (.cons rfl (.nil'))))⟩)
    · skip
      intro x φ98 σ97 hJ
      obtain ⟨rfl, hp96, hf99⟩ := hJ
      refine Ec.of (F := [(0, (.ptr bq0 0)), (3, (.v (.int .i64 x58))), (4, (.v (.string x94)))]) hf99 ?_
      refine Ec.seq ?_
      refine Ec.region ?_
      refine Eo.val (x := (.ptr bq0 0)) rfl rfl rfl rfl ?_
      refine Eo.val (x := (.v (.int .i64 x58))) rfl rfl rfl rfl ?_
      refine Eo.val (x := (.ptr bq0 0)) rfl rfl rfl rfl ?_
      refine Eo.val (x := (.ptr bq0 1)) rfl rfl rfl rfl ?_
      refine Eo.store hp96 0 rfl (storeCells_mk rfl rfl rfl rfl rfl rfl) rfl rfl rfl rfl rfl ?_
      intro σ101 hp100
      change Hp σ101 (.blk bq0 (.cells [(.v (.string p0_0)), (.v (.int .i64 x58))] 57) :: R) at hp100
      refine Eo.nil ?_
      refine Ec.seq ?_
      refine Ec.region ?_
      refine Eo.val (x := (.v (.string x94))) rfl rfl rfl rfl ?_
      refine Eo.val (x := (.v (.string x94))) rfl rfl rfl rfl ?_
      refine Eo.nil ?_
      obtain rfl := Option.some.inj H
      refine Ec.ret ?_
      refine Ret.mk rfl ?_
      exact ⟨rfl, hp100⟩

def gstringslite_HasPrefix (n : Nat) (p0 : ByteArray) (p1 : ByteArray) : Option (Bool) := (((cond (decide (((p0.size : Nat) : Int) ≥ ((p1.size : Nat) : Int))) (((subS p0 0 ((p1.size : Nat) : Int)).bind fun s5 => some (decide (s5 = p1)))) (some false)) : Option (Bool)).bind fun x3 => some x3)

def gstringslite_HasPrefix_post (R : List Res) (r : Bool) (x : A) (s : St) : Prop := x = (.v (.bool r)) ∧ Hp s (R)

theorem gstringslite_HasPrefix_ok {n : Nat} {p0 : ByteArray} {p1 : ByteArray} {R : List Res} {σ : St} (hp : Hp σ R) {r : Bool} (H : gstringslite_HasPrefix n p0 p1 = some r) : Ca cfg 86 [(.v (.string p0)), (.v (.string p1))] σ (gstringslite_HasPrefix_post R r) := by
  unfold gstringslite_HasPrefix at H
  refine Ca.enterL (G := [(0, (.v (.string p0))), (1, (.v (.string p1)))]) Tryz.func86 rfl rfl rfl rfl ?_
  refine Ec.seq ?_
  refine Ec.region ?_
  refine Eo.val (x := (.v (.bool false))) rfl rfl rfl rfl ?_
  refine Eo.nil ?_
  refine Ec.seq ?_
  refine Ec.region ?_
  refine Eo.val (x := (.v (.string p0))) rfl rfl rfl rfl ?_
  refine Eo.val (x := (.v (.int .i64 ((p0.size : Nat) : Int)))) (op_len rfl rfl rfl rfl rfl Tryz.underlying9) rfl rfl rfl ?_
  refine Eo.val (x := (.v (.string p1))) rfl rfl rfl rfl ?_
  refine Eo.val (x := (.v (.int .i64 ((p1.size : Nat) : Int)))) (op_len rfl rfl rfl rfl rfl Tryz.underlying9) rfl rfl rfl ?_
  refine Eo.val (x := (.v (.bool (decide (((p0.size : Nat) : Int) ≥ ((p1.size : Nat) : Int)))))) rfl rfl rfl rfl ?_
  refine Eo.val (x := (.v (.bool (decide (((p0.size : Nat) : Int) ≥ ((p1.size : Nat) : Int)))))) rfl rfl rfl rfl ?_
  obtain ⟨x3, hv11, H⟩ := bind_some H
  refine Eo.cutN 7 (J := (fun (x3 : Bool) (x : X) (φ : Fr) (s : St) => x = .normal ∧ (Hp s (R) ∧ Fl [(4, (.v (.bool false))), (17, (.v (.bool x3)))] φ)) x3) ?_ ?_
  · have H := hv11
    cases hc4 : (decide (((p0.size : Nat) : Int) ≥ ((p1.size : Nat) : Int)))
    · have H := cond_f hc4 H
      refine Eo.off rfl rfl rfl ?_
      refine Eo.off rfl rfl rfl ?_
      refine Eo.off rfl rfl rfl ?_
      refine Eo.off rfl rfl rfl ?_
      refine Eo.off rfl rfl rfl ?_
      refine Eo.off rfl rfl rfl ?_
      refine Eo.val (x := (.v (.bool false))) rfl rfl rfl rfl ?_
      refine Eo.nil ?_
      obtain rfl := Option.some.inj H
      exact And.intro rfl ⟨hp, (.cons rfl (.cons rfl (.nil')))⟩
    · have H := cond_t hc4 H
      refine Eo.val (x := (.v (.string p0))) rfl rfl rfl rfl ?_
      refine Eo.val (x := (.v (.string p1))) rfl rfl rfl rfl ?_
      refine Eo.val (x := (.v (.int .i64 ((p1.size : Nat) : Int)))) (op_len rfl rfl rfl rfl rfl Tryz.underlying9) rfl rfl rfl ?_
      obtain ⟨s5, hvs5, H⟩ := bind_some H
      refine Eo.val (op_partS hvs5 rfl rfl Tryz.underlying9 (.inl ⟨rfl, rfl⟩) (.inr ⟨_, _, rfl, rfl⟩)) rfl rfl rfl ?_
      refine Eo.val (x := (.v (.string p1))) rfl rfl rfl rfl ?_
      refine Eo.val (x := (.v (.bool (decide (s5 = p1))))) (val_b rfl (seq_eq _ _)) rfl rfl rfl ?_
      refine Eo.val (x := (.v (.bool (decide (s5 = p1))))) rfl rfl rfl rfl ?_
      refine Eo.nil ?_
      obtain rfl := Option.some.inj H
      exact And.intro rfl ⟨hp, (.cons rfl (.cons rfl (.nil')))⟩
  · skip
    intro x φ8 σ7 hJ
    obtain ⟨rfl, hp6, hf9⟩ := hJ
    refine ⟨rfl, Eo.of (F := [(4, (.v (.bool false))), (17, (.v (.bool x3)))]) hf9 ?_⟩
    refine Eo.val (x := (.v (.bool x3))) rfl rfl rfl rfl ?_
    refine Eo.nil ?_
    obtain rfl := Option.some.inj H
    refine Ec.ret ?_
    refine Ret.mk rfl ?_
    exact ⟨rfl, hp6⟩

def gstringslite_CutPrefix (n : Nat) (p0 : ByteArray) (p1 : ByteArray) : Option ((ByteArray × Bool)) := ((gstringslite_HasPrefix n p0 p1).bind fun r1 => (cond (!r1) (some (p0, false)) (((subS p0 ((p1.size : Nat) : Int) ((p0.size : Nat) : Int)).bind fun s5 => some (s5, true)))))

def gstringslite_CutPrefix_post (R : List Res) (r : (ByteArray × Bool)) (x : A) (s : St) : Prop := x = (.tup [(.v (.string r.1)), (.v (.bool r.2))]) ∧ Hp s (R)

theorem gstringslite_CutPrefix_ok {n : Nat} {p0 : ByteArray} {p1 : ByteArray} {R : List Res} {σ : St} (hp : Hp σ R) {r : (ByteArray × Bool)} (H : gstringslite_CutPrefix n p0 p1 = some r) : Ca cfg 66 [(.v (.string p0)), (.v (.string p1))] σ (gstringslite_CutPrefix_post R r) := by
  unfold gstringslite_CutPrefix at H
  refine Ca.enterL (G := [(0, (.v (.string p0))), (1, (.v (.string p1)))]) Tryz.func66 rfl rfl rfl rfl ?_
  refine Ec.seq ?_
  refine Ec.region ?_
  refine Eo.val (x := (.v (.string (ByteArray.mk #[])))) rfl rfl rfl rfl ?_
  refine Eo.val (x := (.v (.bool false))) rfl rfl rfl rfl ?_
  refine Eo.nil ?_
  refine Ec.seq ?_
  refine Ec.seq ?_
  refine Ec.region ?_
  refine Eo.val (x := (.v (.string p0))) rfl rfl rfl rfl ?_
  refine Eo.val (x := (.v (.string p1))) rfl rfl rfl rfl ?_
  obtain ⟨r1, hvr1, H⟩ := bind_some H
  refine Eo.call rfl rfl rfl rfl (gstringslite_HasPrefix_ok hp hvr1) ?_
  rintro _ σ3 ⟨rfl, hp2⟩
  refine Eo.val (x := (.v (.bool (!r1)))) rfl rfl rfl rfl ?_
  refine Eo.nil ?_
  refine Ec.cond (t := (!r1)) rfl (fun hc4 => ?_) (fun hc4 => ?_)
  · have H := cond_t hc4 H
    refine Ec.seq ?_
    refine Ec.region ?_
    refine Eo.val (x := (.v (.string p0))) rfl rfl rfl rfl ?_
    refine Eo.val (x := (.v (.string p0))) rfl rfl rfl rfl ?_
    refine Eo.val (x := (.v (.bool false))) rfl rfl rfl rfl ?_
    refine Eo.nil ?_
    obtain rfl := Option.some.inj H
    refine Ec.ret ?_
    refine Ret.mk rfl ?_
    exact ⟨rfl, hp2⟩
  · have H := cond_f hc4 H
    refine Ec.skip ?_
    refine Ec.seq ?_
    refine Ec.region ?_
    refine Eo.val (x := (.v (.string p0))) rfl rfl rfl rfl ?_
    refine Eo.val (x := (.v (.string p1))) rfl rfl rfl rfl ?_
    refine Eo.val (x := (.v (.int .i64 ((p1.size : Nat) : Int)))) (op_len rfl rfl rfl rfl rfl Tryz.underlying9) rfl rfl rfl ?_
    obtain ⟨s5, hvs5, H⟩ := bind_some H
    refine Eo.val (op_partS hvs5 rfl rfl Tryz.underlying9 (.inr ⟨_, _, rfl, rfl⟩) (.inl ⟨rfl, rfl⟩)) rfl rfl rfl ?_
    refine Eo.val (x := (.v (.string s5))) rfl rfl rfl rfl ?_
    refine Eo.val (x := (.v (.bool true))) rfl rfl rfl rfl ?_
    refine Eo.nil ?_
    obtain rfl := Option.some.inj H
    refine Ec.ret ?_
    refine Ret.mk rfl ?_
    exact ⟨rfl, hp2⟩

def gstrings_CutPrefix (n : Nat) (p0 : ByteArray) (p1 : ByteArray) : Option ((ByteArray × Bool)) := ((gstringslite_CutPrefix n p0 p1).bind fun v => match v with | (r2, r3) => some (r2, r3))

def gstrings_CutPrefix_post (R : List Res) (r : (ByteArray × Bool)) (x : A) (s : St) : Prop := x = (.tup [(.v (.string r.1)), (.v (.bool r.2))]) ∧ Hp s (R)

theorem gstrings_CutPrefix_ok {n : Nat} {p0 : ByteArray} {p1 : ByteArray} {R : List Res} {σ : St} (hp : Hp σ R) {r : (ByteArray × Bool)} (H : gstrings_CutPrefix n p0 p1 = some r) : Ca cfg 54 [(.v (.string p0)), (.v (.string p1))] σ (gstrings_CutPrefix_post R r) := by
  unfold gstrings_CutPrefix at H
  refine Ca.enterL (G := [(0, (.v (.string p0))), (1, (.v (.string p1)))]) Tryz.func54 rfl rfl rfl rfl ?_
  refine Ec.seq ?_
  refine Ec.region ?_
  refine Eo.val (x := (.v (.string (ByteArray.mk #[])))) rfl rfl rfl rfl ?_
  refine Eo.val (x := (.v (.bool false))) rfl rfl rfl rfl ?_
  refine Eo.nil ?_
  refine Ec.seq ?_
  refine Ec.region ?_
  refine Eo.val (x := (.v (.string p0))) rfl rfl rfl rfl ?_
  refine Eo.val (x := (.v (.string p1))) rfl rfl rfl rfl ?_
  obtain ⟨r1, hvr1, H⟩ := bind_some H
  refine Eo.call rfl rfl rfl rfl (gstringslite_CutPrefix_ok hp hvr1) ?_
  obtain ⟨r2, r3⟩ := r1
  rintro _ σ5 ⟨rfl, hp4⟩
  refine Eo.val (x := (.v (.string r2))) rfl rfl rfl rfl ?_
  refine Eo.val (x := (.v (.bool r3))) rfl rfl rfl rfl ?_
  refine Eo.val (x := (.v (.string r2))) rfl rfl rfl rfl ?_
  refine Eo.val (x := (.v (.bool r3))) rfl rfl rfl rfl ?_
  refine Eo.nil ?_
  obtain rfl := Option.some.inj H
  refine Ec.ret ?_
  refine Ret.mk rfl ?_
  exact ⟨rfl, hp4⟩

def gexpr_number (n : Nat) (p0 : ByteArray) : Option ((Int × Bool)) := ((gstrings_CutPrefix n p0 (ByteArray.mk #[48, 120])).bind fun v => match v with | (r2, r3) => (cond r3 (((parseUintT r2 16 64).bind fun v => match v with | (r8, r9) => (((cond ((!r9) && (decide (((r2.size : Nat) : Int) ≤ 16))) (((toLowerT r2).bind fun r23 => some (decide (r23 = r2)))) (some false)) : Option (Bool)).bind fun x21 => some ((IntKind.wrap .i64 r8), x21)))) (((atoiT p0).bind fun v => match v with | (r33, r34) => (((cond (!r34) (((itoaT r33).bind fun r43 => some (decide (r43 = p0)))) (some false)) : Option (Bool)).bind fun x41 => some (r33, x41))))))

def gexpr_number_post (R : List Res) (r : (Int × Bool)) (x : A) (s : St) : Prop := x = (.tup [(.v (.int .i64 r.1)), (.v (.bool r.2))]) ∧ Hp s (R)

theorem gexpr_number_ok {n : Nat} {p0 : ByteArray} {R : List Res} {σ : St} (hp : Hp σ R) {r : (Int × Bool)} (H : gexpr_number n p0 = some r) : Ca cfg 45 [(.v (.string p0))] σ (gexpr_number_post R r) := by
  unfold gexpr_number at H
  refine Ca.enterL (G := [(0, (.v (.string p0)))]) Tryz.func45 rfl rfl rfl rfl ?_
  refine Ec.seq ?_
  refine Ec.region ?_
  refine Eo.val (x := (.v (.int .i64 0))) rfl rfl rfl rfl ?_
  refine Eo.val (x := (.v (.bool false))) rfl rfl rfl rfl ?_
  refine Eo.nil ?_
  refine Ec.seq ?_
  refine Ec.seq ?_
  refine Ec.region ?_
  refine Eo.val (x := (.v (.string p0))) rfl rfl rfl rfl ?_
  obtain ⟨r1, hvr1, H⟩ := bind_some H
  refine Eo.call rfl rfl rfl rfl (gstrings_CutPrefix_ok hp hvr1) ?_
  obtain ⟨r2, r3⟩ := r1
  rintro _ σ5 ⟨rfl, hp4⟩
  refine Eo.val (x := (.tup [(.v (.string r2)), (.v (.bool r3))])) rfl rfl rfl rfl ?_
  refine Eo.val (x := (.v (.string r2))) rfl rfl rfl rfl ?_
  refine Eo.val (x := (.v (.bool r3))) rfl rfl rfl rfl ?_
  refine Eo.val (x := (.v (.string r2))) rfl rfl rfl rfl ?_
  refine Eo.val (x := (.v (.bool r3))) rfl rfl rfl rfl ?_
  refine Eo.nil ?_
  refine Ec.seq ?_
  refine Ec.region ?_
  refine Eo.val (x := (.v (.bool r3))) rfl rfl rfl rfl ?_
  refine Eo.nil ?_
  refine Ec.cond (t := r3) rfl (fun hc6 => ?_) (fun hc6 => ?_)
  · have H := cond_t hc6 H
    refine Ec.seq ?_
    refine Ec.region ?_
    refine Eo.val (x := (.v (.string r2))) rfl rfl rfl rfl ?_
    obtain ⟨r7, hvr7, H⟩ := bind_some H
    refine Eo.call rfl rfl rfl rfl (prim55_ok hp4 hvr7) ?_
    obtain ⟨r8, r9⟩ := r7
    rintro _ σ11 ⟨rfl, hp10⟩
    refine Eo.val (x := (.tup [(.v (.int .u64 r8)), (errA 117 r9)])) rfl rfl rfl rfl ?_
    refine Eo.val (x := (.v (.int .u64 r8))) rfl rfl rfl rfl ?_
    refine Eo.val (x := (errA 117 r9)) rfl rfl rfl rfl ?_
    refine Eo.val (x := (.v (.int .u64 r8))) rfl rfl rfl rfl ?_
    refine Eo.val (x := (errA 117 r9)) rfl rfl rfl rfl ?_
    refine Eo.nil ?_
    refine Ec.seq ?_
    refine Ec.region ?_
    refine Eo.val (x := (.v (.int .u64 r8))) rfl rfl rfl rfl ?_
    refine Eo.val (x := (.v (.int .i64 (IntKind.wrap .i64 r8)))) rfl rfl rfl rfl ?_
    refine Eo.val (x := (errA 117 r9)) rfl rfl rfl rfl ?_
    refine Eo.val (x := (.v (.bool (!r9)))) (op_eqErr rfl rfl rfl Tryz.underlying47 rfl) rfl rfl rfl ?_
    refine Eo.val (x := (.v (.bool (!r9)))) rfl rfl rfl rfl ?_
    refine Eo.cutF 4 [(2, (.v (.int .i64 0))), (3, (.v (.bool false))), (4, (.v (.string r2))), (22, (.v (.int .i64 (IntKind.wrap .i64 r8)))), (29, (.v (.bool ((!r9) && (decide (((r2.size : Nat) : Int) ≤ 16))))))] ?_ ?_
    · skip
      cases hc14 : (!r9)
      · skip
        refine Eo.off rfl rfl rfl ?_
        refine Eo.off rfl rfl rfl ?_
        refine Eo.off rfl rfl rfl ?_
        refine Eo.val (x := (.v (.bool false))) rfl rfl rfl rfl ?_
        exact Eo.nil (And.intro rfl (And.intro rfl (.cons rfl (.cons rfl (.cons rfl (.cons rfl (.cons rfl (.nil'))))))))
      · skip
        refine Eo.val (x := (.v (.string r2))) rfl rfl rfl rfl ?_
        refine Eo.val (x := (.v (.int .i64 ((r2.size : Nat) : Int)))) (op_len rfl rfl rfl rfl rfl Tryz.underlying9) rfl rfl rfl ?_
        refine Eo.val (x := (.v (.bool (decide (((r2.size : Nat) : Int) ≤ 16))))) rfl rfl rfl rfl ?_
        refine Eo.val (x := (.v (.bool (decide (((r2.size : Nat) : Int) ≤ 16))))) rfl rfl rfl rfl ?_
        exact Eo.nil (And.intro rfl (And.intro rfl (.cons rfl (.cons rfl (.cons rfl (.cons rfl (.cons rfl (.nil'))))))))
    · skip
      refine Eo.val (x := (.v (.bool ((!r9) && (decide (((r2.size : Nat) : Int) ≤ 16)))))) rfl rfl rfl rfl ?_
      obtain ⟨x21, hv31, H⟩ := bind_some H
      refine Eo.cutN 5 (J := (fun (x21 : Bool) (x : X) (φ : Fr) (s : St) => x = .normal ∧ (Hp s (R) ∧ Fl [(2, (.v (.int .i64 0))), (3, (.v (.bool false))), (22, (.v (.int .i64 (IntKind.wrap .i64 r8)))), (35, (.v (.bool x21)))] φ)) x21) ?_ ?_
      · have H := hv31
        cases hc22 : ((!r9) && (decide (((r2.size : Nat) : Int) ≤ 16)))
        · have H := cond_f hc22 H
          refine Eo.off rfl rfl rfl ?_
          refine Eo.off rfl rfl rfl ?_
          refine Eo.off rfl rfl rfl ?_
          refine Eo.off rfl rfl rfl ?_
          refine Eo.val (x := (.v (.bool false))) rfl rfl rfl rfl ?_
          refine Eo.nil ?_
          obtain rfl := Option.some.inj H
          exact And.intro rfl ⟨hp10, (.cons rfl (.cons rfl (.cons rfl (.cons rfl (.nil')))))⟩
        · have H := cond_t hc22 H
          refine Eo.val (x := (.v (.string r2))) rfl rfl rfl rfl ?_
          obtain ⟨r23, hvr23, H⟩ := bind_some H
          refine Eo.call rfl rfl rfl rfl (prim56_ok hp10 hvr23) ?_
          rintro _ σ25 ⟨rfl, hp24⟩
          refine Eo.val (x := (.v (.string r2))) rfl rfl rfl rfl ?_
          refine Eo.val (x := (.v (.bool (decide (r23 = r2))))) (val_b rfl (seq_eq _ _)) rfl rfl rfl ?_
          refine Eo.val (x := (.v (.bool (decide (r23 = r2))))) rfl rfl rfl rfl ?_
          refine Eo.nil ?_
          obtain rfl := Option.some.inj H
          exact And.intro rfl ⟨hp24, (.cons rfl (.cons rfl (.cons rfl (.cons rfl (.nil')))))⟩
      · skip
        intro x φ28 σ27 hJ
        obtain ⟨rfl, hp26, hf29⟩ := hJ
        refine ⟨rfl, Eo.of (F := [(2, (.v (.int .i64 0))), (3, (.v (.bool false))), (22, (.v (.int .i64 (IntKind.wrap .i64 r8)))), (35, (.v (.bool x21)))]) hf29 ?_⟩
        refine Eo.val (x := (.v (.int .i64 (IntKind.wrap .i64 r8)))) rfl rfl rfl rfl ?_
        refine Eo.val (x := (.v (.bool x21))) rfl rfl rfl rfl ?_
        refine Eo.nil ?_
        obtain rfl := Option.some.inj H
        refine Ec.ret ?_
        refine Ret.mk rfl ?_
        exact ⟨rfl, hp26⟩
  · have H := cond_f hc6 H
    refine Ec.skip ?_
    refine Ec.seq ?_
    refine Ec.region ?_
    refine Eo.val (x := (.v (.string p0))) rfl rfl rfl rfl ?_
    obtain ⟨r32, hvr32, H⟩ := bind_some H
    refine Eo.call rfl rfl rfl rfl (prim57_ok hp4 hvr32) ?_
    obtain ⟨r33, r34⟩ := r32
    rintro _ σ36 ⟨rfl, hp35⟩
    refine Eo.val (x := (.tup [(.v (.int .i64 r33)), (errA 117 r34)])) rfl rfl rfl rfl ?_
    refine Eo.val (x := (.v (.int .i64 r33))) rfl rfl rfl rfl ?_
    refine Eo.val (x := (errA 117 r34)) rfl rfl rfl rfl ?_
    refine Eo.val (x := (.v (.int .i64 r33))) rfl rfl rfl rfl ?_
    refine Eo.val (x := (errA 117 r34)) rfl rfl rfl rfl ?_
    refine Eo.nil ?_
    refine Ec.seq ?_
    refine Ec.region ?_
    refine Eo.val (x := (.v (.int .i64 r33))) rfl rfl rfl rfl ?_
    refine Eo.val (x := (errA 117 r34)) rfl rfl rfl rfl ?_
    refine Eo.val (x := (.v (.bool (!r34)))) (op_eqErr rfl rfl rfl Tryz.underlying47 rfl) rfl rfl rfl ?_
    refine Eo.val (x := (.v (.bool (!r34)))) rfl rfl rfl rfl ?_
    obtain ⟨x41, hv51, H⟩ := bind_some H
    refine Eo.cutN 5 (J := (fun (x41 : Bool) (x : X) (φ : Fr) (s : St) => x = .normal ∧ (Hp s (R) ∧ Fl [(2, (.v (.int .i64 0))), (3, (.v (.bool false))), (41, (.v (.int .i64 r33))), (49, (.v (.bool x41)))] φ)) x41) ?_ ?_
    · have H := hv51
      cases hc42 : (!r34)
      · have H := cond_f hc42 H
        refine Eo.off rfl rfl rfl ?_
        refine Eo.off rfl rfl rfl ?_
        refine Eo.off rfl rfl rfl ?_
        refine Eo.off rfl rfl rfl ?_
        refine Eo.val (x := (.v (.bool false))) rfl rfl rfl rfl ?_
        refine Eo.nil ?_
        obtain rfl := Option.some.inj H
        exact And.intro rfl ⟨hp35, (.cons rfl (.cons rfl (.cons rfl (.cons rfl (.nil')))))⟩
      · have H := cond_t hc42 H
        refine Eo.val (x := (.v (.int .i64 r33))) rfl rfl rfl rfl ?_
        obtain ⟨r43, hvr43, H⟩ := bind_some H
        refine Eo.call rfl rfl rfl rfl (prim30_ok hp35 hvr43) ?_
        rintro _ σ45 ⟨rfl, hp44⟩
        refine Eo.val (x := (.v (.string p0))) rfl rfl rfl rfl ?_
        refine Eo.val (x := (.v (.bool (decide (r43 = p0))))) (val_b rfl (seq_eq _ _)) rfl rfl rfl ?_
        refine Eo.val (x := (.v (.bool (decide (r43 = p0))))) rfl rfl rfl rfl ?_
        refine Eo.nil ?_
        obtain rfl := Option.some.inj H
        exact And.intro rfl ⟨hp44, (.cons rfl (.cons rfl (.cons rfl (.cons rfl (.nil')))))⟩
    · skip
      intro x φ48 σ47 hJ
      obtain ⟨rfl, hp46, hf49⟩ := hJ
      refine ⟨rfl, Eo.of (F := [(2, (.v (.int .i64 0))), (3, (.v (.bool false))), (41, (.v (.int .i64 r33))), (49, (.v (.bool x41)))]) hf49 ?_⟩
      refine Eo.val (x := (.v (.int .i64 r33))) rfl rfl rfl rfl ?_
      refine Eo.val (x := (.v (.bool x41))) rfl rfl rfl rfl ?_
      refine Eo.nil ?_
      obtain rfl := Option.some.inj H
      refine Ec.ret ?_
      refine Ret.mk rfl ?_
      exact ⟨rfl, hp46⟩

def gexpr_parser__sum_post (bq0 : Nat) (p0_0 : ByteArray) (R : List Res) (r : (PR (TLin × Int) Texpr_fault)) : Out → St → Prop := match r with | .val r => OutV (fun x s => ∃ (a1 a3 : A), x = (.agg [a1, a3, (.v (.int .i64 r.1.f_Off))]) ∧ Sl rS a1 r.1.f_Syms ∧ Sl (rI .i64) a3 r.1.f_Times ∧ Hp s (.blk bq0 (.cells [(.v (.string p0_0)), (.v (.int .i64 r.2))] 57) :: .app a1 9 :: .app a3 3 :: R)) | .pan p => OutP (.ifc 54 (.agg [(.v (.int .i64 p.f_at)), (.v (.int .i64 p.f_e))])) R

def gexpr_parser__factor_rec (N : Nat) (rec22 : ByteArray → Int → Int → Option (PR (TLin × Int) Texpr_fault)) : Nat → ByteArray → Int → Int → Option (PR (TLin × Int) Texpr_fault)
  | 0, _, _, _ => none
  | k + 1, p0_0, p0_1, p1 => ((gexpr_parser__next N p0_0 p0_1).bind fun v => match v with | (r8, r9) => (((cond (((r8 == 40) || (r8 == 45)) && (p1 == 32)) (some (.ret (.pan (Texpr_fault.mk r9 123)))) (some (.out ()))) : Option (LR Unit (PR (TLin × Int) Texpr_fault))).bind fun v => match v with | .out _ => (cond (r8 == 40) (((rec22 p0_0 (IntKind.wrap .i64 (r9 + 1)) (IntKind.wrap .i64 (p1 + 1))).bind fun v => match v with | .val (r31, r36) => ((gexpr_parser__next N p0_0 r36).bind fun v => match v with | (r44, r45) => (((cond (r44 != 41) (some (.ret (.pan (Texpr_fault.mk r45 121)))) (some (.out ()))) : Option (LR Unit (PR (TLin × Int) Texpr_fault))).bind fun v => match v with | .out _ => some (.val (r31, (IntKind.wrap .i64 (r45 + 1)))) | .ret r58 => some r58)) | .pan p66 => some (.pan p66))) ((cond (r8 == 45) ((((gexpr_parser__factor_rec N rec22 k) p0_0 (IntKind.wrap .i64 (r9 + 1)) (IntKind.wrap .i64 (p1 + 1))).bind fun v => match v with | .val (r73, r78) => ((gexpr_plus N (TLin.mk ([] : List ByteArray) ([] : List Int) 0) r73 (-1)).bind fun r81 => some (.val (r81, r78))) | .pan p92 => some (.pan p92))) (((gexpr_digit N r8).bind fun r96 => (cond r96 (((gexpr_parser__run N p0_0 r9).bind fun v => match v with | (r100, r101) => ((gexpr_number N r100).bind fun v => match v with | (r105, r106) => (((cond (!r106) (some (.ret (.pan (Texpr_fault.mk r9 121)))) (some (.out ()))) : Option (LR Unit (PR (TLin × Int) Texpr_fault))).bind fun v => match v with | .out _ => some (.val ((TLin.mk ([] : List ByteArray) ([] : List Int) r105), r101)) | .ret r117 => some r117)))) (((gexpr_letter N r8).bind fun r123 => (cond r123 (((gexpr_parser__run N p0_0 r9).bind fun v => match v with | (r127, r128) => some (.val ((TLin.mk ([r127] : List ByteArray) ([1] : List Int) 0), r128)))) (some (.pan (Texpr_fault.mk r9 121)))))))))))) | .ret r142 => some r142))

def gexpr_parser__factor (n : Nat) (rec22 : ByteArray → Int → Int → Option (PR (TLin × Int) Texpr_fault)) (p0_0 : ByteArray) (p0_1 : Int) (p1 : Int) : Option ((PR (TLin × Int) Texpr_fault)) := gexpr_parser__factor_rec n rec22 n p0_0 p0_1 p1

def gexpr_parser__factor_post (bq0 : Nat) (p0_0 : ByteArray) (R : List Res) (r : (PR (TLin × Int) Texpr_fault)) : Out → St → Prop := match r with | .val r => OutV (fun x s => ∃ (a1 a3 : A), x = (.agg [a1, a3, (.v (.int .i64 r.1.f_Off))]) ∧ Sl rS a1 r.1.f_Syms ∧ Sl (rI .i64) a3 r.1.f_Times ∧ Hp s (.blk bq0 (.cells [(.v (.string p0_0)), (.v (.int .i64 r.2))] 57) :: .app a1 9 :: .app a3 3 :: R)) | .pan p => OutP (.ifc 54 (.agg [(.v (.int .i64 p.f_at)), (.v (.int .i64 p.f_e))])) R

theorem gexpr_parser__factor_rec_ok {n : Nat} {rec22 : ByteArray → Int → Int → Option (PR (TLin × Int) Texpr_fault)} (ih22 : ∀ {bq0 : Nat} {p0_0 : ByteArray} {p0_1 : Int} {p1 : Int} {R : List Res} {σ : St} (hp : Hp σ (.blk bq0 (.cells [(.v (.string p0_0)), (.v (.int .i64 p0_1))] 57) :: R)) {r : (PR (TLin × Int) Texpr_fault)} (H : rec22 p0_0 p0_1 p1 = some r), CaO cfg 22 [(.ptr bq0 0), (.v (.int .i64 p1))] σ (gexpr_parser__sum_post bq0 p0_0 R r)) : ∀ (k : Nat) {bq0 : Nat} {p0_0 : ByteArray} {p0_1 : Int} {p1 : Int} {R : List Res} {σ : St} (hp : Hp σ (.blk bq0 (.cells [(.v (.string p0_0)), (.v (.int .i64 p0_1))] 57) :: R)) {r : (PR (TLin × Int) Texpr_fault)} (H : gexpr_parser__factor_rec n rec22 k p0_0 p0_1 p1 = some r), CaO cfg 41 [(.ptr bq0 0), (.v (.int .i64 p1))] σ (gexpr_parser__factor_post bq0 p0_0 R r) := by
  intro k
  induction k with
  | zero => intro bq0 p0_0 p0_1 p1 R σ hp r H; rw [gexpr_parser__factor_rec] at H; cases H
  | succ k ihR =>
    intro bq0 p0_0 p0_1 p1 R σ hp r H
    rw [gexpr_parser__factor_rec] at H
    refine CaO.enterL (G := [(0, (.ptr bq0 0)), (1, (.v (.int .i64 p1)))]) Tryz.func41 rfl rfl rfl rfl ?_
    refine Ec.seq ?_
    refine Ec.region ?_
    refine Eo.alloc (z := [nilS, nilS, (.v (.int .i64 0))]) hp rfl rfl rfl rfl rfl ?_
    intro b5 σ7 hp6
    refine Eo.nil ?_
    refine Ec.seq ?_
    refine Ec.region ?_
    refine Eo.val (x := (.ptr bq0 0)) rfl rfl rfl rfl ?_
    obtain ⟨r147, hvr147, H⟩ := bind_some H
    refine Eo.call rfl rfl rfl rfl (gexpr_parser__next_ok (Hp.front hp6 1) hvr147) ?_
    obtain ⟨r8, r9⟩ := r147
    rintro _ σ11 ⟨rfl, hp10⟩
    change Hp σ11 (.blk bq0 (.cells [(.v (.string p0_0)), (.v (.int .i64 r9))] 57) :: .blk b5 (.cells [nilS, nilS, (.v (.int .i64 0))] 25) :: R) at hp10
    refine Eo.val (x := (.v (.int .u8 r8))) rfl rfl rfl rfl ?_
    refine Eo.nil ?_
    refine Ec.seq ?_
    refine Ec.region ?_
    refine Eo.val (x := (.ptr bq0 0)) rfl rfl rfl rfl ?_
    refine Eo.val (x := (.ptr bq0 0)) rfl rfl rfl rfl ?_
    refine Eo.val (x := (.ptr bq0 1)) rfl rfl rfl rfl ?_
    refine Eo.val (x := (.v (.int .i64 r9))) (op_loadB hp10 0 rfl rfl rfl rfl) rfl rfl rfl ?_
    refine Eo.val (x := (.v (.int .i64 r9))) rfl rfl rfl rfl ?_
    refine Eo.nil ?_
    refine Ec.seq ?_
    refine Ec.seq ?_
    refine Ec.region ?_
    refine Eo.val (x := (.v (.int .u8 r8))) rfl rfl rfl rfl ?_
    refine Eo.val (x := (.v (.bool (r8 == 40)))) rfl rfl rfl rfl ?_
    refine Eo.val (x := (.v (.bool (r8 == 40)))) rfl rfl rfl rfl ?_
    refine Eo.cutF 3 [(0, (.ptr bq0 0)), (1, (.v (.int .i64 p1))), (4, (.ptr b5 0)), (5, (.v (.int .u8 r8))), (6, (.v (.int .i64 r9))), (21, (.v (.bool ((r8 == 40) || (r8 == 45)))))] ?_ ?_
    · skip
      cases hc14 : (r8 == 40)
      · skip
        refine Eo.val (x := (.v (.int .u8 r8))) rfl rfl rfl rfl ?_
        refine Eo.val (x := (.v (.bool (r8 == 45)))) rfl rfl rfl rfl ?_
        refine Eo.val (x := (.v (.bool (r8 == 45)))) rfl rfl rfl rfl ?_
        exact Eo.nil (And.intro rfl (And.intro rfl (.cons rfl (.cons rfl (.cons rfl (.cons rfl (.cons rfl (.cons rfl (.nil')))))))))
      · skip
        refine Eo.off rfl rfl rfl ?_
        refine Eo.off rfl rfl rfl ?_
        refine Eo.val (x := (.v (.bool true))) rfl rfl rfl rfl ?_
        exact Eo.nil (And.intro rfl (And.intro rfl (.cons rfl (.cons rfl (.cons rfl (.cons rfl (.cons rfl (.cons rfl (.nil')))))))))
    · skip
      refine Eo.val (x := (.v (.bool ((r8 == 40) || (r8 == 45))))) rfl rfl rfl rfl ?_
      refine Eo.cutF 3 [(0, (.ptr bq0 0)), (1, (.v (.int .i64 p1))), (4, (.ptr b5 0)), (5, (.v (.int .u8 r8))), (6, (.v (.int .i64 r9))), (25, (.v (.bool (((r8 == 40) || (r8 == 45)) && (p1 == 32)))))] ?_ ?_
      · skip
        cases hc19 : ((r8 == 40) || (r8 == 45))
        · skip
          refine Eo.off rfl rfl rfl ?_
          refine Eo.off rfl rfl rfl ?_
          refine Eo.val (x := (.v (.bool false))) rfl rfl rfl rfl ?_
          exact Eo.nil (And.intro rfl (And.intro rfl (.cons rfl (.cons rfl (.cons rfl (.cons rfl (.cons rfl (.cons rfl (.nil')))))))))
        · skip
          refine Eo.val (x := (.v (.int .i64 p1))) rfl rfl rfl rfl ?_
          refine Eo.val (x := (.v (.bool (p1 == 32)))) rfl rfl rfl rfl ?_
          refine Eo.val (x := (.v (.bool (p1 == 32)))) rfl rfl rfl rfl ?_
          exact Eo.nil (And.intro rfl (And.intro rfl (.cons rfl (.cons rfl (.cons rfl (.cons rfl (.cons rfl (.cons rfl (.nil')))))))))
      · skip
        refine Eo.nil ?_
        obtain ⟨v145, hv146, H⟩ := bind_some H
        refine Ec.cut (J := (fun (v : LR Unit (PR (TLin × Int) Texpr_fault)) (x : X) (φ : Fr) (s : St) => match v with | .out _ => x = .normal ∧ (Hp s (.blk bq0 (.cells [(.v (.string p0_0)), (.v (.int .i64 r9))] 57) :: .blk b5 (.cells [nilS, nilS, (.v (.int .i64 0))] 25) :: R) ∧ Fl [(0, (.ptr bq0 0)), (1, (.v (.int .i64 p1))), (4, (.ptr b5 0)), (5, (.v (.int .u8 r8))), (6, (.v (.int .i64 r9)))] φ) | .ret r => FinR cfg Tryz.f41 (gexpr_parser__factor_post bq0 p0_0 R r) x φ s) v145) ?_ ?_
        · have H := hv146
          refine Ec.cond (t := (((r8 == 40) || (r8 == 45)) && (p1 == 32))) rfl (fun hc23 => ?_) (fun hc23 => ?_)
          · have H := cond_t hc23 H
            refine Ec.region ?_
            refine Eo.val (x := (.v (.int .i64 r9))) rfl rfl rfl rfl ?_
            refine Eo.val (x := (.agg [(.v (.int .i64 r9)), (.v (.int .i64 123))])) (op_build (lay_cons rfl rfl rfl rfl rfl (lay_cons rfl rfl rfl rfl rfl lay_nil)) rfl (parts_cons rfl rfl (parts_cons rfl rfl rfl)) Tryz.underlying54 rfl rfl) rfl rfl rfl ?_
            refine Eo.val (x := (.ifc 54 (.agg [(.v (.int .i64 r9)), (.v (.int .i64 123))]))) (op_iface rfl rfl Tryz.underlying54 rfl) rfl rfl rfl ?_
            refine Eo.panic rfl rfl rfl ?_
            obtain rfl := Option.some.inj H
            exact Fin.pan (C := cfg) (fn := Tryz.f41) ⟨rfl, (Hp.drop (Hp.drop hp10 0) 0)⟩
          · have H := cond_f hc23 H
            refine Ec.skip ?_
            obtain rfl := Option.some.inj H
            exact And.intro rfl ⟨(Hp.front (Hp.front hp10 1) 1), (.cons rfl (.cons rfl (.cons rfl (.cons rfl (.cons rfl (.nil'))))))⟩
        · rcases v145 with _ | r142
          · intro x φ26 σ25 hJ
            obtain ⟨rfl, hp24, hf27⟩ := hJ
            refine Ec.of (F := [(0, (.ptr bq0 0)), (1, (.v (.int .i64 p1))), (4, (.ptr b5 0)), (5, (.v (.int .u8 r8))), (6, (.v (.int .i64 r9)))]) hf27 ?_
            refine Ec.seq ?_
            refine Ec.block ?_
            refine Ec.seq ?_
            refine Ec.region ?_
            refine Eo.val (x := (.v (.int .u8 r8))) rfl rfl rfl rfl ?_
            refine Eo.val (x := (.v (.bool (r8 == 40)))) rfl rfl rfl rfl ?_
            refine Eo.val (x := (.v (.bool (r8 == 40)))) rfl rfl rfl rfl ?_
            refine Eo.nil ?_
            refine Ec.cond (t := (r8 == 40)) rfl (fun hc28 => ?_) (fun hc28 => ?_)
            · have H := cond_t hc28 H
              refine Ec.seq ?_
              refine Ec.region ?_
              refine Eo.val (x := (.ptr bq0 0)) rfl rfl rfl rfl ?_
              refine Eo.val (x := (.ptr bq0 0)) rfl rfl rfl rfl ?_
              refine Eo.val (x := (.ptr bq0 1)) rfl rfl rfl rfl ?_
              refine Eo.val (x := (.v (.int .i64 r9))) (op_loadB hp24 0 rfl rfl rfl rfl) rfl rfl rfl ?_
              refine Eo.val (x := (.v (.int .i64 (IntKind.wrap .i64 (r9 + 1))))) rfl rfl rfl rfl ?_
              refine Eo.val (x := (.ptr bq0 0)) rfl rfl rfl rfl ?_
              refine Eo.val (x := (.ptr bq0 1)) rfl rfl rfl rfl ?_
              refine Eo.store hp24 0 rfl (storeCells_mk rfl rfl rfl rfl rfl rfl) rfl rfl rfl rfl rfl ?_
              intro σ30 hp29
              change Hp σ30 (.blk bq0 (.cells [(.v (.string p0_0)), (.v (.int .i64 (IntKind.wrap .i64 (r9 + 1))))] 57) :: .blk b5 (.cells [nilS, nilS, (.v (.int .i64 0))] 25) :: R) at hp29
              refine Eo.nil ?_
              refine Ec.seq ?_
              refine Ec.region ?_
              refine Eo.val (x := (.ptr bq0 0)) rfl rfl rfl rfl ?_
              refine Eo.val (x := (.v (.int .i64 p1))) rfl rfl rfl rfl ?_
              refine Eo.val (x := (.v (.int .i64 (IntKind.wrap .i64 (p1 + 1))))) rfl rfl rfl rfl ?_
              obtain ⟨v64, hv65, H⟩ := bind_some H
              rcases v64 with r67 | p66
              · skip
                refine Eo.callV (ih22 (Hp.front (Hp.front hp29 1) 1) hv65) rfl rfl rfl rfl ?_
                obtain ⟨r31, r36⟩ := r67
                rintro _ σ38 ⟨a32, a34, rfl, h33, h35, hp37⟩
                change Hp σ38 (.blk bq0 (.cells [(.v (.string p0_0)), (.v (.int .i64 r36))] 57) :: .app a32 9 :: .app a34 3 :: .blk b5 (.cells [nilS, nilS, (.v (.int .i64 0))] 25) :: R) at hp37
                refine Eo.alloc (z := [nilS, nilS, (.v (.int .i64 0))]) hp37 rfl rfl rfl rfl rfl ?_
                intro b39 σ41 hp40
                refine Eo.store hp40 0 rfl (storeCells_mk rfl rfl rfl (by simp [allOne, A.cells, h33.isOne, h35.isOne]) rfl rfl) rfl rfl rfl rfl rfl ?_
                intro σ43 hp42
                change Hp σ43 (.blk b39 (.cells [a32, a34, (.v (.int .i64 r31.f_Off))] 25) :: .blk bq0 (.cells [(.v (.string p0_0)), (.v (.int .i64 r36))] 57) :: .app a32 9 :: .app a34 3 :: .blk b5 (.cells [nilS, nilS, (.v (.int .i64 0))] 25) :: R) at hp42
                refine Eo.nil ?_
                refine Ec.seq ?_
                refine Ec.seq ?_
                refine Ec.region ?_
                refine Eo.val (x := (.ptr bq0 0)) rfl rfl rfl rfl ?_
                obtain ⟨r63, hvr63, H⟩ := bind_some H
                refine Eo.call rfl rfl rfl rfl (gexpr_parser__next_ok (Hp.front (Hp.front (Hp.front (Hp.front (Hp.front hp42 4) 4) 4) 3) 4) hvr63) ?_
                obtain ⟨r44, r45⟩ := r63
                rintro _ σ47 ⟨rfl, hp46⟩
                change Hp σ47 (.blk bq0 (.cells [(.v (.string p0_0)), (.v (.int .i64 r45))] 57) :: .blk b39 (.cells [a32, a34, (.v (.int .i64 r31.f_Off))] 25) :: .app a32 9 :: .app a34 3 :: .blk b5 (.cells [nilS, nilS, (.v (.int .i64 0))] 25) :: R) at hp46
                refine Eo.val (x := (.v (.bool (r44 != 41)))) rfl rfl rfl rfl ?_
                refine Eo.nil ?_
                obtain ⟨v61, hv62, H⟩ := bind_some H
                refine Ec.cut (J := (fun (v : LR Unit (PR (TLin × Int) Texpr_fault)) (x : X) (φ : Fr) (s : St) => match v with | .out _ => x = .normal ∧ (Hp s (.blk bq0 (.cells [(.v (.string p0_0)), (.v (.int .i64 r45))] 57) :: .blk b5 (.cells [nilS, nilS, (.v (.int .i64 0))] 25) :: .blk b39 (.cells [a32, a34, (.v (.int .i64 r31.f_Off))] 25) :: .app a32 9 :: .app a34 3 :: R) ∧ Fl [(0, (.ptr bq0 0)), (4, (.ptr b5 0)), (7, (.ptr b39 0))] φ) | .ret r => FinR cfg Tryz.f41 (gexpr_parser__factor_post bq0 p0_0 R r) x φ s) v61) ?_ ?_
                · have H := hv62
                  refine Ec.cond (t := (r44 != 41)) rfl (fun hc49 => ?_) (fun hc49 => ?_)
                  · have H := cond_t hc49 H
                    refine Ec.region ?_
                    refine Eo.val (x := (.ptr bq0 0)) rfl rfl rfl rfl ?_
                    refine Eo.val (x := (.ptr bq0 0)) rfl rfl rfl rfl ?_
                    refine Eo.val (x := (.ptr bq0 1)) rfl rfl rfl rfl ?_
                    refine Eo.val (x := (.v (.int .i64 r45))) (op_loadB hp46 0 rfl rfl rfl rfl) rfl rfl rfl ?_
                    refine Eo.val (x := (.agg [(.v (.int .i64 r45)), (.v (.int .i64 121))])) (op_build (lay_cons rfl rfl rfl rfl rfl (lay_cons rfl rfl rfl rfl rfl lay_nil)) rfl (parts_cons rfl rfl (parts_cons rfl rfl rfl)) Tryz.underlying54 rfl rfl) rfl rfl rfl ?_
                    refine Eo.val (x := (.ifc 54 (.agg [(.v (.int .i64 r45)), (.v (.int .i64 121))]))) (op_iface rfl rfl Tryz.underlying54 rfl) rfl rfl rfl ?_
                    refine Eo.panic rfl rfl rfl ?_
                    obtain rfl := Option.some.inj H
                    exact Fin.pan (C := cfg) (fn := Tryz.f41) ⟨rfl, (Hp.drop (Hp.drop (Hp.drop (Hp.drop (Hp.drop hp46 0) 0) 0) 0) 0)⟩
                  · have H := cond_f hc49 H
                    refine Ec.skip ?_
                    obtain rfl := Option.some.inj H
                    exact And.intro rfl ⟨(Hp.front (Hp.front (Hp.front (Hp.front (Hp.front hp46 3) 3) 3) 4) 4), (.cons rfl (.cons rfl (.cons rfl (.nil'))))⟩
                · rcases v61 with _ | r58
                  · intro x φ52 σ51 hJ
                    obtain ⟨rfl, hp50, hf53⟩ := hJ
                    refine Ec.of (F := [(0, (.ptr bq0 0)), (4, (.ptr b5 0)), (7, (.ptr b39 0))]) hf53 ?_
                    refine Ec.seq ?_
                    refine Ec.region ?_
                    refine Eo.val (x := (.ptr bq0 0)) rfl rfl rfl rfl ?_
                    refine Eo.val (x := (.ptr bq0 0)) rfl rfl rfl rfl ?_
                    refine Eo.val (x := (.ptr bq0 1)) rfl rfl rfl rfl ?_
                    refine Eo.val (x := (.v (.int .i64 r45))) (op_loadB hp50 0 rfl rfl rfl rfl) rfl rfl rfl ?_
                    refine Eo.val (x := (.v (.int .i64 (IntKind.wrap .i64 (r45 + 1))))) rfl rfl rfl rfl ?_
                    refine Eo.val (x := (.ptr bq0 0)) rfl rfl rfl rfl ?_
                    refine Eo.val (x := (.ptr bq0 1)) rfl rfl rfl rfl ?_
                    refine Eo.store hp50 0 rfl (storeCells_mk rfl rfl rfl rfl rfl rfl) rfl rfl rfl rfl rfl ?_
                    intro σ55 hp54
                    change Hp σ55 (.blk bq0 (.cells [(.v (.string p0_0)), (.v (.int .i64 (IntKind.wrap .i64 (r45 + 1))))] 57) :: .blk b5 (.cells [nilS, nilS, (.v (.int .i64 0))] 25) :: .blk b39 (.cells [a32, a34, (.v (.int .i64 r31.f_Off))] 25) :: .app a32 9 :: .app a34 3 :: R) at hp54
                    refine Eo.nil ?_
                    refine Ec.seq ?_
                    refine Ec.region ?_
                    refine Eo.val (x := (.agg [a32, a34, (.v (.int .i64 r31.f_Off))])) (op_loadB hp54 2 rfl rfl rfl rfl) rfl rfl rfl ?_
                    refine Eo.store hp54 1 rfl (storeCells_mk rfl rfl rfl (by simp [allOne, A.cells, h33.isOne, h35.isOne]) rfl rfl) rfl rfl rfl rfl rfl ?_
                    intro σ57 hp56
                    change Hp σ57 (.blk bq0 (.cells [(.v (.string p0_0)), (.v (.int .i64 (IntKind.wrap .i64 (r45 + 1))))] 57) :: .blk b5 (.cells [a32, a34, (.v (.int .i64 r31.f_Off))] 25) :: .blk b39 (.cells [a32, a34, (.v (.int .i64 r31.f_Off))] 25) :: .app a32 9 :: .app a34 3 :: R) at hp56
                    refine Eo.nil ?_
                    obtain rfl := Option.some.inj H
                    refine Ec.ret ?_
                    refine Fin.mk' (resA_cell hp56 1 rfl rfl rfl rfl) ?_
                    exact ⟨a32, a34, rfl, h33, h35, (Hp.front (Hp.front (Hp.front (Hp.drop (Hp.drop hp56 1) 1) 2) 2) 2)⟩
                  · intro x φ59 σ60 hJ
                    obtain rfl := Option.some.inj H
                    cases x <;> first | exact hJ | exact hJ.elim
              · skip
                refine Eo.callX (ih22 (Hp.front (Hp.front hp29 1) 1) hv65) rfl rfl ?_
                intro σ69 hp68
                obtain rfl := Option.some.inj H
                exact Fin.pan (C := cfg) (fn := Tryz.f41) ⟨rfl, (Hp.drop hp68 0)⟩
            · have H := cond_f hc28 H
              refine Ec.seq ?_
              refine Ec.region ?_
              refine Eo.val (x := (.v (.int .u8 r8))) rfl rfl rfl rfl ?_
              refine Eo.val (x := (.v (.bool (r8 == 45)))) rfl rfl rfl rfl ?_
              refine Eo.val (x := (.v (.bool (r8 == 45)))) rfl rfl rfl rfl ?_
              refine Eo.nil ?_
              refine Ec.cond (t := (r8 == 45)) rfl (fun hc70 => ?_) (fun hc70 => ?_)
              · have H := cond_t hc70 H
                refine Ec.seq ?_
                refine Ec.region ?_
                refine Eo.val (x := (.ptr bq0 0)) rfl rfl rfl rfl ?_
                refine Eo.val (x := (.ptr bq0 0)) rfl rfl rfl rfl ?_
                refine Eo.val (x := (.ptr bq0 1)) rfl rfl rfl rfl ?_
                refine Eo.val (x := (.v (.int .i64 r9))) (op_loadB hp24 0 rfl rfl rfl rfl) rfl rfl rfl ?_
                refine Eo.val (x := (.v (.int .i64 (IntKind.wrap .i64 (r9 + 1))))) rfl rfl rfl rfl ?_
                refine Eo.val (x := (.ptr bq0 0)) rfl rfl rfl rfl ?_
                refine Eo.val (x := (.ptr bq0 1)) rfl rfl rfl rfl ?_
                refine Eo.store hp24 0 rfl (storeCells_mk rfl rfl rfl rfl rfl rfl) rfl rfl rfl rfl rfl ?_
                intro σ72 hp71
                change Hp σ72 (.blk bq0 (.cells [(.v (.string p0_0)), (.v (.int .i64 (IntKind.wrap .i64 (r9 + 1))))] 57) :: .blk b5 (.cells [nilS, nilS, (.v (.int .i64 0))] 25) :: R) at hp71
                refine Eo.nil ?_
                refine Ec.seq ?_
                refine Ec.region ?_
                refine Eo.val (x := (.agg [nilS, nilS, (.v (.int .i64 0))])) (op_build lay_nil rfl rfl Tryz.underlying25 rfl rfl) rfl rfl rfl ?_
                refine Eo.val (x := (.ptr bq0 0)) rfl rfl rfl rfl ?_
                refine Eo.val (x := (.v (.int .i64 p1))) rfl rfl rfl rfl ?_
                refine Eo.val (x := (.v (.int .i64 (IntKind.wrap .i64 (p1 + 1))))) rfl rfl rfl rfl ?_
                obtain ⟨v90, hv91, H⟩ := bind_some H
                rcases v90 with r93 | p92
                · skip
                  refine Eo.callV (ihR (Hp.front (Hp.front hp71 1) 1) hv91) rfl rfl rfl rfl ?_
                  obtain ⟨r73, r78⟩ := r93
                  rintro _ σ80 ⟨a74, a76, rfl, h75, h77, hp79⟩
                  change Hp σ80 (.blk bq0 (.cells [(.v (.string p0_0)), (.v (.int .i64 r78))] 57) :: .app a74 9 :: .app a76 3 :: .blk b5 (.cells [nilS, nilS, (.v (.int .i64 0))] 25) :: R) at hp79
                  obtain ⟨r81, hvr81, H⟩ := bind_some H
                  refine Eo.call rfl rfl rfl rfl (gexpr_plus_ok Sl.nil Sl.nil h75 h77 hp79 hvr81) ?_
                  rintro _ σ87 ⟨a82, a84, rfl, h83, h85, hp86⟩
                  change Hp σ87 (.app a82 9 :: .app a84 3 :: .blk bq0 (.cells [(.v (.string p0_0)), (.v (.int .i64 r78))] 57) :: .app a74 9 :: .app a76 3 :: .blk b5 (.cells [nilS, nilS, (.v (.int .i64 0))] 25) :: R) at hp86
                  refine Eo.store hp86 5 rfl (storeCells_mk rfl rfl rfl (by simp [allOne, A.cells, h83.isOne, h85.isOne]) rfl rfl) rfl rfl rfl rfl rfl ?_
                  intro σ89 hp88
                  change Hp σ89 (.app a82 9 :: .app a84 3 :: .blk bq0 (.cells [(.v (.string p0_0)), (.v (.int .i64 r78))] 57) :: .app a74 9 :: .app a76 3 :: .blk b5 (.cells [a82, a84, (.v (.int .i64 r81.f_Off))] 25) :: R) at hp88
                  refine Eo.nil ?_
                  obtain rfl := Option.some.inj H
                  refine Ec.ret ?_
                  refine Fin.mk' (resA_cell hp88 5 rfl rfl rfl rfl) ?_
                  exact ⟨a82, a84, rfl, h83, h85, (Hp.front (Hp.front (Hp.front (Hp.drop (Hp.drop (Hp.drop hp88 3) 3) 3) 1) 1) 2)⟩
                · skip
                  refine Eo.callX (ihR (Hp.front (Hp.front hp71 1) 1) hv91) rfl rfl ?_
                  intro σ95 hp94
                  obtain rfl := Option.some.inj H
                  exact Fin.pan (C := cfg) (fn := Tryz.f41) ⟨rfl, (Hp.drop hp94 0)⟩
              · have H := cond_f hc70 H
                refine Ec.seq ?_
                refine Ec.region ?_
                refine Eo.val (x := (.v (.int .u8 r8))) rfl rfl rfl rfl ?_
                obtain ⟨r96, hvr96, H⟩ := bind_some H
                refine Eo.call rfl rfl rfl rfl (gexpr_digit_ok hp24 hvr96) ?_
                rintro _ σ98 ⟨rfl, hp97⟩
                refine Eo.val (x := (.v (.bool r96))) rfl rfl rfl rfl ?_
                refine Eo.nil ?_
                refine Ec.cond (t := r96) rfl (fun hc99 => ?_) (fun hc99 => ?_)
                · have H := cond_t hc99 H
                  refine Ec.seq ?_
                  refine Ec.region ?_
                  refine Eo.val (x := (.ptr bq0 0)) rfl rfl rfl rfl ?_
                  obtain ⟨r122, hvr122, H⟩ := bind_some H
                  refine Eo.call rfl rfl rfl rfl (gexpr_parser__run_ok (Hp.front (Hp.front hp97 1) 1) hvr122) ?_
                  obtain ⟨r100, r101⟩ := r122
                  rintro _ σ103 ⟨rfl, hp102⟩
                  change Hp σ103 (.blk bq0 (.cells [(.v (.string p0_0)), (.v (.int .i64 r101))] 57) :: .blk b5 (.cells [nilS, nilS, (.v (.int .i64 0))] 25) :: R) at hp102
                  obtain ⟨r104, hvr104, H⟩ := bind_some H
                  refine Eo.call rfl rfl rfl rfl (gexpr_number_ok hp102 hvr104) ?_
                  obtain ⟨r105, r106⟩ := r104
                  rintro _ σ108 ⟨rfl, hp107⟩
                  refine Eo.val (x := (.tup [(.v (.int .i64 r105)), (.v (.bool r106))])) rfl rfl rfl rfl ?_
                  refine Eo.val (x := (.v (.int .i64 r105))) rfl rfl rfl rfl ?_
                  refine Eo.val (x := (.v (.bool r106))) rfl rfl rfl rfl ?_
                  refine Eo.val (x := (.v (.int .i64 r105))) rfl rfl rfl rfl ?_
                  refine Eo.val (x := (.v (.bool r106))) rfl rfl rfl rfl ?_
                  refine Eo.nil ?_
                  refine Ec.seq ?_
                  refine Ec.seq ?_
                  refine Ec.region ?_
                  refine Eo.val (x := (.v (.bool r106))) rfl rfl rfl rfl ?_
                  refine Eo.val (x := (.v (.bool (!r106)))) rfl rfl rfl rfl ?_
                  refine Eo.nil ?_
                  obtain ⟨v120, hv121, H⟩ := bind_some H
                  refine Ec.cut (J := (fun (v : LR Unit (PR (TLin × Int) Texpr_fault)) (x : X) (φ : Fr) (s : St) => match v with | .out _ => x = .normal ∧ (Hp s (.blk b5 (.cells [nilS, nilS, (.v (.int .i64 0))] 25) :: .blk bq0 (.cells [(.v (.string p0_0)), (.v (.int .i64 r101))] 57) :: R) ∧ Fl [(4, (.ptr b5 0)), (8, (.v (.int .i64 r105)))] φ) | .ret r => FinR cfg Tryz.f41 (gexpr_parser__factor_post bq0 p0_0 R r) x φ s) v120) ?_ ?_
                  · have H := hv121
                    refine Ec.cond (t := (!r106)) rfl (fun hc110 => ?_) (fun hc110 => ?_)
                    · have H := cond_t hc110 H
                      refine Ec.region ?_
                      refine Eo.val (x := (.v (.int .i64 r9))) rfl rfl rfl rfl ?_
                      refine Eo.val (x := (.agg [(.v (.int .i64 r9)), (.v (.int .i64 121))])) (op_build (lay_cons rfl rfl rfl rfl rfl (lay_cons rfl rfl rfl rfl rfl lay_nil)) rfl (parts_cons rfl rfl (parts_cons rfl rfl rfl)) Tryz.underlying54 rfl rfl) rfl rfl rfl ?_
                      refine Eo.val (x := (.ifc 54 (.agg [(.v (.int .i64 r9)), (.v (.int .i64 121))]))) (op_iface rfl rfl Tryz.underlying54 rfl) rfl rfl rfl ?_
                      refine Eo.panic rfl rfl rfl ?_
                      obtain rfl := Option.some.inj H
                      exact Fin.pan (C := cfg) (fn := Tryz.f41) ⟨rfl, (Hp.drop (Hp.drop hp107 0) 0)⟩
                    · have H := cond_f hc110 H
                      refine Ec.skip ?_
                      obtain rfl := Option.some.inj H
                      exact And.intro rfl ⟨(Hp.front hp107 1), (.cons rfl (.cons rfl (.nil')))⟩
                  · rcases v120 with _ | r117
                    · intro x φ113 σ112 hJ
                      obtain ⟨rfl, hp111, hf114⟩ := hJ
                      refine Ec.of (F := [(4, (.ptr b5 0)), (8, (.v (.int .i64 r105)))]) hf114 ?_
                      refine Ec.seq ?_
                      refine Ec.region ?_
                      refine Eo.val (x := (.v (.int .i64 r105))) rfl rfl rfl rfl ?_
                      refine Eo.val (x := (.agg [nilS, nilS, (.v (.int .i64 r105))])) (op_build (lay_cons rfl rfl rfl rfl rfl lay_nil) rfl (parts_cons rfl rfl rfl) Tryz.underlying25 rfl rfl) rfl rfl rfl ?_
                      refine Eo.store hp111 0 rfl (storeCells_mk rfl rfl rfl rfl rfl rfl) rfl rfl rfl rfl rfl ?_
                      intro σ116 hp115
                      change Hp σ116 (.blk b5 (.cells [nilS, nilS, (.v (.int .i64 r105))] 25) :: .blk bq0 (.cells [(.v (.string p0_0)), (.v (.int .i64 r101))] 57) :: R) at hp115
                      refine Eo.nil ?_
                      obtain rfl := Option.some.inj H
                      refine Ec.ret ?_
                      refine Fin.mk' (resA_cell hp115 0 rfl rfl rfl rfl) ?_
                      exact ⟨nilS, nilS, rfl, Sl.nil, Sl.nil, (Hp.front (Hp.front (Hp.appNil (Hp.appNil (Hp.drop hp115 0) 9) 3) 1) 2)⟩
                    · intro x φ118 σ119 hJ
                      obtain rfl := Option.some.inj H
                      cases x <;> first | exact hJ | exact hJ.elim
                · have H := cond_f hc99 H
                  refine Ec.seq ?_
                  refine Ec.region ?_
                  refine Eo.val (x := (.v (.int .u8 r8))) rfl rfl rfl rfl ?_
                  obtain ⟨r123, hvr123, H⟩ := bind_some H
                  refine Eo.call rfl rfl rfl rfl (gexpr_letter_ok hp97 hvr123) ?_
                  rintro _ σ125 ⟨rfl, hp124⟩
                  refine Eo.val (x := (.v (.bool r123))) rfl rfl rfl rfl ?_
                  refine Eo.nil ?_
                  refine Ec.cond (t := r123) rfl (fun hc126 => ?_) (fun hc126 => ?_)
                  · have H := cond_t hc126 H
                    refine Ec.seq ?_
                    refine Ec.region ?_
                    refine Eo.val (x := (.ptr bq0 0)) rfl rfl rfl rfl ?_
                    obtain ⟨r141, hvr141, H⟩ := bind_some H
                    refine Eo.call rfl rfl rfl rfl (gexpr_parser__run_ok (Hp.front (Hp.front hp124 1) 1) hvr141) ?_
                    obtain ⟨r127, r128⟩ := r141
                    rintro _ σ130 ⟨rfl, hp129⟩
                    change Hp σ130 (.blk bq0 (.cells [(.v (.string p0_0)), (.v (.int .i64 r128))] 57) :: .blk b5 (.cells [nilS, nilS, (.v (.int .i64 0))] 25) :: R) at hp129
                    refine Eo.val (x := (.sl 1 [(.v (.string r127))] .ex)) (op_buildS (lay_cons rfl rfl rfl rfl rfl lay_nil) rfl (parts_cons rfl rfl rfl) Tryz.underlying22 rfl rfl rfl rfl (by decide) rfl) rfl rfl rfl ?_
                    have h134 : Sl rS (.sl 1 [(.v (.string r127))] .ex) ([r127] : List ByteArray) := .inr ⟨_, _, rfl, (.cons (c := [(.v (.string r127))]) rfl .nil)⟩
                    have hp133 := Hp.appEx hp129 9 1 [(.v (.string r127))]
                    refine Eo.val (x := (.sl 1 [(.v (.int .i64 1))] .ex)) (op_buildS (lay_cons rfl rfl rfl rfl rfl lay_nil) rfl (parts_cons rfl rfl rfl) Tryz.underlying23 rfl rfl rfl rfl (by decide) rfl) rfl rfl rfl ?_
                    have h138 : Sl (rI .i64) (.sl 1 [(.v (.int .i64 1))] .ex) ([1] : List Int) := .inr ⟨_, _, rfl, (.cons (c := [(.v (.int .i64 1))]) rfl .nil)⟩
                    have hp137 := Hp.appEx hp133 3 1 [(.v (.int .i64 1))]
                    refine Eo.val (x := (.agg [(.sl 1 [(.v (.string r127))] .ex), (.sl 1 [(.v (.int .i64 1))] .ex), (.v (.int .i64 0))])) (op_build (lay_cons rfl h134.cells rfl rfl rfl (lay_cons rfl h138.cells rfl rfl rfl lay_nil)) rfl (parts_cons rfl h134.noJunk (parts_cons rfl h138.noJunk rfl)) Tryz.underlying25 rfl rfl) rfl rfl rfl ?_
                    refine Eo.store hp137 3 rfl (storeCells_mk rfl rfl rfl (by simp [allOne, A.cells, h134.isOne, h138.isOne]) rfl rfl) rfl rfl rfl rfl rfl ?_
                    intro σ140 hp139
                    change Hp σ140 (.app (.sl 1 [(.v (.int .i64 1))] .ex) 3 :: .app (.sl 1 [(.v (.string r127))] .ex) 9 :: .blk bq0 (.cells [(.v (.string p0_0)), (.v (.int .i64 r128))] 57) :: .blk b5 (.cells [(.sl 1 [(.v (.string r127))] .ex), (.sl 1 [(.v (.int .i64 1))] .ex), (.v (.int .i64 0))] 25) :: R) at hp139
                    refine Eo.nil ?_
                    obtain rfl := Option.some.inj H
                    refine Ec.ret ?_
                    refine Fin.mk' (resA_cell hp139 3 rfl rfl rfl rfl) ?_
                    exact ⟨(.sl 1 [(.v (.string r127))] .ex), (.sl 1 [(.v (.int .i64 1))] .ex), rfl, h134, h138, (Hp.front (Hp.front (Hp.drop hp139 3) 1) 2)⟩
                  · have H := cond_f hc126 H
                    refine Ec.skip ?_
                    refine Ec.region ?_
                    refine Eo.val (x := (.v (.int .i64 r9))) rfl rfl rfl rfl ?_
                    refine Eo.val (x := (.agg [(.v (.int .i64 r9)), (.v (.int .i64 121))])) (op_build (lay_cons rfl rfl rfl rfl rfl (lay_cons rfl rfl rfl rfl rfl lay_nil)) rfl (parts_cons rfl rfl (parts_cons rfl rfl rfl)) Tryz.underlying54 rfl rfl) rfl rfl rfl ?_
                    refine Eo.val (x := (.ifc 54 (.agg [(.v (.int .i64 r9)), (.v (.int .i64 121))]))) (op_iface rfl rfl Tryz.underlying54 rfl) rfl rfl rfl ?_
                    refine Eo.panic rfl rfl rfl ?_
                    obtain rfl := Option.some.inj H
                    exact Fin.pan (C := cfg) (fn := Tryz.f41) ⟨rfl, (Hp.drop (Hp.drop hp124 0) 0)⟩
          · intro x φ143 σ144 hJ
            obtain rfl := Option.some.inj H
            cases x <;> first | exact hJ | exact hJ.elim

theorem gexpr_parser__factor_ok {n : Nat} {rec22 : ByteArray → Int → Int → Option (PR (TLin × Int) Texpr_fault)} (ih22 : ∀ {bq0 : Nat} {p0_0 : ByteArray} {p0_1 : Int} {p1 : Int} {R : List Res} {σ : St} (hp : Hp σ (.blk bq0 (.cells [(.v (.string p0_0)), (.v (.int .i64 p0_1))] 57) :: R)) {r : (PR (TLin × Int) Texpr_fault)} (H : rec22 p0_0 p0_1 p1 = some r), CaO cfg 22 [(.ptr bq0 0), (.v (.int .i64 p1))] σ (gexpr_parser__sum_post bq0 p0_0 R r)) {bq0 : Nat} {p0_0 : ByteArray} {p0_1 : Int} {p1 : Int} {R : List Res} {σ : St} (hp : Hp σ (.blk bq0 (.cells [(.v (.string p0_0)), (.v (.int .i64 p0_1))] 57) :: R)) {r : (PR (TLin × Int) Texpr_fault)} (H : gexpr_parser__factor n rec22 p0_0 p0_1 p1 = some r) : CaO cfg 41 [(.ptr bq0 0), (.v (.int .i64 p1))] σ (gexpr_parser__factor_post bq0 p0_0 R r) := gexpr_parser__factor_rec_ok ih22 n hp H

def gexpr_parser__product_L1 (N : Nat) (rec22 : ByteArray → Int → Int → Option (PR (TLin × Int) Texpr_fault)) (p0_0 : ByteArray) (p1 : Int) : Nat → Int → (List ByteArray) → (List Int) → Int → Option (LR ((List ByteArray) × (List Int) × Int × Int) (PR (TLin × Int) Texpr_fault))
  | 0, _, _, _, _ => none
  | m + 1, y68, y69, y72, y75 => ((gexpr_parser__next N p0_0 y68).bind fun v => match v with | (r131, r132) => (cond (r131 == 42) (((gexpr_parser__factor N rec22 p0_0 (IntKind.wrap .i64 (r132 + 1)) p1).bind fun v => match v with | .val (r138, r143) => (cond (((r138.f_Syms.length : Nat) : Int) == 0) (((gexpr_plus N (TLin.mk ([] : List ByteArray) ([] : List Int) 0) (TLin.mk y69 y72 y75) r138.f_Off).bind fun r152 => gexpr_parser__product_L1 N rec22 p0_0 p1 m r143 r152.f_Syms r152.f_Times r152.f_Off)) ((cond (((y69.length : Nat) : Int) == 0) (((gexpr_plus N (TLin.mk ([] : List ByteArray) ([] : List Int) 0) r138 y75).bind fun r162 => gexpr_parser__product_L1 N rec22 p0_0 p1 m r143 r162.f_Syms r162.f_Times r162.f_Off)) (some (.ret (.pan (Texpr_fault.mk r132 121))))))) | .pan p173 => some (.ret (.pan p173)))) (some (.out (y69, y72, y75, r132)))))

def gexpr_parser__product (n : Nat) (rec22 : ByteArray → Int → Int → Option (PR (TLin × Int) Texpr_fault)) (p0_0 : ByteArray) (p0_1 : Int) (p1 : Int) : Option ((PR (TLin × Int) Texpr_fault)) := ((gexpr_parser__factor n rec22 p0_0 p0_1 p1).bind fun v => match v with | .val (r8, r13) => ((gexpr_parser__product_L1 n rec22 p0_0 p1 n r13 r8.f_Syms r8.f_Times r8.f_Off).bind fun v => match v with | .out (x123, x126, x129, x130) => some (.val ((TLin.mk x123 x126 x129), x130)) | .ret r186 => some r186) | .pan p191 => some (.pan p191))

def gexpr_parser__product_post (bq0 : Nat) (p0_0 : ByteArray) (R : List Res) (r : (PR (TLin × Int) Texpr_fault)) : Out → St → Prop := match r with | .val r => OutV (fun x s => ∃ (a1 a3 : A), x = (.agg [a1, a3, (.v (.int .i64 r.1.f_Off))]) ∧ Sl rS a1 r.1.f_Syms ∧ Sl (rI .i64) a3 r.1.f_Times ∧ Hp s (.blk bq0 (.cells [(.v (.string p0_0)), (.v (.int .i64 r.2))] 57) :: .app a1 9 :: .app a3 3 :: R)) | .pan p => OutP (.ifc 54 (.agg [(.v (.int .i64 p.f_at)), (.v (.int .i64 p.f_e))])) R

theorem gexpr_parser__product_ok {n : Nat} {rec22 : ByteArray → Int → Int → Option (PR (TLin × Int) Texpr_fault)} (ih22 : ∀ {bq0 : Nat} {p0_0 : ByteArray} {p0_1 : Int} {p1 : Int} {R : List Res} {σ : St} (hp : Hp σ (.blk bq0 (.cells [(.v (.string p0_0)), (.v (.int .i64 p0_1))] 57) :: R)) {r : (PR (TLin × Int) Texpr_fault)} (H : rec22 p0_0 p0_1 p1 = some r), CaO cfg 22 [(.ptr bq0 0), (.v (.int .i64 p1))] σ (gexpr_parser__sum_post bq0 p0_0 R r)) {bq0 : Nat} {p0_0 : ByteArray} {p0_1 : Int} {p1 : Int} {R : List Res} {σ : St} (hp : Hp σ (.blk bq0 (.cells [(.v (.string p0_0)), (.v (.int .i64 p0_1))] 57) :: R)) {r : (PR (TLin × Int) Texpr_fault)} (H : gexpr_parser__product n rec22 p0_0 p0_1 p1 = some r) : CaO cfg 33 [(.ptr bq0 0), (.v (.int .i64 p1))] σ (gexpr_parser__product_post bq0 p0_0 R r) := by
  unfold gexpr_parser__product at H
  refine CaO.enterL (G := [(0, (.ptr bq0 0)), (1, (.v (.int .i64 p1)))]) Tryz.func33 rfl rfl rfl rfl ?_
  refine Ec.seq ?_
  refine Ec.region ?_
  refine Eo.alloc (z := [nilS, nilS, (.v (.int .i64 0))]) hp rfl rfl rfl rfl rfl ?_
  intro b5 σ7 hp6
  refine Eo.nil ?_
  refine Ec.seq ?_
  refine Ec.region ?_
  refine Eo.val (x := (.ptr bq0 0)) rfl rfl rfl rfl ?_
  refine Eo.val (x := (.v (.int .i64 p1))) rfl rfl rfl rfl ?_
  obtain ⟨v189, hv190, H⟩ := bind_some H
  rcases v189 with r192 | p191
  · skip
    refine Eo.callV (gexpr_parser__factor_ok ih22 (Hp.front hp6 1) hv190) rfl rfl rfl rfl ?_
    obtain ⟨r8, r13⟩ := r192
    rintro _ σ15 ⟨a9, a11, rfl, h10, h12, hp14⟩
    change Hp σ15 (.blk bq0 (.cells [(.v (.string p0_0)), (.v (.int .i64 r13))] 57) :: .app a9 9 :: .app a11 3 :: .blk b5 (.cells [nilS, nilS, (.v (.int .i64 0))] 25) :: R) at hp14
    refine Eo.alloc (z := [nilS, nilS, (.v (.int .i64 0))]) hp14 rfl rfl rfl rfl rfl ?_
    intro b16 σ18 hp17
    refine Eo.store hp17 0 rfl (storeCells_mk rfl rfl rfl (by simp [allOne, A.cells, h10.isOne, h12.isOne]) rfl rfl) rfl rfl rfl rfl rfl ?_
    intro σ20 hp19
    change Hp σ20 (.blk b16 (.cells [a9, a11, (.v (.int .i64 r8.f_Off))] 25) :: .blk bq0 (.cells [(.v (.string p0_0)), (.v (.int .i64 r13))] 57) :: .app a9 9 :: .app a11 3 :: .blk b5 (.cells [nilS, nilS, (.v (.int .i64 0))] 25) :: R) at hp19
    refine Eo.nil ?_
    refine Ec.seq ?_
    refine Ec.block ?_
    obtain ⟨v178, hv179, H⟩ := bind_some H
    refine Ec.cut (J := (fun (v : LR ((List ByteArray) × (List Int) × Int × Int) (PR (TLin × Int) Texpr_fault)) (x : X) (φ : Fr) (s : St) => match v with | .out (x123, x126, x129, x130) => x = (.exit 0) ∧ (∃ (a124 a127 : A), Sl rS a124 x123 ∧ Sl (rI .i64) a127 x126 ∧ Hp s (.blk b5 (.cells [nilS, nilS, (.v (.int .i64 0))] 25) :: .blk b16 (.cells [a124, a127, (.v (.int .i64 x129))] 25) :: .blk bq0 (.cells [(.v (.string p0_0)), (.v (.int .i64 x130))] 57) :: .app a124 9 :: .app a127 3 :: R) ∧ Fl [(4, (.ptr b5 0)), (5, (.ptr b16 0))] φ) | .ret r => FinR cfg Tryz.f33 (gexpr_parser__product_post bq0 p0_0 R r) x φ s) v178) (Ec.weak (.cons rfl (.cons rfl (.cons rfl (.cons rfl (.nil'))))) (Ec.loopF (f := (fun m (i : (Int × (List ByteArray) × (List Int) × Int) × (A × A)) => gexpr_parser__product_L1 n rec22 p0_0 p1 m i.1.1 i.1.2.1 i.1.2.2.1 i.1.2.2.2)) (G := (fun (i : (Int × (List ByteArray) × (List Int) × Int) × (A × A)) => ([(0, (.ptr bq0 0)), (1, (.v (.int .i64 p1))), (4, (.ptr b5 0)), (5, (.ptr b16 0))] : List (Nat × A)))) (I := (fun (i : (Int × (List ByteArray) × (List Int) × Int) × (A × A)) (s : St) => Sl rS i.2.1 i.1.2.1 ∧ Sl (rI .i64) i.2.2 i.1.2.2.1 ∧ Hp s (.blk bq0 (.cells [(.v (.string p0_0)), (.v (.int .i64 i.1.1))] 57) :: .blk b5 (.cells [nilS, nilS, (.v (.int .i64 0))] 25) :: .blk b16 (.cells [i.2.1, i.2.2, (.v (.int .i64 i.1.2.2.2))] 25) :: .app i.2.1 9 :: .app i.2.2 3 :: R))) (J := (fun (v : LR ((List ByteArray) × (List Int) × Int × Int) (PR (TLin × Int) Texpr_fault)) (x : X) (φ : Fr) (s : St) => match v with | .out (x123, x126, x129, x130) => x = (.exit 0) ∧ (∃ (a124 a127 : A), Sl rS a124 x123 ∧ Sl (rI .i64) a127 x126 ∧ Hp s (.blk b5 (.cells [nilS, nilS, (.v (.int .i64 0))] 25) :: .blk b16 (.cells [a124, a127, (.v (.int .i64 x129))] 25) :: .blk bq0 (.cells [(.v (.string p0_0)), (.v (.int .i64 x130))] 57) :: .app a124 9 :: .app a127 3 :: R) ∧ Fl [(4, (.ptr b5 0)), (5, (.ptr b16 0))] φ) | .ret r => FinR cfg Tryz.f33 (gexpr_parser__product_post bq0 p0_0 R r) x φ s)) (fun _ => rfl) ?_ n ((r13, r8.f_Syms, r8.f_Times, r8.f_Off), (a9, a11)) _ v178 ⟨h10, h12, (Hp.front (Hp.front (Hp.front (Hp.front (Hp.front hp19 3) 3) 2) 4) 4)⟩ hv179)) ?_
    · rintro m ⟨⟨y68, y69, y72, y75⟩, ⟨a70, a73⟩⟩ σ0 v ⟨h71, h74, hp0⟩ H ih
      change gexpr_parser__product_L1 n rec22 p0_0 p1 (m + 1) y68 y69 y72 y75 = some v at H
      rw [gexpr_parser__product_L1] at H
      change Ec _ _ _ [(0, (.ptr bq0 0)), (1, (.v (.int .i64 p1))), (4, (.ptr b5 0)), (5, (.ptr b16 0))] σ0 _
      refine Ec.seq ?_
      refine Ec.seq ?_
      refine Ec.region ?_
      refine Eo.val (x := (.ptr bq0 0)) rfl rfl rfl rfl ?_
      obtain ⟨r177, hvr177, H⟩ := bind_some H
      refine Eo.call rfl rfl rfl rfl (gexpr_parser__next_ok (Hp.front (Hp.front (Hp.front (Hp.front (Hp.front hp0 4) 4) 4) 4) 4) hvr177) ?_
      obtain ⟨r131, r132⟩ := r177
      rintro _ σ134 ⟨rfl, hp133⟩
      change Hp σ134 (.blk bq0 (.cells [(.v (.string p0_0)), (.v (.int .i64 r132))] 57) :: .blk b5 (.cells [nilS, nilS, (.v (.int .i64 0))] 25) :: .blk b16 (.cells [a70, a73, (.v (.int .i64 y75))] 25) :: .app a70 9 :: .app a73 3 :: R) at hp133
      refine Eo.val (x := (.v (.bool (r131 == 42)))) rfl rfl rfl rfl ?_
      refine Eo.nil ?_
      refine Ec.cond (t := (r131 == 42)) rfl (fun hc135 => ?_) (fun hc135 => ?_)
      · have H := cond_t hc135 H
        refine Ec.skip ?_
        refine Ec.block ?_
        refine Ec.seq ?_
        refine Ec.region ?_
        refine Eo.val (x := (.ptr bq0 0)) rfl rfl rfl rfl ?_
        refine Eo.val (x := (.ptr bq0 0)) rfl rfl rfl rfl ?_
        refine Eo.val (x := (.ptr bq0 1)) rfl rfl rfl rfl ?_
        refine Eo.val (x := (.v (.int .i64 r132))) (op_loadB hp133 0 rfl rfl rfl rfl) rfl rfl rfl ?_
        refine Eo.val (x := (.v (.int .i64 r132))) rfl rfl rfl rfl ?_
        refine Eo.nil ?_
        refine Ec.seq ?_
        refine Ec.region ?_
        refine Eo.val (x := (.ptr bq0 0)) rfl rfl rfl rfl ?_
        refine Eo.val (x := (.ptr bq0 0)) rfl rfl rfl rfl ?_
        refine Eo.val (x := (.ptr bq0 1)) rfl rfl rfl rfl ?_
        refine Eo.val (x := (.v (.int .i64 r132))) (op_loadB hp133 0 rfl rfl rfl rfl) rfl rfl rfl ?_
        refine Eo.val (x := (.v (.int .i64 (IntKind.wrap .i64 (r132 + 1))))) rfl rfl rfl rfl ?_
        refine Eo.val (x := (.ptr bq0 0)) rfl rfl rfl rfl ?_
        refine Eo.val (x := (.ptr bq0 1)) rfl rfl rfl rfl ?_
        refine Eo.store hp133 0 rfl (storeCells_mk rfl rfl rfl rfl rfl rfl) rfl rfl rfl rfl rfl ?_
        intro σ137 hp136
        change Hp σ137 (.blk bq0 (.cells [(.v (.string p0_0)), (.v (.int .i64 (IntKind.wrap .i64 (r132 + 1))))] 57) :: .blk b5 (.cells [nilS, nilS, (.v (.int .i64 0))] 25) :: .blk b16 (.cells [a70, a73, (.v (.int .i64 y75))] 25) :: .app a70 9 :: .app a73 3 :: R) at hp136
        refine Eo.nil ?_
        refine Ec.seq ?_
        refine Ec.region ?_
        refine Eo.val (x := (.ptr bq0 0)) rfl rfl rfl rfl ?_
        refine Eo.val (x := (.v (.int .i64 p1))) rfl rfl rfl rfl ?_
        obtain ⟨v171, hv172, H⟩ := bind_some H
        rcases v171 with r174 | p173
        · skip
          refine Eo.callV (gexpr_parser__factor_ok ih22 (Hp.front (Hp.front (Hp.front (Hp.front (Hp.front hp136 4) 4) 4) 4) 4) hv172) rfl rfl rfl rfl ?_
          obtain ⟨r138, r143⟩ := r174
          rintro _ σ145 ⟨a139, a141, rfl, h140, h142, hp144⟩
          change Hp σ145 (.blk bq0 (.cells [(.v (.string p0_0)), (.v (.int .i64 r143))] 57) :: .app a139 9 :: .app a141 3 :: .blk b5 (.cells [nilS, nilS, (.v (.int .i64 0))] 25) :: .blk b16 (.cells [a70, a73, (.v (.int .i64 y75))] 25) :: .app a70 9 :: .app a73 3 :: R) at hp144
          refine Eo.alloc (z := [nilS, nilS, (.v (.int .i64 0))]) hp144 rfl rfl rfl rfl rfl ?_
          intro b146 σ148 hp147
          refine Eo.store hp147 0 rfl (storeCells_mk rfl rfl rfl (by simp [allOne, A.cells, h140.isOne, h142.isOne]) rfl rfl) rfl rfl rfl rfl rfl ?_
          intro σ150 hp149
          change Hp σ150 (.blk b146 (.cells [a139, a141, (.v (.int .i64 r138.f_Off))] 25) :: .blk bq0 (.cells [(.v (.string p0_0)), (.v (.int .i64 r143))] 57) :: .app a139 9 :: .app a141 3 :: .blk b5 (.cells [nilS, nilS, (.v (.int .i64 0))] 25) :: .blk b16 (.cells [a70, a73, (.v (.int .i64 y75))] 25) :: .app a70 9 :: .app a73 3 :: R) at hp149
          refine Eo.nil ?_
          refine Ec.block ?_
          refine Ec.seq ?_
          refine Ec.region ?_
          refine Eo.val (x := (.ptr b146 0)) rfl rfl rfl rfl ?_
          refine Eo.val (x := a139) (op_loadB hp149 0 rfl rfl rfl rfl) rfl rfl rfl ?_
          refine Eo.val (x := (.v (.int .i64 ((r138.f_Syms.length : Nat) : Int)))) (op_lenL h140 rfl rfl rfl rfl rfl Tryz.underlying22) rfl rfl rfl ?_
          refine Eo.val (x := (.v (.bool (((r138.f_Syms.length : Nat) : Int) == 0)))) rfl rfl rfl rfl ?_
          refine Eo.val (x := (.v (.bool (((r138.f_Syms.length : Nat) : Int) == 0)))) rfl rfl rfl rfl ?_
          refine Eo.nil ?_
          refine Ec.cond (t := (((r138.f_Syms.length : Nat) : Int) == 0)) rfl (fun hc151 => ?_) (fun hc151 => ?_)
          · have H := cond_t hc151 H
            refine Ec.region ?_
            refine Eo.val (x := (.agg [nilS, nilS, (.v (.int .i64 0))])) (op_build lay_nil rfl rfl Tryz.underlying25 rfl rfl) rfl rfl rfl ?_
            refine Eo.val (x := (.agg [a70, a73, (.v (.int .i64 y75))])) (op_loadB hp149 5 rfl rfl rfl rfl) rfl rfl rfl ?_
            refine Eo.val (x := (.ptr b146 2)) rfl rfl rfl rfl ?_
            refine Eo.val (x := (.v (.int .i64 r138.f_Off))) (op_loadB hp149 0 rfl rfl rfl rfl) rfl rfl rfl ?_
            obtain ⟨r152, hvr152, H⟩ := bind_some H
            refine Eo.call rfl rfl rfl rfl (gexpr_plus_ok Sl.nil Sl.nil h71 h74 hp149 hvr152) ?_
            rintro _ σ158 ⟨a153, a155, rfl, h154, h156, hp157⟩
            change Hp σ158 (.app a153 9 :: .app a155 3 :: .blk b146 (.cells [a139, a141, (.v (.int .i64 r138.f_Off))] 25) :: .blk bq0 (.cells [(.v (.string p0_0)), (.v (.int .i64 r143))] 57) :: .app a139 9 :: .app a141 3 :: .blk b5 (.cells [nilS, nilS, (.v (.int .i64 0))] 25) :: .blk b16 (.cells [a70, a73, (.v (.int .i64 y75))] 25) :: .app a70 9 :: .app a73 3 :: R) at hp157
            refine Eo.store hp157 7 rfl (storeCells_mk rfl rfl rfl (by simp [allOne, A.cells, h154.isOne, h156.isOne]) rfl rfl) rfl rfl rfl rfl rfl ?_
            intro σ160 hp159
            change Hp σ160 (.app a153 9 :: .app a155 3 :: .blk b146 (.cells [a139, a141, (.v (.int .i64 r138.f_Off))] 25) :: .blk bq0 (.cells [(.v (.string p0_0)), (.v (.int .i64 r143))] 57) :: .app a139 9 :: .app a141 3 :: .blk b5 (.cells [nilS, nilS, (.v (.int .i64 0))] 25) :: .blk b16 (.cells [a153, a155, (.v (.int .i64 r152.f_Off))] 25) :: .app a70 9 :: .app a73 3 :: R) at hp159
            refine Eo.nil ?_
            exact Ec.of (.cons rfl (.cons rfl (.cons rfl (.cons rfl (.nil'))))) (ih ((r143, r152.f_Syms, r152.f_Times, r152.f_Off), (a153, a155)) _ ⟨h154, h156, (Hp.front (Hp.front (Hp.front (Hp.front (Hp.front (Hp.drop (Hp.drop (Hp.drop (Hp.drop (Hp.drop hp159 2) 3) 3) 5) 5) 1) 1) 4) 4) 4)⟩ H)
          · have H := cond_f hc151 H
            refine Ec.seq ?_
            refine Ec.region ?_
            refine Eo.val (x := (.ptr b16 0)) rfl rfl rfl rfl ?_
            refine Eo.val (x := a70) (op_loadB hp149 5 rfl rfl rfl rfl) rfl rfl rfl ?_
            refine Eo.val (x := (.v (.int .i64 ((y69.length : Nat) : Int)))) (op_lenL h71 rfl rfl rfl rfl rfl Tryz.underlying22) rfl rfl rfl ?_
            refine Eo.val (x := (.v (.bool (((y69.length : Nat) : Int) == 0)))) rfl rfl rfl rfl ?_
            refine Eo.val (x := (.v (.bool (((y69.length : Nat) : Int) == 0)))) rfl rfl rfl rfl ?_
            refine Eo.nil ?_
            refine Ec.cond (t := (((y69.length : Nat) : Int) == 0)) rfl (fun hc161 => ?_) (fun hc161 => ?_)
            · have H := cond_t hc161 H
              refine Ec.region ?_
              refine Eo.val (x := (.agg [nilS, nilS, (.v (.int .i64 0))])) (op_build lay_nil rfl rfl Tryz.underlying25 rfl rfl) rfl rfl rfl ?_
              refine Eo.val (x := (.agg [a139, a141, (.v (.int .i64 r138.f_Off))])) (op_loadB hp149 0 rfl rfl rfl rfl) rfl rfl rfl ?_
              refine Eo.val (x := (.ptr b16 2)) rfl rfl rfl rfl ?_
              refine Eo.val (x := (.v (.int .i64 y75))) (op_loadB hp149 5 rfl rfl rfl rfl) rfl rfl rfl ?_
              obtain ⟨r162, hvr162, H⟩ := bind_some H
              refine Eo.call rfl rfl rfl rfl (gexpr_plus_ok Sl.nil Sl.nil h140 h142 hp149 hvr162) ?_
              rintro _ σ168 ⟨a163, a165, rfl, h164, h166, hp167⟩
              change Hp σ168 (.app a163 9 :: .app a165 3 :: .blk b146 (.cells [a139, a141, (.v (.int .i64 r138.f_Off))] 25) :: .blk bq0 (.cells [(.v (.string p0_0)), (.v (.int .i64 r143))] 57) :: .app a139 9 :: .app a141 3 :: .blk b5 (.cells [nilS, nilS, (.v (.int .i64 0))] 25) :: .blk b16 (.cells [a70, a73, (.v (.int .i64 y75))] 25) :: .app a70 9 :: .app a73 3 :: R) at hp167
              refine Eo.store hp167 7 rfl (storeCells_mk rfl rfl rfl (by simp [allOne, A.cells, h164.isOne, h166.isOne]) rfl rfl) rfl rfl rfl rfl rfl ?_
              intro σ170 hp169
              change Hp σ170 (.app a163 9 :: .app a165 3 :: .blk b146 (.cells [a139, a141, (.v (.int .i64 r138.f_Off))] 25) :: .blk bq0 (.cells [(.v (.string p0_0)), (.v (.int .i64 r143))] 57) :: .app a139 9 :: .app a141 3 :: .blk b5 (.cells [nilS, nilS, (.v (.int .i64 0))] 25) :: .blk b16 (.cells [a163, a165, (.v (.int .i64 r162.f_Off))] 25) :: .app a70 9 :: .app a73 3 :: R) at hp169
              refine Eo.nil ?_
              exact Ec.of (.cons rfl (.cons rfl (.cons rfl (.cons rfl (.nil'))))) (ih ((r143, r162.f_Syms, r162.f_Times, r162.f_Off), (a163, a165)) _ ⟨h164, h166, (Hp.front (Hp.front (Hp.front (Hp.front (Hp.front (Hp.drop (Hp.drop (Hp.drop (Hp.drop (Hp.drop hp169 2) 3) 3) 5) 5) 1) 1) 4) 4) 4)⟩ H)
            · have H := cond_f hc161 H
              refine Ec.region ?_
              refine Eo.val (x := (.v (.int .i64 r132))) rfl rfl rfl rfl ?_
              refine Eo.val (x := (.agg [(.v (.int .i64 r132)), (.v (.int .i64 121))])) (op_build (lay_cons rfl rfl rfl rfl rfl (lay_cons rfl rfl rfl rfl rfl lay_nil)) rfl (parts_cons rfl rfl (parts_cons rfl rfl rfl)) Tryz.underlying54 rfl rfl) rfl rfl rfl ?_
              refine Eo.val (x := (.ifc 54 (.agg [(.v (.int .i64 r132)), (.v (.int .i64 121))]))) (op_iface rfl rfl Tryz.underlying54 rfl) rfl rfl rfl ?_
              refine Eo.panic rfl rfl rfl ?_
              obtain rfl := Option.some.inj H
              exact Fin.pan (C := cfg) (fn := Tryz.f33) ⟨rfl, (Hp.drop (Hp.drop (Hp.drop (Hp.drop (Hp.drop (Hp.drop (Hp.drop (Hp.drop hp149 0) 0) 0) 0) 0) 0) 0) 0)⟩
        · skip
          refine Eo.callX (gexpr_parser__factor_ok ih22 (Hp.front (Hp.front (Hp.front (Hp.front (Hp.front hp136 4) 4) 4) 4) 4) hv172) rfl rfl ?_
          intro σ176 hp175
          obtain rfl := Option.some.inj H
          exact Fin.pan (C := cfg) (fn := Tryz.f33) ⟨rfl, (Hp.drop (Hp.drop (Hp.drop (Hp.drop hp175 0) 0) 0) 0)⟩
      · have H := cond_f hc135 H
        refine Ec.exit ?_
        obtain rfl := Option.some.inj H
        exact And.intro rfl ⟨a70, a73, h71, h74, (Hp.front (Hp.front (Hp.front (Hp.front (Hp.front hp133 4) 4) 2) 4) 4), (.cons rfl (.cons rfl (.nil')))⟩
    · rcases v178 with ⟨x123, x126, x129, x130⟩ | r186
      · intro x φ182 σ181 hJ
        obtain ⟨rfl, a124, a127, h125, h128, hp180, hf183⟩ := hJ
        refine Ec.of (F := [(4, (.ptr b5 0)), (5, (.ptr b16 0))]) hf183 ?_
        refine Ec.seq ?_
        refine Ec.region ?_
        refine Eo.val (x := (.agg [a124, a127, (.v (.int .i64 x129))])) (op_loadB hp180 1 rfl rfl rfl rfl) rfl rfl rfl ?_
        refine Eo.store hp180 0 rfl (storeCells_mk rfl rfl rfl (by simp [allOne, A.cells, h125.isOne, h128.isOne]) rfl rfl) rfl rfl rfl rfl rfl ?_
        intro σ185 hp184
        change Hp σ185 (.blk b5 (.cells [a124, a127, (.v (.int .i64 x129))] 25) :: .blk b16 (.cells [a124, a127, (.v (.int .i64 x129))] 25) :: .blk bq0 (.cells [(.v (.string p0_0)), (.v (.int .i64 x130))] 57) :: .app a124 9 :: .app a127 3 :: R) at hp184
        refine Eo.nil ?_
        obtain rfl := Option.some.inj H
        refine Ec.ret ?_
        refine Fin.mk' (resA_cell hp184 0 rfl rfl rfl rfl) ?_
        exact ⟨a124, a127, rfl, h125, h128, (Hp.front (Hp.front (Hp.front (Hp.drop (Hp.drop hp184 0) 0) 2) 2) 2)⟩
      · intro x φ187 σ188 hJ
        obtain rfl := Option.some.inj H
        cases x <;> first | exact hJ | exact hJ.elim
  · skip
    refine Eo.callX (gexpr_parser__factor_ok ih22 (Hp.front hp6 1) hv190) rfl rfl ?_
    intro σ194 hp193
    obtain rfl := Option.some.inj H
    exact Fin.pan (C := cfg) (fn := Tryz.f33) ⟨rfl, (Hp.drop hp193 0)⟩

def gexpr_parser__sum_L1 (N : Nat) (rec22 : ByteArray → Int → Int → Option (PR (TLin × Int) Texpr_fault)) (p0_0 : ByteArray) (p1 : Int) : Nat → Int → (List ByteArray) → (List Int) → Int → Option (LR Unit (PR (TLin × Int) Texpr_fault))
  | 0, _, _, _, _ => none
  | m + 1, y93, y94, y97, y100 => ((gexpr_parser__next N p0_0 y93).bind fun v => match v with | (r173, r174) => (cond ((r173 != 43) && (r173 != 45)) (some (.ret (.val ((TLin.mk y94 y97 y100), r174)))) (((((gexpr_parser__product N rec22 p0_0 (IntKind.wrap .i64 (r174 + 1)) p1).bind fun v => match v with | .val (r216, r221) => ((gexpr_plus N (TLin.mk y94 y97 y100) r216 (IntKind.wrap .i64 (44 - (IntKind.wrap .i64 r173)))).bind fun r228 => some (r221, r228.f_Syms, r228.f_Times, r228.f_Off)) | .pan _ => none) : Option ((Int × (List ByteArray) × (List Int) × Int))).bind fun v => match v with | (x208, x209, x212, x215) => (cond (decide (((x209.length : Nat) : Int) > 16)) (some (.ret (.pan (Texpr_fault.mk r174 123)))) (gexpr_parser__sum_L1 N rec22 p0_0 p1 m x208 x209 x212 x215))))))

def gexpr_parser__sum_rec (N : Nat) : Nat → ByteArray → Int → Int → Option (PR (TLin × Int) Texpr_fault)
  | 0, _, _, _ => none
  | k + 1, p0_0, p0_1, p1 => ((gexpr_parser__product N (gexpr_parser__sum_rec N k) p0_0 p0_1 p1).bind fun v => match v with | .val (r8, r13) => ((gexpr_parser__sum_L1 N (gexpr_parser__sum_rec N k) p0_0 p1 N r13 r8.f_Syms r8.f_Times r8.f_Off).bind fun v => match v with | .ret r247 => some r247 | .out _ => none) | .pan p254 => some (.pan p254))

def gexpr_parser__sum (n : Nat) (p0_0 : ByteArray) (p0_1 : Int) (p1 : Int) : Option ((PR (TLin × Int) Texpr_fault)) := gexpr_parser__sum_rec n n p0_0 p0_1 p1

theorem gexpr_parser__sum_rec_ok {n : Nat} : ∀ (k : Nat) {bq0 : Nat} {p0_0 : ByteArray} {p0_1 : Int} {p1 : Int} {R : List Res} {σ : St} (hp : Hp σ (.blk bq0 (.cells [(.v (.string p0_0)), (.v (.int .i64 p0_1))] 57) :: R)) {r : (PR (TLin × Int) Texpr_fault)} (H : gexpr_parser__sum_rec n k p0_0 p0_1 p1 = some r), CaO cfg 22 [(.ptr bq0 0), (.v (.int .i64 p1))] σ (gexpr_parser__sum_post bq0 p0_0 R r) := by
  intro k
  induction k with
  | zero => intro bq0 p0_0 p0_1 p1 R σ hp r H; rw [gexpr_parser__sum_rec] at H; cases H
  | succ k ihR =>
    intro bq0 p0_0 p0_1 p1 R σ hp r H
    rw [gexpr_parser__sum_rec] at H
    refine CaO.enterL (G := [(0, (.ptr bq0 0)), (1, (.v (.int .i64 p1)))]) Tryz.func22 rfl rfl rfl rfl ?_
    refine Ec.seq ?_
    refine Ec.region ?_
    refine Eo.alloc (z := [nilS, nilS, (.v (.int .i64 0))]) hp rfl rfl rfl rfl rfl ?_
    intro b5 σ7 hp6
    refine Eo.nil ?_
    refine Ec.seq ?_
    refine Ec.region ?_
    refine Eo.val (x := (.ptr bq0 0)) rfl rfl rfl rfl ?_
    refine Eo.val (x := (.v (.int .i64 p1))) rfl rfl rfl rfl ?_
    obtain ⟨v252, hv253, H⟩ := bind_some H
    rcases v252 with r255 | p254
    · skip
      refine Eo.callV (gexpr_parser__product_ok ihR (Hp.front hp6 1) hv253) rfl rfl rfl rfl ?_
      obtain ⟨r8, r13⟩ := r255
      rintro _ σ15 ⟨a9, a11, rfl, h10, h12, hp14⟩
      change Hp σ15 (.blk bq0 (.cells [(.v (.string p0_0)), (.v (.int .i64 r13))] 57) :: .app a9 9 :: .app a11 3 :: .blk b5 (.cells [nilS, nilS, (.v (.int .i64 0))] 25) :: R) at hp14
      refine Eo.alloc (z := [nilS, nilS, (.v (.int .i64 0))]) hp14 rfl rfl rfl rfl rfl ?_
      intro b16 σ18 hp17
      refine Eo.store hp17 0 rfl (storeCells_mk rfl rfl rfl (by simp [allOne, A.cells, h10.isOne, h12.isOne]) rfl rfl) rfl rfl rfl rfl rfl ?_
      intro σ20 hp19
      change Hp σ20 (.blk b16 (.cells [a9, a11, (.v (.int .i64 r8.f_Off))] 25) :: .blk bq0 (.cells [(.v (.string p0_0)), (.v (.int .i64 r13))] 57) :: .app a9 9 :: .app a11 3 :: .blk b5 (.cells [nilS, nilS, (.v (.int .i64 0))] 25) :: R) at hp19
      refine Eo.nil ?_
      refine Ec.block ?_
      obtain ⟨v245, hv246, H⟩ := bind_some H
      refine Ec.cut (J := (fun (v : LR Unit (PR (TLin × Int) Texpr_fault)) (x : X) (φ : Fr) (s : St) => match v with | .out _ => False | .ret r => FinR cfg Tryz.f22 (gexpr_parser__sum_post bq0 p0_0 R r) x φ s) v245) (Ec.weak (.cons rfl (.cons rfl (.cons rfl (.cons rfl (.nil'))))) (Ec.loopF (f := (fun m (i : (Int × (List ByteArray) × (List Int) × Int) × (A × A)) => gexpr_parser__sum_L1 n (gexpr_parser__sum_rec n k) p0_0 p1 m i.1.1 i.1.2.1 i.1.2.2.1 i.1.2.2.2)) (G := (fun (i : (Int × (List ByteArray) × (List Int) × Int) × (A × A)) => ([(0, (.ptr bq0 0)), (1, (.v (.int .i64 p1))), (4, (.ptr b5 0)), (5, (.ptr b16 0))] : List (Nat × A)))) (I := (fun (i : (Int × (List ByteArray) × (List Int) × Int) × (A × A)) (s : St) => Sl rS i.2.1 i.1.2.1 ∧ Sl (rI .i64) i.2.2 i.1.2.2.1 ∧ Hp s (.blk bq0 (.cells [(.v (.string p0_0)), (.v (.int .i64 i.1.1))] 57) :: .blk b5 (.cells [nilS, nilS, (.v (.int .i64 0))] 25) :: .blk b16 (.cells [i.2.1, i.2.2, (.v (.int .i64 i.1.2.2.2))] 25) :: .app i.2.1 9 :: .app i.2.2 3 :: R))) (J := (fun (v : LR Unit (PR (TLin × Int) Texpr_fault)) (x : X) (φ : Fr) (s : St) => match v with | .out _ => False | .ret r => FinR cfg Tryz.f22 (gexpr_parser__sum_post bq0 p0_0 R r) x φ s)) (fun _ => rfl) ?_ n ((r13, r8.f_Syms, r8.f_Times, r8.f_Off), (a9, a11)) _ v245 ⟨h10, h12, (Hp.front (Hp.front (Hp.front (Hp.front (Hp.front hp19 3) 3) 2) 4) 4)⟩ hv246)) ?_
      · rintro m ⟨⟨y93, y94, y97, y100⟩, ⟨a95, a98⟩⟩ σ0 v ⟨h96, h99, hp0⟩ H ih
        change gexpr_parser__sum_L1 n (gexpr_parser__sum_rec n k) p0_0 p1 (m + 1) y93 y94 y97 y100 = some v at H
        rw [gexpr_parser__sum_L1] at H
        change Ec _ _ _ [(0, (.ptr bq0 0)), (1, (.v (.int .i64 p1))), (4, (.ptr b5 0)), (5, (.ptr b16 0))] σ0 _
        refine Ec.block ?_
        refine Ec.seq ?_
        refine Ec.region ?_
        refine Eo.val (x := (.ptr bq0 0)) rfl rfl rfl rfl ?_
        obtain ⟨r244, hvr244, H⟩ := bind_some H
        refine Eo.call rfl rfl rfl rfl (gexpr_parser__next_ok (Hp.front (Hp.front (Hp.front (Hp.front (Hp.front hp0 4) 4) 4) 4) 4) hvr244) ?_
        obtain ⟨r173, r174⟩ := r244
        rintro _ σ176 ⟨rfl, hp175⟩
        change Hp σ176 (.blk bq0 (.cells [(.v (.string p0_0)), (.v (.int .i64 r174))] 57) :: .blk b5 (.cells [nilS, nilS, (.v (.int .i64 0))] 25) :: .blk b16 (.cells [a95, a98, (.v (.int .i64 y100))] 25) :: .app a95 9 :: .app a98 3 :: R) at hp175
        refine Eo.val (x := (.v (.int .u8 r173))) rfl rfl rfl rfl ?_
        refine Eo.nil ?_
        refine Ec.seq ?_
        refine Ec.seq ?_
        refine Ec.region ?_
        refine Eo.val (x := (.v (.int .u8 r173))) rfl rfl rfl rfl ?_
        refine Eo.val (x := (.v (.bool (r173 != 43)))) rfl rfl rfl rfl ?_
        refine Eo.val (x := (.v (.bool (r173 != 43)))) rfl rfl rfl rfl ?_
        refine Eo.cutF 3 [(0, (.ptr bq0 0)), (1, (.v (.int .i64 p1))), (4, (.ptr b5 0)), (5, (.ptr b16 0)), (6, (.v (.int .u8 r173))), (18, (.v (.bool ((r173 != 43) && (r173 != 45)))))] ?_ ?_
        · skip
          cases hc179 : (r173 != 43)
          · skip
            refine Eo.off rfl rfl rfl ?_
            refine Eo.off rfl rfl rfl ?_
            refine Eo.val (x := (.v (.bool false))) rfl rfl rfl rfl ?_
            exact Eo.nil (And.intro rfl (And.intro rfl (.cons rfl (.cons rfl (.cons rfl (.cons rfl (.cons rfl (.cons rfl (.nil')))))))))
          · skip
            refine Eo.val (x := (.v (.int .u8 r173))) rfl rfl rfl rfl ?_
            refine Eo.val (x := (.v (.bool (r173 != 45)))) rfl rfl rfl rfl ?_
            refine Eo.val (x := (.v (.bool (r173 != 45)))) rfl rfl rfl rfl ?_
            exact Eo.nil (And.intro rfl (And.intro rfl (.cons rfl (.cons rfl (.cons rfl (.cons rfl (.cons rfl (.cons rfl (.nil')))))))))
        · skip
          refine Eo.nil ?_
          refine Ec.cond (t := ((r173 != 43) && (r173 != 45))) rfl (fun hc182 => ?_) (fun hc182 => ?_)
          · have H := cond_t hc182 H
            refine Ec.seq ?_
            refine Ec.region ?_
            refine Eo.val (x := (.agg [a95, a98, (.v (.int .i64 y100))])) (op_loadB hp175 2 rfl rfl rfl rfl) rfl rfl rfl ?_
            refine Eo.store hp175 1 rfl (storeCells_mk rfl rfl rfl (by simp [allOne, A.cells, h96.isOne, h99.isOne]) rfl rfl) rfl rfl rfl rfl rfl ?_
            intro σ184 hp183
            change Hp σ184 (.blk bq0 (.cells [(.v (.string p0_0)), (.v (.int .i64 r174))] 57) :: .blk b5 (.cells [a95, a98, (.v (.int .i64 y100))] 25) :: .blk b16 (.cells [a95, a98, (.v (.int .i64 y100))] 25) :: .app a95 9 :: .app a98 3 :: R) at hp183
            refine Eo.nil ?_
            obtain rfl := Option.some.inj H
            refine Ec.ret ?_
            refine Fin.mk' (resA_cell hp183 1 rfl rfl rfl rfl) ?_
            exact ⟨a95, a98, rfl, h96, h99, (Hp.front (Hp.front (Hp.front (Hp.drop (Hp.drop hp183 1) 1) 2) 2) 2)⟩
          · have H := cond_f hc182 H
            refine Ec.skip ?_
            refine Ec.seq ?_
            refine Ec.region ?_
            refine Eo.val (x := (.ptr bq0 0)) rfl rfl rfl rfl ?_
            refine Eo.val (x := (.ptr bq0 0)) rfl rfl rfl rfl ?_
            refine Eo.val (x := (.ptr bq0 1)) rfl rfl rfl rfl ?_
            refine Eo.val (x := (.v (.int .i64 r174))) (op_loadB hp175 0 rfl rfl rfl rfl) rfl rfl rfl ?_
            refine Eo.val (x := (.v (.int .i64 r174))) rfl rfl rfl rfl ?_
            refine Eo.nil ?_
            refine Ec.seq ?_
            refine Ec.region ?_
            refine Eo.val (x := (.ptr bq0 0)) rfl rfl rfl rfl ?_
            refine Eo.val (x := (.ptr bq0 0)) rfl rfl rfl rfl ?_
            refine Eo.val (x := (.ptr bq0 1)) rfl rfl rfl rfl ?_
            refine Eo.val (x := (.v (.int .i64 r174))) (op_loadB hp175 0 rfl rfl rfl rfl) rfl rfl rfl ?_
            refine Eo.val (x := (.v (.int .i64 (IntKind.wrap .i64 (r174 + 1))))) rfl rfl rfl rfl ?_
            refine Eo.val (x := (.ptr bq0 0)) rfl rfl rfl rfl ?_
            refine Eo.val (x := (.ptr bq0 1)) rfl rfl rfl rfl ?_
            refine Eo.store hp175 0 rfl (storeCells_mk rfl rfl rfl rfl rfl rfl) rfl rfl rfl rfl rfl ?_
            intro σ186 hp185
            change Hp σ186 (.blk bq0 (.cells [(.v (.string p0_0)), (.v (.int .i64 (IntKind.wrap .i64 (r174 + 1))))] 57) :: .blk b5 (.cells [nilS, nilS, (.v (.int .i64 0))] 25) :: .blk b16 (.cells [a95, a98, (.v (.int .i64 y100))] 25) :: .app a95 9 :: .app a98 3 :: R) at hp185
            refine Eo.nil ?_
            refine Ec.seq ?_
            obtain ⟨v242, hv243, H⟩ := bind_some H
            refine Ec.cut (J := (fun (v : (Int × (List ByteArray) × (List Int) × Int)) (x : X) (φ : Fr) (s : St) => match v with | (x208, x209, x212, x215) => x = .normal ∧ (∃ (a210 a213 : A), Sl rS a210 x209 ∧ Sl (rI .i64) a213 x212 ∧ Hp s (.blk bq0 (.cells [(.v (.string p0_0)), (.v (.int .i64 x208))] 57) :: .blk b5 (.cells [nilS, nilS, (.v (.int .i64 0))] 25) :: .blk b16 (.cells [a210, a213, (.v (.int .i64 x215))] 25) :: .app a210 9 :: .app a213 3 :: R) ∧ Fl [(0, (.ptr bq0 0)), (1, (.v (.int .i64 p1))), (4, (.ptr b5 0)), (5, (.ptr b16 0)), (7, (.v (.int .i64 r174)))] φ)) v242) ?_ ?_
            · have H := hv243
              refine Ec.drawnS (by kernel_rfl) ?_
              refine Ed.val (x := (.agg [a95, a98, (.v (.int .i64 y100))])) (op_loadB hp185 2 rfl rfl rfl rfl) rfl rfl rfl rfl rfl ?_
              refine Ed.val (x := (.ptr bq0 0)) rfl rfl rfl rfl rfl rfl ?_
              refine Ed.val (x := (.v (.int .i64 p1))) rfl rfl rfl rfl rfl rfl ?_
              obtain ⟨v224, hv225, H⟩ := bind_some H
              rcases v224 with r227 | p226
              rotate_left
              · cases H
              refine Ed.call (CaO.val (gexpr_parser__product_ok ihR (Hp.front (Hp.front (Hp.front (Hp.front (Hp.front hp185 4) 4) 4) 4) 4) hv225)) rfl rfl rfl rfl rfl (by obtain ⟨r216, r221⟩ := r227; rintro _ σ223 ⟨a217, a219, rfl, h218, h220, hp222⟩; change Hp σ223 (.blk bq0 (.cells [(.v (.string p0_0)), (.v (.int .i64 r221))] 57) :: .app a217 9 :: .app a219 3 :: .blk b5 (.cells [nilS, nilS, (.v (.int .i64 0))] 25) :: .blk b16 (.cells [a95, a98, (.v (.int .i64 y100))] 25) :: .app a95 9 :: .app a98 3 :: R) at hp222; exact (stF_pure rfl (stF_pure rfl (stF_load rfl (op_loadB hp222 4 rfl rfl rfl rfl) stF_nil)))) ?_
              obtain ⟨r216, r221⟩ := r227
              rintro _ σ223 ⟨a217, a219, rfl, h218, h220, hp222⟩
              change Hp σ223 (.blk bq0 (.cells [(.v (.string p0_0)), (.v (.int .i64 r221))] 57) :: .app a217 9 :: .app a219 3 :: .blk b5 (.cells [nilS, nilS, (.v (.int .i64 0))] 25) :: .blk b16 (.cells [a95, a98, (.v (.int .i64 y100))] 25) :: .app a95 9 :: .app a98 3 :: R) at hp222
              refine Ed.valP (x := (.v (.int .u8 r173))) rfl rfl rfl rfl rfl (stP_pure rfl stP_nil) ?_
              refine Ed.valP (x := (.v (.int .i64 (IntKind.wrap .i64 r173)))) rfl rfl rfl rfl rfl (stP_op rfl rfl stP_nil) ?_
              refine Ed.valP (x := (.v (.int .i64 (IntKind.wrap .i64 (44 - (IntKind.wrap .i64 r173)))))) rfl rfl rfl rfl rfl (stP_pure rfl stP_nil) ?_
              obtain ⟨r228, hvr228, H⟩ := bind_some H
              refine Ed.call (gexpr_plus_ok h96 h99 h218 h220 hp222 hvr228) rfl rfl rfl rfl rfl (fun _ _ _ => (stF_pure rfl (stF_bef (by kernel_rfl) (stF_pure rfl (stF_pure rfl (stF_pure rfl (stF_bef (by kernel_rfl) stF_nil))))))) ?_
              rintro _ σ234 ⟨a229, a231, rfl, h230, h232, hp233⟩
              change Hp σ234 (.app a229 9 :: .app a231 3 :: .blk bq0 (.cells [(.v (.string p0_0)), (.v (.int .i64 r221))] 57) :: .app a217 9 :: .app a219 3 :: .blk b5 (.cells [nilS, nilS, (.v (.int .i64 0))] 25) :: .blk b16 (.cells [a95, a98, (.v (.int .i64 y100))] 25) :: .app a95 9 :: .app a98 3 :: R) at hp233
              refine Ed.store hp233 6 rfl (storeCells_mk rfl rfl rfl (by simp [allOne, A.cells, h230.isOne, h232.isOne]) rfl rfl) rfl rfl rfl rfl rfl (fun σ' hp' => ((stF_pure rfl (stF_bef (by kernel_rfl) (stF_pure rfl (stF_pure rfl (stF_pure rfl (stF_bef (by kernel_rfl) stF_nil)))))))) ?_
              intro σ236 hp235
              change Hp σ236 (.app a229 9 :: .app a231 3 :: .blk bq0 (.cells [(.v (.string p0_0)), (.v (.int .i64 r221))] 57) :: .app a217 9 :: .app a219 3 :: .blk b5 (.cells [nilS, nilS, (.v (.int .i64 0))] 25) :: .blk b16 (.cells [a229, a231, (.v (.int .i64 r228.f_Off))] 25) :: .app a95 9 :: .app a98 3 :: R) at hp235
              refine Ed.nil ?_
              obtain rfl := Option.some.inj H
              exact And.intro rfl (And.intro rfl ⟨a229, a231, h230, h232, (Hp.front (Hp.front (Hp.front (Hp.front (Hp.front (Hp.drop (Hp.drop (Hp.drop (Hp.drop hp235 3) 3) 5) 5) 1) 1) 4) 4) 4), (.cons rfl (.cons rfl (.cons rfl (.cons rfl (.cons rfl (.nil'))))))⟩)
            · skip
              intro x φ239 σ238 hJ
              obtain ⟨x208, x209, x212, x215⟩ := v242
              obtain ⟨rfl, a210, a213, h211, h214, hp237, hf240⟩ := hJ
              refine Ec.of (F := [(0, (.ptr bq0 0)), (1, (.v (.int .i64 p1))), (4, (.ptr b5 0)), (5, (.ptr b16 0)), (7, (.v (.int .i64 r174)))]) hf240 ?_
              refine Ec.seq ?_
              refine Ec.region ?_
              refine Eo.val (x := (.ptr b16 0)) rfl rfl rfl rfl ?_
              refine Eo.val (x := a210) (op_loadB hp237 2 rfl rfl rfl rfl) rfl rfl rfl ?_
              refine Eo.val (x := (.v (.int .i64 ((x209.length : Nat) : Int)))) (op_lenL h211 rfl rfl rfl rfl rfl Tryz.underlying22) rfl rfl rfl ?_
              refine Eo.val (x := (.v (.bool (decide (((x209.length : Nat) : Int) > 16))))) rfl rfl rfl rfl ?_
              refine Eo.nil ?_
              refine Ec.cond (t := (decide (((x209.length : Nat) : Int) > 16))) rfl (fun hc241 => ?_) (fun hc241 => ?_)
              · have H := cond_t hc241 H
                refine Ec.region ?_
                refine Eo.val (x := (.v (.int .i64 r174))) rfl rfl rfl rfl ?_
                refine Eo.val (x := (.agg [(.v (.int .i64 r174)), (.v (.int .i64 123))])) (op_build (lay_cons rfl rfl rfl rfl rfl (lay_cons rfl rfl rfl rfl rfl lay_nil)) rfl (parts_cons rfl rfl (parts_cons rfl rfl rfl)) Tryz.underlying54 rfl rfl) rfl rfl rfl ?_
                refine Eo.val (x := (.ifc 54 (.agg [(.v (.int .i64 r174)), (.v (.int .i64 123))]))) (op_iface rfl rfl Tryz.underlying54 rfl) rfl rfl rfl ?_
                refine Eo.panic rfl rfl rfl ?_
                obtain rfl := Option.some.inj H
                exact Fin.pan (C := cfg) (fn := Tryz.f22) ⟨rfl, (Hp.drop (Hp.drop (Hp.drop (Hp.drop (Hp.drop hp237 0) 0) 0) 0) 0)⟩
              · have H := cond_f hc241 H
                refine Ec.skip ?_
                exact Ec.of (.cons rfl (.cons rfl (.cons rfl (.cons rfl (.nil'))))) (ih ((x208, x209, x212, x215), (a210, a213)) _ ⟨h211, h214, (Hp.front (Hp.front (Hp.front (Hp.front (Hp.front hp237 4) 4) 4) 4) 4)⟩ H)
      · rcases v245 with _ | r247
        · intro x φ248 σ249 hJ
          exact hJ.elim
        · intro x φ250 σ251 hJ
          obtain rfl := Option.some.inj H
          cases x <;> first | exact hJ | exact hJ.elim
    · skip
      refine Eo.callX (gexpr_parser__product_ok ihR (Hp.front hp6 1) hv253) rfl rfl ?_
      intro σ257 hp256
      obtain rfl := Option.some.inj H
      exact Fin.pan (C := cfg) (fn := Tryz.f22) ⟨rfl, (Hp.drop hp256 0)⟩

theorem gexpr_parser__sum_ok {n : Nat} {bq0 : Nat} {p0_0 : ByteArray} {p0_1 : Int} {p1 : Int} {R : List Res} {σ : St} (hp : Hp σ (.blk bq0 (.cells [(.v (.string p0_0)), (.v (.int .i64 p0_1))] 57) :: R)) {r : (PR (TLin × Int) Texpr_fault)} (H : gexpr_parser__sum n p0_0 p0_1 p1 = some r) : CaO cfg 22 [(.ptr bq0 0), (.v (.int .i64 p1))] σ (gexpr_parser__sum_post bq0 p0_0 R r) := gexpr_parser__sum_rec_ok n hp H

def gexpr_Parse_1_fin (n : Nat) (p0_0 : (List ByteArray)) (p0_1 : (List Int)) (p0_2 : Int) (p1_0 : Int) (p2_0 : Int) : Option Unit := ((some () : Option (Unit)).bind fun _ => some ())

theorem gexpr_Parse_1_fin_ok {n : Nat} {bq0 : Nat} {bq1 : Nat} {bq2 : Nat} {p0_0 : (List ByteArray)} {p0_1 : (List Int)} {p0_2 : Int} {p1_0 : Int} {p2_0 : Int} {a1 a3 : A} {R : List Res} {σ : St} (h2 : Sl rS a1 p0_0) (h4 : Sl (rI .i64) a3 p0_1) (hp : Hp σ (.blk bq0 (.cells [a1, a3, (.v (.int .i64 p0_2))] 25) :: .blk bq1 (.cells [(.v (.int .i64 p1_0))] 3) :: .blk bq2 (.cells [(.v (.int .i64 p2_0))] 27) :: .app a1 9 :: .app a3 3 :: R)) {r : Unit} (H : gexpr_Parse_1_fin n p0_0 p0_1 p0_2 p1_0 p2_0 = some r) : Cd cfg 21 [(.ptr bq0 0), (.ptr bq1 0), (.ptr bq2 0)] σ none (fun s q => q = none ∧ (Hp s (.blk bq0 (.cells [a1, a3, (.v (.int .i64 p0_2))] 25) :: .blk bq1 (.cells [(.v (.int .i64 p1_0))] 3) :: .blk bq2 (.cells [(.v (.int .i64 p2_0))] 27) :: .app a1 9 :: .app a3 3 :: R))) := by
  unfold gexpr_Parse_1_fin at H
  refine Cd.enter (G := [(0, (.ptr bq0 0)), (1, (.ptr bq1 0)), (2, (.ptr bq2 0))]) Tryz.func21 rfl rfl rfl rfl ?_
  refine EsC.seq ?_
  refine EsC.rcv rfl rfl rfl rfl rfl ?_
  refine Eo.val (x := (.v .nilIface)) rfl rfl rfl rfl ?_
  refine Eo.nil ?_
  refine ⟨rfl, rfl, rfl, _, Fl.self _, ?_⟩
  refine EsC.of ?_
  refine Ec.seq ?_
  refine Ec.region ?_
  refine Eo.val (x := (.v .nilIface)) rfl rfl rfl rfl ?_
  refine Eo.val (x := (.v (.bool false))) (op_nilNil rfl rfl rfl Tryz.underlying20 rfl) rfl rfl rfl ?_
  refine Eo.nil ?_
  obtain ⟨v9, hv10, H⟩ := bind_some H
  refine Ec.cut (J := (fun (_ : Unit) (x : X) (φ : Fr) (s : St) => x = .normal ∧ (Hp s (.blk bq0 (.cells [a1, a3, (.v (.int .i64 p0_2))] 25) :: .blk bq1 (.cells [(.v (.int .i64 p1_0))] 3) :: .blk bq2 (.cells [(.v (.int .i64 p2_0))] 27) :: .app a1 9 :: .app a3 3 :: R) ∧ Fl [] φ)) v9) ?_ ?_
  · have H := hv10
    refine Ec.cond (t := false) rfl (fun h => nomatch h) (fun h => ?_)
    refine Ec.skip ?_
    obtain rfl := Option.some.inj H
    exact And.intro rfl ⟨(Hp.front (Hp.front (Hp.front (Hp.front (Hp.front hp 4) 4) 4) 4) 4), (.nil')⟩
  · skip
    intro x φ7 σ6 hJ
    obtain ⟨rfl, hp5, hf8⟩ := hJ
    obtain rfl := Option.some.inj H
    exact ⟨.inl rfl, hf8.2, .inl rfl, hf8.2, ⟨[], rfl⟩, rfl, (Hp.front (Hp.front (Hp.front (Hp.front (Hp.front hp5 4) 4) 4) 4) 4)⟩

def gexpr_Parse_1_pan (n : Nat) (p0_0 : (List ByteArray)) (p0_1 : (List Int)) (p0_2 : Int) (p1_0 : Int) (p2_0 : Int) (pp : Texpr_fault) : Option ((List ByteArray) × (List Int) × Int × Int × Int) := ((((some (([] : List ByteArray), ([] : List Int), 0, pp.f_at, pp.f_e) : Option (((List ByteArray) × (List Int) × Int × Int × Int))).bind fun v => match v with | (x61, x64, x67, x68, x69) => some (x61, x64, x67, x68, x69)) : Option (((List ByteArray) × (List Int) × Int × Int × Int))).bind fun v => match v with | (x41, x44, x47, x48, x49) => some (x41, x44, x47, x48, x49))

theorem gexpr_Parse_1_pan_ok {n : Nat} {bq0 : Nat} {bq1 : Nat} {bq2 : Nat} {p0_0 : (List ByteArray)} {p0_1 : (List Int)} {p0_2 : Int} {p1_0 : Int} {p2_0 : Int} {pp : Texpr_fault} {a1 a3 : A} {R : List Res} {σ : St} (h2 : Sl rS a1 p0_0) (h4 : Sl (rI .i64) a3 p0_1) (hp : Hp σ (.blk bq0 (.cells [a1, a3, (.v (.int .i64 p0_2))] 25) :: .blk bq1 (.cells [(.v (.int .i64 p1_0))] 3) :: .blk bq2 (.cells [(.v (.int .i64 p2_0))] 27) :: .app a1 9 :: .app a3 3 :: R)) {r : ((List ByteArray) × (List Int) × Int × Int × Int)} (H : gexpr_Parse_1_pan n p0_0 p0_1 p0_2 p1_0 p2_0 pp = some r) : Cd cfg 21 [(.ptr bq0 0), (.ptr bq1 0), (.ptr bq2 0)] σ (some (.ifc 54 (.agg [(.v (.int .i64 pp.f_at)), (.v (.int .i64 pp.f_e))]))) (fun s q => q = none ∧ (∃ (a5 a7 : A), Sl rS a5 r.1 ∧ Sl (rI .i64) a7 r.2.1 ∧ Hp s (.blk bq0 (.cells [a5, a7, (.v (.int .i64 r.2.2.1))] 25) :: .blk bq1 (.cells [(.v (.int .i64 r.2.2.2.1))] 3) :: .blk bq2 (.cells [(.v (.int .i64 r.2.2.2.2))] 27) :: .app a5 9 :: .app a7 3 :: R))) := by
  unfold gexpr_Parse_1_pan at H
  refine Cd.enter (G := [(0, (.ptr bq0 0)), (1, (.ptr bq1 0)), (2, (.ptr bq2 0))]) Tryz.func21 rfl rfl rfl rfl ?_
  refine EsC.seq ?_
  refine EsC.rcv rfl rfl rfl rfl rfl ?_
  refine Eo.val (x := (.ifc 54 (.agg [(.v (.int .i64 pp.f_at)), (.v (.int .i64 pp.f_e))]))) rfl rfl rfl rfl ?_
  refine Eo.nil ?_
  refine ⟨rfl, rfl, rfl, _, Fl.self _, ?_⟩
  refine EsC.of ?_
  refine Ec.seq ?_
  refine Ec.region ?_
  refine Eo.val (x := (.ifc 54 (.agg [(.v (.int .i64 pp.f_at)), (.v (.int .i64 pp.f_e))]))) rfl rfl rfl rfl ?_
  refine Eo.val (x := (.v (.bool true))) (op_neNil rfl rfl rfl Tryz.underlying20 rfl) rfl rfl rfl ?_
  refine Eo.nil ?_
  obtain ⟨v86, hv87, H⟩ := bind_some H
  refine Ec.cut (J := (fun (v : ((List ByteArray) × (List Int) × Int × Int × Int)) (x : X) (φ : Fr) (s : St) => match v with | (x41, x44, x47, x48, x49) => x = .normal ∧ (∃ (a42 a45 : A), Sl rS a42 x41 ∧ Sl (rI .i64) a45 x44 ∧ Hp s (.blk bq0 (.cells [a42, a45, (.v (.int .i64 x47))] 25) :: .blk bq1 (.cells [(.v (.int .i64 x48))] 3) :: .blk bq2 (.cells [(.v (.int .i64 x49))] 27) :: .app a42 9 :: .app a45 3 :: R) ∧ Fl [] φ)) v86) ?_ ?_
  · have H := hv87
    refine Ec.cond (t := true) rfl (fun h => ?_) (fun h => nomatch h)
    refine Ec.seq ?_
    refine Ec.region ?_
    refine Eo.val (x := (.ifc 54 (.agg [(.v (.int .i64 pp.f_at)), (.v (.int .i64 pp.f_e))]))) rfl rfl rfl rfl ?_
    refine Eo.val (x := (.agg [(.v (.int .i64 pp.f_at)), (.v (.int .i64 pp.f_e))])) (op_assert rfl rfl Tryz.underlying54 rfl) rfl rfl rfl ?_
    refine Eo.alloc (z := [(.v (.int .i64 0)), (.v (.int .i64 0))]) hp rfl rfl rfl rfl rfl ?_
    intro b50 σ52 hp51
    refine Eo.store hp51 0 rfl (storeCells_mk rfl rfl rfl rfl rfl rfl) rfl rfl rfl rfl rfl ?_
    intro σ54 hp53
    change Hp σ54 (.blk b50 (.cells [(.v (.int .i64 pp.f_at)), (.v (.int .i64 pp.f_e))] 54) :: .blk bq0 (.cells [a1, a3, (.v (.int .i64 p0_2))] 25) :: .blk bq1 (.cells [(.v (.int .i64 p1_0))] 3) :: .blk bq2 (.cells [(.v (.int .i64 p2_0))] 27) :: .app a1 9 :: .app a3 3 :: R) at hp53
    refine Eo.nil ?_
    obtain ⟨v80, hv81, H⟩ := bind_some H
    refine Ec.cut (J := (fun (v : ((List ByteArray) × (List Int) × Int × Int × Int)) (x : X) (φ : Fr) (s : St) => match v with | (x61, x64, x67, x68, x69) => x = .normal ∧ (∃ (a62 a65 : A), Sl rS a62 x61 ∧ Sl (rI .i64) a65 x64 ∧ Hp s (.blk bq0 (.cells [a62, a65, (.v (.int .i64 x67))] 25) :: .blk bq1 (.cells [(.v (.int .i64 x68))] 3) :: .blk bq2 (.cells [(.v (.int .i64 x69))] 27) :: .app a62 9 :: .app a65 3 :: R) ∧ Fl [] φ)) v80) ?_ ?_
    · have H := hv81
      refine Ec.drawnS (by kernel_rfl) ?_
      refine Ed.val (x := (.agg [nilS, nilS, (.v (.int .i64 0))])) (op_build lay_nil rfl rfl Tryz.underlying25 rfl rfl) rfl rfl rfl rfl rfl ?_
      refine Ed.val (x := (.ptr b50 0)) rfl rfl rfl rfl rfl rfl ?_
      refine Ed.val (x := (.v (.int .i64 pp.f_at))) (op_loadB hp53 0 rfl rfl rfl rfl) rfl rfl rfl rfl rfl ?_
      refine Ed.val (x := (.ptr b50 1)) rfl rfl rfl rfl rfl rfl ?_
      refine Ed.val (x := (.v (.int .i64 pp.f_e))) (op_loadB hp53 0 rfl rfl rfl rfl) rfl rfl rfl rfl rfl ?_
      refine Ed.store hp53 1 rfl (storeCells_mk rfl rfl rfl rfl rfl rfl) rfl rfl rfl rfl rfl (fun σ' hp' => ((stF_load rfl (op_loadB hp' 0 rfl rfl rfl rfl) (stF_pure rfl (stF_load rfl (op_loadB hp' 0 rfl rfl rfl rfl) (stF_pure rfl (stF_pure rfl stF_nil))))))) ?_
      intro σ71 hp70
      change Hp σ71 (.blk b50 (.cells [(.v (.int .i64 pp.f_at)), (.v (.int .i64 pp.f_e))] 54) :: .blk bq0 (.cells [nilS, nilS, (.v (.int .i64 0))] 25) :: .blk bq1 (.cells [(.v (.int .i64 p1_0))] 3) :: .blk bq2 (.cells [(.v (.int .i64 p2_0))] 27) :: .app a1 9 :: .app a3 3 :: R) at hp70
      refine Ed.store hp70 2 rfl (storeCells_mk rfl rfl rfl rfl rfl rfl) rfl rfl rfl rfl rfl (fun σ' hp' => ((stF_load rfl (op_loadB hp' 0 rfl rfl rfl rfl) (stF_pure rfl (stF_bef (by kernel_rfl) (stF_pure rfl (stF_pure rfl stF_nil))))))) ?_
      intro σ73 hp72
      change Hp σ73 (.blk b50 (.cells [(.v (.int .i64 pp.f_at)), (.v (.int .i64 pp.f_e))] 54) :: .blk bq0 (.cells [nilS, nilS, (.v (.int .i64 0))] 25) :: .blk bq1 (.cells [(.v (.int .i64 pp.f_at))] 3) :: .blk bq2 (.cells [(.v (.int .i64 p2_0))] 27) :: .app a1 9 :: .app a3 3 :: R) at hp72
      refine Ed.store hp72 3 rfl (storeCells_mk rfl rfl rfl rfl rfl rfl) rfl rfl rfl rfl rfl (fun σ' hp' => ((stF_bef (by kernel_rfl) (stF_pure rfl (stF_bef (by kernel_rfl) (stF_pure rfl (stF_pure rfl stF_nil))))))) ?_
      intro σ75 hp74
      change Hp σ75 (.blk b50 (.cells [(.v (.int .i64 pp.f_at)), (.v (.int .i64 pp.f_e))] 54) :: .blk bq0 (.cells [nilS, nilS, (.v (.int .i64 0))] 25) :: .blk bq1 (.cells [(.v (.int .i64 pp.f_at))] 3) :: .blk bq2 (.cells [(.v (.int .i64 pp.f_e))] 27) :: .app a1 9 :: .app a3 3 :: R) at hp74
      refine Ed.nil ?_
      obtain rfl := Option.some.inj H
      exact And.intro rfl (And.intro rfl ⟨nilS, nilS, Sl.nil, Sl.nil, (Hp.front (Hp.front (Hp.front (Hp.front (Hp.appNil (Hp.appNil (Hp.drop (Hp.drop (Hp.drop hp74 0) 3) 3) 9) 3) 1) 4) 4) 4), (.nil')⟩)
    · skip
      intro x φ78 σ77 hJ
      obtain ⟨x61, x64, x67, x68, x69⟩ := v80
      obtain ⟨rfl, a62, a65, h63, h66, hp76, hf79⟩ := hJ
      obtain rfl := Option.some.inj H
      exact And.intro rfl ⟨a62, a65, h63, h66, (Hp.front (Hp.front (Hp.front (Hp.front (Hp.front hp76 4) 4) 4) 4) 4), (Fl.trans (G := []) (.nil') hf79)⟩
  · skip
    intro x φ84 σ83 hJ
    obtain ⟨x41, x44, x47, x48, x49⟩ := v86
    obtain ⟨rfl, a42, a45, h43, h46, hp82, hf85⟩ := hJ
    obtain rfl := Option.some.inj H
    exact ⟨.inl rfl, hf85.2, .inl rfl, hf85.2, ⟨[], rfl⟩, rfl, a42, a45, h43, h46, (Hp.front (Hp.front (Hp.front (Hp.front (Hp.front hp82 4) 4) 4) 4) 4)⟩

def gexpr_Parse (n : Nat) (p0 : ByteArray) : Option ((TLin × Int × Int)) := ((gexpr_parser__sum n p0 0 0).bind fun v => match v with | .val (r17, r22) => ((gexpr_parser__next n p0 r22).bind fun v => match v with | (r27, r28) => (cond (decide (r28 < ((p0.size : Nat) : Int))) (((some (([] : List ByteArray), ([] : List Int), 0, r28, 121) : Option (((List ByteArray) × (List Int) × Int × Int × Int))).bind fun v => match v with | (x38, x41, x44, x45, x46) => ((gexpr_Parse_1_fin n x38 x41 x44 x45 x46).bind fun v => match v with | _ => some ((TLin.mk x38 x41 x44), x45, x46)))) (((gexpr_Parse_1_fin n r17.f_Syms r17.f_Times r17.f_Off 0 0).bind fun v => match v with | _ => some (r17, 0, 0))))) | .pan p74 => ((gexpr_Parse_1_pan n ([] : List ByteArray) ([] : List Int) 0 0 0 p74).bind fun v => match v with | (r78, r81, r84, r85, r86) => some ((TLin.mk r78 r81 r84), r85, r86)))

def gexpr_Parse_post (R : List Res) (r : (TLin × Int × Int)) (x : A) (s : St) : Prop := ∃ (a1 a3 : A), x = (.tup [(.agg [a1, a3, (.v (.int .i64 r.1.f_Off))]), (.v (.int .i64 r.2.1)), (.v (.int .i64 r.2.2))]) ∧ Sl rS a1 r.1.f_Syms ∧ Sl (rI .i64) a3 r.1.f_Times ∧ Hp s (.app a1 9 :: .app a3 3 :: R)

theorem gexpr_Parse_ok {n : Nat} {p0 : ByteArray} {R : List Res} {σ : St} (hp : Hp σ R) {r : (TLin × Int × Int)} (H : gexpr_Parse n p0 = some r) : Ca cfg 9 [(.v (.string p0))] σ (gexpr_Parse_post R r) := by
  refine CaO.val ?_
  unfold gexpr_Parse at H
  refine CaO.enterD (G := [(0, (.v (.string p0)))]) Tryz.func9 rfl rfl rfl rfl ?_
  refine Ec.seq ?_
  refine Ec.region ?_
  refine Eo.alloc (z := [nilS, nilS, (.v (.int .i64 0))]) hp rfl rfl rfl rfl rfl ?_
  intro b5 σ7 hp6
  refine Eo.alloc (z := [(.v (.int .i64 0))]) hp6 rfl rfl rfl rfl rfl ?_
  intro b8 σ10 hp9
  refine Eo.alloc (z := [(.v (.int .i64 0))]) hp9 rfl rfl rfl rfl rfl ?_
  intro b11 σ13 hp12
  refine Eo.nil ?_
  refine Ec.seq ?_
  refine Ec.region ?_
  refine Eo.val (x := (.fn (.func 21) [] [(.ptr b5 0), (.ptr b8 0), (.ptr b11 0)])) rfl rfl rfl rfl ?_
  refine Eo.deferSeq rfl rfl rfl ?_
  refine Ec.seq ?_
  refine Ec.region ?_
  refine Eo.val (x := (.v (.string p0))) rfl rfl rfl rfl ?_
  refine Eo.val (x := (.agg [(.v (.string p0)), (.v (.int .i64 0))])) (op_build (lay_cons rfl rfl rfl rfl rfl lay_nil) rfl (parts_cons rfl rfl rfl) Tryz.underlying57 rfl rfl) rfl rfl rfl ?_
  refine Eo.box hp12 rfl rfl rfl rfl rfl rfl rfl ?_
  intro b14 σ16 hp15
  refine Eo.val (x := (.ptr b14 0)) rfl rfl rfl rfl ?_
  refine Eo.nil ?_
  refine Ec.seq ?_
  refine Ec.region ?_
  refine Eo.val (x := (.ptr b14 0)) rfl rfl rfl rfl ?_
  obtain ⟨v72, hv73, H⟩ := bind_some H
  rcases v72 with r75 | p74
  · skip
    refine Eo.callV (gexpr_parser__sum_ok (Hp.front (Hp.front (Hp.front (Hp.front hp15 3) 3) 3) 3) hv73) rfl rfl rfl rfl ?_
    obtain ⟨r17, r22⟩ := r75
    rintro _ σ24 ⟨a18, a20, rfl, h19, h21, hp23⟩
    change Hp σ24 (.blk b14 (.cells [(.v (.string p0)), (.v (.int .i64 r22))] 57) :: .app a18 9 :: .app a20 3 :: .blk b11 (.cells [(.v (.int .i64 0))] 27) :: .blk b8 (.cells [(.v (.int .i64 0))] 3) :: .blk b5 (.cells [nilS, nilS, (.v (.int .i64 0))] 25) :: R) at hp23
    refine Eo.store hp23 5 rfl (storeCells_mk rfl rfl rfl (by simp [allOne, A.cells, h19.isOne, h21.isOne]) rfl rfl) rfl rfl rfl rfl rfl ?_
    intro σ26 hp25
    change Hp σ26 (.blk b14 (.cells [(.v (.string p0)), (.v (.int .i64 r22))] 57) :: .app a18 9 :: .app a20 3 :: .blk b11 (.cells [(.v (.int .i64 0))] 27) :: .blk b8 (.cells [(.v (.int .i64 0))] 3) :: .blk b5 (.cells [a18, a20, (.v (.int .i64 r17.f_Off))] 25) :: R) at hp25
    refine Eo.nil ?_
    refine Ec.seq ?_
    refine Ec.seq ?_
    refine Ec.region ?_
    refine Eo.val (x := (.ptr b14 0)) rfl rfl rfl rfl ?_
    obtain ⟨r71, hvr71, H⟩ := bind_some H
    refine Eo.call rfl rfl rfl rfl (gexpr_parser__next_ok (Hp.front (Hp.front (Hp.front (Hp.front (Hp.front (Hp.front hp25 5) 5) 5) 5) 5) 5) hvr71) ?_
    obtain ⟨r27, r28⟩ := r71
    rintro _ σ30 ⟨rfl, hp29⟩
    change Hp σ30 (.blk b14 (.cells [(.v (.string p0)), (.v (.int .i64 r28))] 57) :: .app a18 9 :: .app a20 3 :: .blk b11 (.cells [(.v (.int .i64 0))] 27) :: .blk b8 (.cells [(.v (.int .i64 0))] 3) :: .blk b5 (.cells [a18, a20, (.v (.int .i64 r17.f_Off))] 25) :: R) at hp29
    refine Eo.nil ?_
    refine Ec.seq ?_
    refine Ec.region ?_
    refine Eo.val (x := (.ptr b14 0)) rfl rfl rfl rfl ?_
    refine Eo.val (x := (.ptr b14 0)) rfl rfl rfl rfl ?_
    refine Eo.val (x := (.ptr b14 1)) rfl rfl rfl rfl ?_
    refine Eo.val (x := (.v (.int .i64 r28))) (op_loadB hp29 0 rfl rfl rfl rfl) rfl rfl rfl ?_
    refine Eo.val (x := (.v (.string p0))) rfl rfl rfl rfl ?_
    refine Eo.val (x := (.v (.int .i64 ((p0.size : Nat) : Int)))) (op_len rfl rfl rfl rfl rfl Tryz.underlying9) rfl rfl rfl ?_
    refine Eo.val (x := (.v (.bool (decide (r28 < ((p0.size : Nat) : Int)))))) rfl rfl rfl rfl ?_
    refine Eo.nil ?_
    refine Ec.cond (t := (decide (r28 < ((p0.size : Nat) : Int)))) rfl (fun hc31 => ?_) (fun hc31 => ?_)
    · have H := cond_t hc31 H
      refine Ec.seq ?_
      obtain ⟨v60, hv61, H⟩ := bind_some H
      refine Ec.cut (J := (fun (v : ((List ByteArray) × (List Int) × Int × Int × Int)) (x : X) (φ : Fr) (s : St) => match v with | (x38, x41, x44, x45, x46) => x = .normal ∧ (∃ (a39 a42 : A), Sl rS a39 x38 ∧ Sl (rI .i64) a42 x41 ∧ Hp s (.blk b5 (.cells [a39, a42, (.v (.int .i64 x44))] 25) :: .blk b8 (.cells [(.v (.int .i64 x45))] 3) :: .blk b11 (.cells [(.v (.int .i64 x46))] 27) :: .app a39 9 :: .app a42 3 :: R) ∧ Fl [(2, (.ptr b5 0)), (3, (.ptr b8 0)), (4, (.ptr b11 0))] φ)) v60) ?_ ?_
      · have H := hv61
        refine Ec.drawnS (by kernel_rfl) ?_
        refine Ed.val (x := (.agg [nilS, nilS, (.v (.int .i64 0))])) (op_build lay_nil rfl rfl Tryz.underlying25 rfl rfl) rfl rfl rfl rfl rfl ?_
        refine Ed.val (x := (.ptr b14 0)) rfl rfl rfl rfl rfl rfl ?_
        refine Ed.val (x := (.ptr b14 0)) rfl rfl rfl rfl rfl rfl ?_
        refine Ed.val (x := (.ptr b14 1)) rfl rfl rfl rfl rfl rfl ?_
        refine Ed.val (x := (.v (.int .i64 r28))) (op_loadB hp29 0 rfl rfl rfl rfl) rfl rfl rfl rfl rfl ?_
        refine Ed.store hp29 5 rfl (storeCells_mk rfl rfl rfl rfl rfl rfl) rfl rfl rfl rfl rfl (fun σ' hp' => ((stF_load rfl (op_loadB hp' 0 rfl rfl rfl rfl) (stF_pure rfl (stF_pure rfl (stF_pure rfl (stF_pure rfl stF_nil))))))) ?_
        intro σ48 hp47
        change Hp σ48 (.blk b14 (.cells [(.v (.string p0)), (.v (.int .i64 r28))] 57) :: .app a18 9 :: .app a20 3 :: .blk b11 (.cells [(.v (.int .i64 0))] 27) :: .blk b8 (.cells [(.v (.int .i64 0))] 3) :: .blk b5 (.cells [nilS, nilS, (.v (.int .i64 0))] 25) :: R) at hp47
        refine Ed.store hp47 4 rfl (storeCells_mk rfl rfl rfl rfl rfl rfl) rfl rfl rfl rfl rfl (fun σ' hp' => ((stF_bef (by kernel_rfl) (stF_pure rfl (stF_pure rfl (stF_pure rfl (stF_pure rfl stF_nil))))))) ?_
        intro σ50 hp49
        change Hp σ50 (.blk b14 (.cells [(.v (.string p0)), (.v (.int .i64 r28))] 57) :: .app a18 9 :: .app a20 3 :: .blk b11 (.cells [(.v (.int .i64 0))] 27) :: .blk b8 (.cells [(.v (.int .i64 r28))] 3) :: .blk b5 (.cells [nilS, nilS, (.v (.int .i64 0))] 25) :: R) at hp49
        refine Ed.store hp49 3 rfl (storeCells_mk rfl rfl rfl rfl rfl rfl) rfl rfl rfl rfl rfl (fun σ' hp' => ((stF_bef (by kernel_rfl) (stF_pure rfl (stF_pure rfl (stF_pure rfl (stF_pure rfl stF_nil))))))) ?_
        intro σ52 hp51
        change Hp σ52 (.blk b14 (.cells [(.v (.string p0)), (.v (.int .i64 r28))] 57) :: .app a18 9 :: .app a20 3 :: .blk b11 (.cells [(.v (.int .i64 121))] 27) :: .blk b8 (.cells [(.v (.int .i64 r28))] 3) :: .blk b5 (.cells [nilS, nilS, (.v (.int .i64 0))] 25) :: R) at hp51
        refine Ed.nil ?_
        obtain rfl := Option.some.inj H
        exact And.intro rfl (And.intro rfl ⟨nilS, nilS, Sl.nil, Sl.nil, (Hp.front (Hp.front (Hp.front (Hp.front (Hp.appNil (Hp.appNil (Hp.drop (Hp.drop (Hp.drop hp51 0) 0) 0) 9) 3) 1) 2) 3) 4), (.cons rfl (.cons rfl (.cons rfl (.nil'))))⟩)
      · skip
        intro x φ55 σ54 hJ
        obtain ⟨x38, x41, x44, x45, x46⟩ := v60
        obtain ⟨rfl, a39, a42, h40, h43, hp53, hf56⟩ := hJ
        refine Ec.of (F := [(2, (.ptr b5 0)), (3, (.ptr b8 0)), (4, (.ptr b11 0))]) hf56 ?_
        obtain ⟨r59, hvr59, H⟩ := bind_some H
        refine Ec.ret ?_
        refine FinD.retD (Cd.imp (gexpr_Parse_1_fin_ok h40 h43 (Hp.front (Hp.front (Hp.front (Hp.front (Hp.front hp53 4) 4) 4) 4) 4) hvr59) ?_)
        obtain rfl := Option.some.inj H
        rintro σ58 _ ⟨rfl, hp57⟩
        change Hp σ58 (.blk b5 (.cells [a39, a42, (.v (.int .i64 x44))] 25) :: .blk b8 (.cells [(.v (.int .i64 x45))] 3) :: .blk b11 (.cells [(.v (.int .i64 x46))] 27) :: .app a39 9 :: .app a42 3 :: R) at hp57
        refine ⟨rfl, _, (resA_cell hp57 0 rfl rfl rfl (resA_cell hp57 1 rfl rfl rfl (resA_cell hp57 2 rfl rfl rfl rfl))), ?_⟩
        exact ⟨a39, a42, rfl, h40, h43, (Hp.front (Hp.front (Hp.drop (Hp.drop (Hp.drop hp57 0) 0) 0) 1) 1)⟩
    · have H := cond_f hc31 H
      refine Ec.skip ?_
      refine Ec.seq ?_
      refine Ec.region ?_
      refine Eo.val (x := (.agg [a18, a20, (.v (.int .i64 r17.f_Off))])) (op_loadB hp29 5 rfl rfl rfl rfl) rfl rfl rfl ?_
      refine Eo.store hp29 5 rfl (storeCells_mk rfl rfl rfl (by simp [allOne, A.cells, h19.isOne, h21.isOne]) rfl rfl) rfl rfl rfl rfl rfl ?_
      intro σ63 hp62
      change Hp σ63 (.blk b14 (.cells [(.v (.string p0)), (.v (.int .i64 r28))] 57) :: .app a18 9 :: .app a20 3 :: .blk b11 (.cells [(.v (.int .i64 0))] 27) :: .blk b8 (.cells [(.v (.int .i64 0))] 3) :: .blk b5 (.cells [a18, a20, (.v (.int .i64 r17.f_Off))] 25) :: R) at hp62
      refine Eo.store hp62 4 rfl (storeCells_mk rfl rfl rfl rfl rfl rfl) rfl rfl rfl rfl rfl ?_
      intro σ65 hp64
      change Hp σ65 (.blk b14 (.cells [(.v (.string p0)), (.v (.int .i64 r28))] 57) :: .app a18 9 :: .app a20 3 :: .blk b11 (.cells [(.v (.int .i64 0))] 27) :: .blk b8 (.cells [(.v (.int .i64 0))] 3) :: .blk b5 (.cells [a18, a20, (.v (.int .i64 r17.f_Off))] 25) :: R) at hp64
      refine Eo.store hp64 3 rfl (storeCells_mk rfl rfl rfl rfl rfl rfl) rfl rfl rfl rfl rfl ?_
      intro σ67 hp66
      change Hp σ67 (.blk b14 (.cells [(.v (.string p0)), (.v (.int .i64 r28))] 57) :: .app a18 9 :: .app a20 3 :: .blk b11 (.cells [(.v (.int .i64 0))] 27) :: .blk b8 (.cells [(.v (.int .i64 0))] 3) :: .blk b5 (.cells [a18, a20, (.v (.int .i64 r17.f_Off))] 25) :: R) at hp66
      refine Eo.nil ?_
      obtain ⟨r70, hvr70, H⟩ := bind_some H
      refine Ec.ret ?_
      refine FinD.retD (Cd.imp (gexpr_Parse_1_fin_ok h19 h21 (Hp.front (Hp.front (Hp.front (Hp.front (Hp.front hp66 2) 2) 3) 4) 5) hvr70) ?_)
      obtain rfl := Option.some.inj H
      rintro σ69 _ ⟨rfl, hp68⟩
      change Hp σ69 (.blk b5 (.cells [a18, a20, (.v (.int .i64 r17.f_Off))] 25) :: .blk b8 (.cells [(.v (.int .i64 0))] 3) :: .blk b11 (.cells [(.v (.int .i64 0))] 27) :: .app a18 9 :: .app a20 3 :: .blk b14 (.cells [(.v (.string p0)), (.v (.int .i64 r28))] 57) :: R) at hp68
      refine ⟨rfl, _, (resA_cell hp68 0 rfl rfl rfl (resA_cell hp68 1 rfl rfl rfl (resA_cell hp68 2 rfl rfl rfl rfl))), ?_⟩
      exact ⟨a18, a20, rfl, h19, h21, (Hp.front (Hp.front (Hp.drop (Hp.drop (Hp.drop (Hp.drop hp68 0) 0) 0) 2) 1) 1)⟩
  · skip
    refine Eo.callX (gexpr_parser__sum_ok (Hp.front (Hp.front (Hp.front (Hp.front hp15 3) 3) 3) 3) hv73) rfl rfl ?_
    intro σ77 hp76
    obtain ⟨r89, hvr89, H⟩ := bind_some H
    refine FinD.panD (Cd.imp (gexpr_Parse_1_pan_ok Sl.nil Sl.nil (Hp.front (Hp.front (Hp.front (Hp.front (Hp.appNil (Hp.appNil hp76 9) 3) 1) 2) 3) 4) hvr89) ?_)
    obtain ⟨r78, r81, r84, r85, r86⟩ := r89
    obtain rfl := Option.some.inj H
    rintro σ88 _ ⟨rfl, a79, a82, h80, h83, hp87⟩
    change Hp σ88 (.blk b5 (.cells [a79, a82, (.v (.int .i64 r84))] 25) :: .blk b8 (.cells [(.v (.int .i64 r85))] 3) :: .blk b11 (.cells [(.v (.int .i64 r86))] 27) :: .app a79 9 :: .app a82 3 :: R) at hp87
    refine ⟨rfl, _, (resA_cell hp87 0 rfl rfl rfl (resA_cell hp87 1 rfl rfl rfl (resA_cell hp87 2 rfl rfl rfl rfl))), ?_⟩
    exact ⟨a79, a82, rfl, h80, h83, (Hp.front (Hp.front (Hp.drop (Hp.drop (Hp.drop hp87 0) 0) 0) 1) 1)⟩

def gdovetailref12_Digits_rec (N : Nat) : Nat → Int → Option ByteArray
  | 0, _ => none
  | k + 1, p0 => (cond (p0 == (-9223372036854775808)) (some (ByteArray.mk #[48, 120, 56, 48, 48, 48, 48, 48, 48, 48, 48, 48, 48, 48, 48, 48, 48, 48])) ((cond (decide (p0 < 0)) ((((gdovetailref12_Digits_rec N k) (IntKind.wrap .i64 (0 - p0))).bind fun r3 => ((catS (ByteArray.mk #[45]) r3).bind fun s6 => some s6))) ((cond (decide (p0 > 9)) ((((((gdovetailref12_Digits_rec N k) (IntKind.wrap .i64 (Int.tdiv p0 10))).bind fun r17 => ((catS r17 (ofB ([(IntKind.wrap .u8 (IntKind.wrap .i64 (48 + (Int.tmod p0 10))))] : List Int))).bind fun s24 => some s24)) : Option (ByteArray)).bind fun x16 => some x16)) (some (ofB ([(IntKind.wrap .u8 (IntKind.wrap .i64 (48 + p0)))] : List Int))))))))

def gdovetailref12_Digits (n : Nat) (p0 : Int) : Option (ByteArray) := gdovetailref12_Digits_rec n n p0

def gdovetailref12_Digits_post (R : List Res) (r : ByteArray) (x : A) (s : St) : Prop := x = (.v (.string r)) ∧ Hp s (R)

theorem gdovetailref12_Digits_rec_ok {n : Nat} : ∀ (k : Nat) {p0 : Int} {R : List Res} {σ : St} (hp : Hp σ R) {r : ByteArray} (H : gdovetailref12_Digits_rec n k p0 = some r), Ca cfg 24 [(.v (.int .i64 p0))] σ (gdovetailref12_Digits_post R r) := by
  intro k
  induction k with
  | zero => intro p0 R σ hp r H; rw [gdovetailref12_Digits_rec] at H; cases H
  | succ k ihR =>
    intro p0 R σ hp r H
    rw [gdovetailref12_Digits_rec] at H
    refine Ca.enterL (G := [(0, (.v (.int .i64 p0)))]) Tryz.func24 rfl rfl rfl rfl ?_
    refine Ec.seq ?_
    refine Ec.region ?_
    refine Eo.val (x := (.v (.string (ByteArray.mk #[])))) rfl rfl rfl rfl ?_
    refine Eo.nil ?_
    refine Ec.seq ?_
    refine Ec.seq ?_
    refine Ec.region ?_
    refine Eo.val (x := (.v (.int .i64 p0))) rfl rfl rfl rfl ?_
    refine Eo.val (x := (.v (.bool (p0 == (-9223372036854775808))))) rfl rfl rfl rfl ?_
    refine Eo.nil ?_
    refine Ec.cond (t := (p0 == (-9223372036854775808))) rfl (fun hc1 => ?_) (fun hc1 => ?_)
    · have H := cond_t hc1 H
      refine Ec.seq ?_
      refine Ec.region ?_
      refine Eo.val (x := (.v (.string (ByteArray.mk #[48, 120, 56, 48, 48, 48, 48, 48, 48, 48, 48, 48, 48, 48, 48, 48, 48, 48])))) rfl rfl rfl rfl ?_
      refine Eo.nil ?_
      obtain rfl := Option.some.inj H
      refine Ec.ret ?_
      refine Ret.mk rfl ?_
      exact ⟨rfl, hp⟩
    · have H := cond_f hc1 H
      refine Ec.skip ?_
      refine Ec.seq ?_
      refine Ec.seq ?_
      refine Ec.region ?_
      refine Eo.val (x := (.v (.int .i64 p0))) rfl rfl rfl rfl ?_
      refine Eo.val (x := (.v (.bool (decide (p0 < 0))))) rfl rfl rfl rfl ?_
      refine Eo.nil ?_
      refine Ec.cond (t := (decide (p0 < 0))) rfl (fun hc2 => ?_) (fun hc2 => ?_)
      · have H := cond_t hc2 H
        refine Ec.seq ?_
        refine Ec.region ?_
        refine Eo.val (x := (.v (.int .i64 p0))) rfl rfl rfl rfl ?_
        refine Eo.val (x := (.v (.int .i64 (IntKind.wrap .i64 (0 - p0))))) rfl rfl rfl rfl ?_
        obtain ⟨r3, hvr3, H⟩ := bind_some H
        refine Eo.call rfl rfl rfl rfl (ihR hp hvr3) ?_
        rintro _ σ5 ⟨rfl, hp4⟩
        change Hp σ5 (R) at hp4
        obtain ⟨s6, hvs6, H⟩ := bind_some H
        refine Eo.val (op_catS hvs6 rfl rfl rfl) rfl rfl rfl ?_
        refine Eo.val (x := (.v (.string s6))) rfl rfl rfl rfl ?_
        refine Eo.nil ?_
        obtain rfl := Option.some.inj H
        refine Ec.ret ?_
        refine Ret.mk rfl ?_
        exact ⟨rfl, hp4⟩
      · have H := cond_f hc2 H
        refine Ec.skip ?_
        refine Ec.seq ?_
        refine Ec.seq ?_
        refine Ec.region ?_
        refine Eo.val (x := (.v (.int .i64 p0))) rfl rfl rfl rfl ?_
        refine Eo.val (x := (.v (.bool (decide (p0 > 9))))) rfl rfl rfl rfl ?_
        refine Eo.nil ?_
        refine Ec.cond (t := (decide (p0 > 9))) rfl (fun hc7 => ?_) (fun hc7 => ?_)
        · have H := cond_t hc7 H
          refine Ec.seq ?_
          obtain ⟨x16, hv30, H⟩ := bind_some H
          refine Ec.cut (J := (fun (x16 : ByteArray) (x : X) (φ : Fr) (s : St) => x = .normal ∧ (Hp s (R) ∧ Fl [(2, (.v (.string x16)))] φ)) x16) ?_ ?_
          · have H := hv30
            refine Ec.drawnS (by kernel_rfl) ?_
            refine Ed.val (x := (.v (.int .i64 p0))) rfl rfl rfl rfl rfl rfl ?_
            refine Ed.val (x := (.v (.int .i64 (IntKind.wrap .i64 (Int.tdiv p0 10))))) rfl rfl rfl rfl rfl rfl ?_
            obtain ⟨r17, hvr17, H⟩ := bind_some H
            refine Ed.call (ihR hp hvr17) rfl rfl rfl rfl rfl (fun _ _ _ => (stF_pure rfl (stF_pure rfl stF_nil))) ?_
            rintro _ σ19 ⟨rfl, hp18⟩
            change Hp σ19 (R) at hp18
            refine Ed.valP (x := (.v (.int .i64 p0))) rfl rfl rfl rfl rfl (stP_pure rfl stP_nil) ?_
            refine Ed.valP (x := (.v (.int .i64 (Int.tmod p0 10)))) rfl rfl rfl rfl rfl (stP_pure rfl stP_nil) ?_
            refine Ed.valP (x := (.v (.int .i64 (IntKind.wrap .i64 (48 + (Int.tmod p0 10)))))) rfl rfl rfl rfl rfl (stP_pure rfl stP_nil) ?_
            refine Ed.valP (x := (.v (.int .u8 (IntKind.wrap .u8 (IntKind.wrap .i64 (48 + (Int.tmod p0 10))))))) rfl rfl rfl rfl rfl (stP_op rfl rfl stP_nil) ?_
            refine Ed.valP (x := (.sl 1 [(.v (.int .u8 (IntKind.wrap .u8 (IntKind.wrap .i64 (48 + (Int.tmod p0 10))))))] .ex)) (op_buildS (lay_cons rfl rfl rfl rfl rfl lay_nil) rfl (parts_cons rfl rfl rfl) Tryz.underlying43 rfl rfl rfl rfl (by decide) rfl) rfl rfl rfl rfl (stP_pure rfl stP_nil) ?_
            have h23 : Sl (rI .u8) (.sl 1 [(.v (.int .u8 (IntKind.wrap .u8 (IntKind.wrap .i64 (48 + (Int.tmod p0 10))))))] .ex) ([(IntKind.wrap .u8 (IntKind.wrap .i64 (48 + (Int.tmod p0 10))))] : List Int) := .inr ⟨_, _, rfl, (.cons (c := [(.v (.int .u8 (IntKind.wrap .u8 (IntKind.wrap .i64 (48 + (Int.tmod p0 10))))))]) rfl .nil)⟩
            have hp22 := Hp.appEx hp18 5 1 [(.v (.int .u8 (IntKind.wrap .u8 (IntKind.wrap .i64 (48 + (Int.tmod p0 10))))))]
            refine Ed.valP (op_b2s h23 rfl rfl Tryz.underlying43 Tryz.underlying9 Tryz.underlying5 (fun h => by first | (subst h; rfl) | cases h)) rfl rfl rfl rfl (stP_op rfl rfl stP_nil) ?_
            obtain ⟨s24, hvs24, H⟩ := bind_some H
            refine Ed.valP (op_catS hvs24 rfl rfl rfl) rfl rfl rfl rfl (stP_pure rfl stP_nil) ?_
            refine Ed.valP (x := (.v (.string s24))) rfl rfl rfl rfl rfl (stP_pure rfl stP_nil) ?_
            refine Ed.nil ?_
            obtain rfl := Option.some.inj H
            exact And.intro rfl (And.intro rfl ⟨(Hp.drop hp22 0), (.cons rfl (.nil'))⟩)
          · skip
            intro x φ27 σ26 hJ
            obtain ⟨rfl, hp25, hf28⟩ := hJ
            refine Ec.of (F := [(2, (.v (.string x16)))]) hf28 ?_
            obtain rfl := Option.some.inj H
            refine Ec.ret ?_
            refine Ret.mk rfl ?_
            exact ⟨rfl, hp25⟩
        · have H := cond_f hc7 H
          refine Ec.skip ?_
          refine Ec.seq ?_
          refine Ec.region ?_
          refine Eo.val (x := (.v (.int .i64 p0))) rfl rfl rfl rfl ?_
          refine Eo.val (x := (.v (.int .i64 (IntKind.wrap .i64 (48 + p0))))) rfl rfl rfl rfl ?_
          refine Eo.val (x := (.v (.int .u8 (IntKind.wrap .u8 (IntKind.wrap .i64 (48 + p0)))))) rfl rfl rfl rfl ?_
          refine Eo.val (x := (.sl 1 [(.v (.int .u8 (IntKind.wrap .u8 (IntKind.wrap .i64 (48 + p0)))))] .ex)) (op_buildS (lay_cons rfl rfl rfl rfl rfl lay_nil) rfl (parts_cons rfl rfl rfl) Tryz.underlying43 rfl rfl rfl rfl (by decide) rfl) rfl rfl rfl ?_
          have h34 : Sl (rI .u8) (.sl 1 [(.v (.int .u8 (IntKind.wrap .u8 (IntKind.wrap .i64 (48 + p0)))))] .ex) ([(IntKind.wrap .u8 (IntKind.wrap .i64 (48 + p0)))] : List Int) := .inr ⟨_, _, rfl, (.cons (c := [(.v (.int .u8 (IntKind.wrap .u8 (IntKind.wrap .i64 (48 + p0)))))]) rfl .nil)⟩
          have hp33 := Hp.appEx hp 5 1 [(.v (.int .u8 (IntKind.wrap .u8 (IntKind.wrap .i64 (48 + p0)))))]
          refine Eo.val (op_b2s h34 rfl rfl Tryz.underlying43 Tryz.underlying9 Tryz.underlying5 (fun h => by first | (subst h; rfl) | cases h)) rfl rfl rfl ?_
          refine Eo.val (x := (.v (.string (ofB ([(IntKind.wrap .u8 (IntKind.wrap .i64 (48 + p0)))] : List Int))))) rfl rfl rfl rfl ?_
          refine Eo.nil ?_
          obtain rfl := Option.some.inj H
          refine Ec.ret ?_
          refine Ret.mk rfl ?_
          exact ⟨rfl, (Hp.drop hp33 0)⟩

theorem gdovetailref12_Digits_ok {n : Nat} {p0 : Int} {R : List Res} {σ : St} (hp : Hp σ R) {r : ByteArray} (H : gdovetailref12_Digits n p0 = some r) : Ca cfg 24 [(.v (.int .i64 p0))] σ (gdovetailref12_Digits_post R r) := gdovetailref12_Digits_rec_ok n hp H

def gdovetailref12_Print_L1 (N : Nat) (p0 : TLin) : Nat → ByteArray → Int → Option (ByteArray)
  | 0, _, _ => none
  | m + 1, y24, y25 => (cond (decide (y25 < ((p0.f_Syms.length : Nat) : Int))) (((atL p0.f_Syms y25).bind fun x44 => ((atL p0.f_Times y25).bind fun x48 => ((gdovetailref12_Digits N x48).bind fun r52 => ((catS r52 (ByteArray.mk #[42])).bind fun s55 => ((catS s55 x44).bind fun s56 => ((catS s56 (ByteArray.mk #[43])).bind fun s57 => ((catS y24 s57).bind fun s58 => gdovetailref12_Print_L1 N p0 m s58 (IntKind.wrap .i64 (y25 + 1)))))))))) (some y24))

def gdovetailref12_Print (n : Nat) (p0 : TLin) : Option (ByteArray) := ((gdovetailref12_Print_L1 n p0 n (ByteArray.mk #[]) 0).bind fun x42 => ((gdovetailref12_Digits n p0.f_Off).bind fun r65 => ((catS x42 r65).bind fun s68 => some s68)))

def gdovetailref12_Print_post (R : List Res) (r : ByteArray) (x : A) (s : St) : Prop := x = (.v (.string r)) ∧ Hp s (R)

theorem gdovetailref12_Print_ok {n : Nat} {p0 : TLin} {a1 a3 : A} {R : List Res} {σ : St} (h2 : Sl rS a1 p0.f_Syms) (h4 : Sl (rI .i64) a3 p0.f_Times) (hp : Hp σ R) {r : ByteArray} (H : gdovetailref12_Print n p0 = some r) : Ca cfg 10 [(.agg [a1, a3, (.v (.int .i64 p0.f_Off))])] σ (gdovetailref12_Print_post R r) := by
  unfold gdovetailref12_Print at H
  refine Ca.enterL (G := [(0, (.agg [a1, a3, (.v (.int .i64 p0.f_Off))]))]) Tryz.func10 rfl rfl rfl rfl ?_
  refine Ec.seq ?_
  refine Ec.region ?_
  refine Eo.box hp rfl (by simp [allOne, A.cells, h2.isOne, h4.isOne]) rfl rfl rfl rfl rfl ?_
  intro b5 σ7 hp6
  refine Eo.val (x := (.v (.string (ByteArray.mk #[])))) rfl rfl rfl rfl ?_
  refine Eo.nil ?_
  refine Ec.seq ?_
  refine Ec.region ?_
  refine Eo.val (x := (.v (.string (ByteArray.mk #[])))) rfl rfl rfl rfl ?_
  refine Eo.nil ?_
  refine Ec.seq ?_
  refine Ec.seq ?_
  refine Ec.region ?_
  refine Eo.val (x := (.ptr b5 0)) rfl rfl rfl rfl ?_
  refine Eo.val (x := a1) (op_loadB hp6 0 rfl rfl rfl rfl) rfl rfl rfl ?_
  refine Eo.val (x := (.v (.int .i64 ((p0.f_Syms.length : Nat) : Int)))) (op_lenL h2 rfl rfl rfl rfl rfl Tryz.underlying22) rfl rfl rfl ?_
  refine Eo.val (x := (.v (.int .i64 0))) rfl rfl rfl rfl ?_
  refine Eo.nil ?_
  refine Ec.block ?_
  obtain ⟨x42, hv60, H⟩ := bind_some H
  refine Ec.cut (J := (fun (x42 : ByteArray) (x : X) (φ : Fr) (s : St) => x = (.exit 0) ∧ (Hp s (.blk b5 (.cells [a1, a3, (.v (.int .i64 p0.f_Off))] 25) :: R) ∧ Fl [(1, (.ptr b5 0)), (3, (.v (.string x42)))] φ)) x42) (Ec.weak (.cons rfl (.cons rfl (.cons rfl (.cons rfl (.cons rfl (.nil')))))) (Ec.loopF (f := (fun m (i : (ByteArray × Int) × Unit) => gdovetailref12_Print_L1 n p0 m i.1.1 i.1.2)) (G := (fun (i : (ByteArray × Int) × Unit) => ([(1, (.ptr b5 0)), (3, (.v (.string i.1.1))), (7, a1), (8, (.v (.int .i64 ((p0.f_Syms.length : Nat) : Int)))), (9, (.v (.int .i64 i.1.2)))] : List (Nat × A)))) (I := (fun (i : (ByteArray × Int) × Unit) (s : St) => Hp s (.blk b5 (.cells [a1, a3, (.v (.int .i64 p0.f_Off))] 25) :: R))) (J := (fun (x42 : ByteArray) (x : X) (φ : Fr) (s : St) => x = (.exit 0) ∧ (Hp s (.blk b5 (.cells [a1, a3, (.v (.int .i64 p0.f_Off))] 25) :: R) ∧ Fl [(1, (.ptr b5 0)), (3, (.v (.string x42)))] φ))) (fun _ => rfl) ?_ n (((ByteArray.mk #[]), 0), ()) _ x42 hp6 hv60)) ?_
  · rintro m ⟨⟨y24, y25⟩, _⟩ σ0 v hp0 H ih
    change gdovetailref12_Print_L1 n p0 (m + 1) y24 y25 = some v at H
    rw [gdovetailref12_Print_L1] at H
    change Ec _ _ _ [(1, (.ptr b5 0)), (3, (.v (.string y24))), (7, a1), (8, (.v (.int .i64 ((p0.f_Syms.length : Nat) : Int)))), (9, (.v (.int .i64 y25)))] σ0 _
    refine Ec.seq ?_
    refine Ec.region ?_
    refine Eo.val (x := (.v (.bool (decide (y25 < ((p0.f_Syms.length : Nat) : Int)))))) rfl rfl rfl rfl ?_
    refine Eo.nil ?_
    refine Ec.seq ?_
    refine Ec.cond (t := (decide (y25 < ((p0.f_Syms.length : Nat) : Int)))) rfl (fun hc43 => ?_) (fun hc43 => ?_)
    · have H := cond_t hc43 H
      refine Ec.skip ?_
      refine Ec.seq ?_
      refine Ec.block ?_
      refine Ec.seq ?_
      refine Ec.region ?_
      refine Eo.val (x := (.v (.int .i64 y25))) rfl rfl rfl rfl ?_
      obtain ⟨x44, hvx44, H⟩ := bind_some H
      refine Eo.idx h2 hvx44 rfl rfl rfl Tryz.underlying22 rfl rfl rfl rfl ?_
      rintro cs45 p46 _ hat47 rfl
      refine Eo.val (x := (.v (.string x44))) (op_loadSp hat47 0 rfl rfl rfl rfl rfl) rfl rfl rfl ?_
      refine Eo.val (x := (.v (.int .i64 y25))) rfl rfl rfl rfl ?_
      refine Eo.val (x := (.v (.string x44))) rfl rfl rfl rfl ?_
      refine Eo.nil ?_
      refine Ec.region ?_
      refine Eo.val (x := (.v (.string y24))) rfl rfl rfl rfl ?_
      refine Eo.val (x := (.ptr b5 1)) rfl rfl rfl rfl ?_
      refine Eo.val (x := a3) (op_loadB hp0 0 rfl rfl rfl rfl) rfl rfl rfl ?_
      refine Eo.val (x := (.v (.int .i64 y25))) rfl rfl rfl rfl ?_
      obtain ⟨x48, hvx48, H⟩ := bind_some H
      refine Eo.idx h4 hvx48 rfl rfl rfl Tryz.underlying23 rfl rfl rfl rfl ?_
      rintro cs49 p50 _ hat51 rfl
      refine Eo.val (x := (.v (.int .i64 x48))) (op_loadSp hat51 0 rfl rfl rfl rfl rfl) rfl rfl rfl ?_
      obtain ⟨r52, hvr52, H⟩ := bind_some H
      refine Eo.call rfl rfl rfl rfl (gdovetailref12_Digits_ok hp0 hvr52) ?_
      rintro _ σ54 ⟨rfl, hp53⟩
      obtain ⟨s55, hvs55, H⟩ := bind_some H
      refine Eo.val (op_catS hvs55 rfl rfl rfl) rfl rfl rfl ?_
      refine Eo.val (x := (.v (.string x44))) rfl rfl rfl rfl ?_
      obtain ⟨s56, hvs56, H⟩ := bind_some H
      refine Eo.val (op_catS hvs56 rfl rfl rfl) rfl rfl rfl ?_
      obtain ⟨s57, hvs57, H⟩ := bind_some H
      refine Eo.val (op_catS hvs57 rfl rfl rfl) rfl rfl rfl ?_
      obtain ⟨s58, hvs58, H⟩ := bind_some H
      refine Eo.val (op_catS hvs58 rfl rfl rfl) rfl rfl rfl ?_
      refine Eo.val (x := (.v (.string s58))) rfl rfl rfl rfl ?_
      refine Eo.nil ?_
      refine Ec.region ?_
      refine Eo.val (x := (.v (.int .i64 (IntKind.wrap .i64 (y25 + 1))))) rfl rfl rfl rfl ?_
      refine Eo.val (x := (.v (.int .i64 (IntKind.wrap .i64 (y25 + 1))))) rfl rfl rfl rfl ?_
      refine Eo.nil ?_
      exact Ec.of (.cons rfl (.cons rfl (.cons rfl (.cons rfl (.cons rfl (.nil')))))) (ih ((s58, (IntKind.wrap .i64 (y25 + 1))), ()) _ hp53 H)
    · have H := cond_f hc43 H
      refine Ec.exit ?_
      obtain rfl := Option.some.inj H
      exact And.intro rfl ⟨hp0, (.cons rfl (.cons rfl (.nil')))⟩
  · skip
    intro x φ63 σ62 hJ
    obtain ⟨rfl, hp61, hf64⟩ := hJ
    refine Ec.of (F := [(1, (.ptr b5 0)), (3, (.v (.string x42)))]) hf64 ?_
    refine Ec.seq ?_
    refine Ec.region ?_
    refine Eo.val (x := (.v (.string x42))) rfl rfl rfl rfl ?_
    refine Eo.val (x := (.ptr b5 2)) rfl rfl rfl rfl ?_
    refine Eo.val (x := (.v (.int .i64 p0.f_Off))) (op_loadB hp61 0 rfl rfl rfl rfl) rfl rfl rfl ?_
    obtain ⟨r65, hvr65, H⟩ := bind_some H
    refine Eo.call rfl rfl rfl rfl (gdovetailref12_Digits_ok hp61 hvr65) ?_
    rintro _ σ67 ⟨rfl, hp66⟩
    obtain ⟨s68, hvs68, H⟩ := bind_some H
    refine Eo.val (op_catS hvs68 rfl rfl rfl) rfl rfl rfl ?_
    refine Eo.val (x := (.v (.string s68))) rfl rfl rfl rfl ?_
    refine Eo.nil ?_
    obtain rfl := Option.some.inj H
    refine Ec.ret ?_
    refine Ret.mk rfl ?_
    exact ⟨rfl, (Hp.drop hp66 0)⟩

def gdovetailref12_Same_L1 (N : Nat) (p0 : TLin) (p1 : TLin) : Nat → Int → Option (LR Unit Bool)
  | 0, _ => none
  | m + 1, y51 => (cond (decide (y51 < ((p0.f_Syms.length : Nat) : Int))) (((((atL p0.f_Syms y51).bind fun x87 => ((atL p1.f_Syms y51).bind fun x91 => some (!decide (x87 = x91)))) : Option (Bool)).bind fun x86 => (cond x86 (some (.ret false)) (gdovetailref12_Same_L1 N p0 p1 m (IntKind.wrap .i64 (y51 + 1)))))) (some (.out ())))

def gdovetailref12_Same_L2 (N : Nat) (p0 : TLin) (p1 : TLin) : Nat → Int → Option (LR Unit Bool)
  | 0, _ => none
  | m + 1, y133 => (cond (decide (y133 < ((p0.f_Times.length : Nat) : Int))) (((((atL p0.f_Times y133).bind fun x169 => ((atL p1.f_Times y133).bind fun x173 => some (x169 != x173))) : Option (Bool)).bind fun x168 => (cond x168 (some (.ret false)) (gdovetailref12_Same_L2 N p0 p1 m (IntKind.wrap .i64 (y133 + 1)))))) (some (.out ())))

def gdovetailref12_Same (n : Nat) (p0 : TLin) (p1 : TLin) : Option (Bool) := (cond (((p0.f_Off != p1.f_Off) || (((p0.f_Syms.length : Nat) : Int) != ((p1.f_Syms.length : Nat) : Int))) || (((p0.f_Times.length : Nat) : Int) != ((p1.f_Times.length : Nat) : Int))) (some false) (((gdovetailref12_Same_L1 n p0 p1 n 0).bind fun v => match v with | .out _ => ((gdovetailref12_Same_L2 n p0 p1 n 0).bind fun v => match v with | .out _ => some true | .ret r190 => some r190) | .ret r193 => some r193)))

def gdovetailref12_Same_post (R : List Res) (r : Bool) (x : A) (s : St) : Prop := x = (.v (.bool r)) ∧ Hp s (R)
end Go.DM
