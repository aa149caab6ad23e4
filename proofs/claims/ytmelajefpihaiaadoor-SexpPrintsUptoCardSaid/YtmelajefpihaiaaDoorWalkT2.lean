/- Typed functions of the program's functions, and the walks that show that the calls come to them. No condition. -/
import Derived.Test.YtmelajefpihaiaaDoorWalkT1
namespace Go.DM
open Go Go.Proofs
set_option maxRecDepth 100000
set_option maxHeartbeats 1000000
theorem gsexp_sound_rec_ok {n : Nat} : ∀ (k : Nat) {bq2 : Nat} {bq3 : Nat} {p0 : TTree} {p1 : Int} {p2_0 : Int} {p3_0 : Int} {a1 : A} {R : List Res} {σ : St} (_h2 : Sl rTTree a1 p0.f_Kids) (_hp : Hp σ (.blk bq2 (.cells [(.v (.int .i64 p2_0))] 3) :: .blk bq3 (.cells [(.v (.int .i64 p3_0))] 3) :: R)) {r : (Bool × Int × Int)} (_H : gsexp_sound_rec n k p0 p1 p2_0 p3_0 = some r), Ca cfg 23 [(.agg [(.v (.int .i64 p0.f_Kind)), (.v (.string p0.f_Word)), (.v (.int .i64 p0.f_Num)), a1]), (.v (.int .i64 p1)), (.ptr bq2 0), (.ptr bq3 0)] σ (gsexp_sound_post bq2 bq3 R r) := by
  intro k
  induction k with
  | zero => intro bq2 bq3 p0 p1 p2_0 p3_0 a1 R σ h2 hp r H; rw [gsexp_sound_rec] at H; cases H
  | succ k ihR =>
    intro bq2 bq3 p0 p1 p2_0 p3_0 a1 R σ h2 hp r H
    rw [gsexp_sound_rec] at H
    refine Ca.enterL (G := [(0, (.agg [(.v (.int .i64 p0.f_Kind)), (.v (.string p0.f_Word)), (.v (.int .i64 p0.f_Num)), a1])), (1, (.v (.int .i64 p1))), (2, (.ptr bq2 0)), (3, (.ptr bq3 0))]) Tryd.func23 rfl rfl rfl rfl ?_
    refine Ec.seq ?_
    refine Ec.region ?_
    refine Eo.box hp rfl (by simp [allOne, A.cells, h2.isOne]) rfl rfl rfl rfl rfl ?_
    intro b3 σ5 hp4
    refine Eo.val (x := (.v (.bool false))) rfl rfl rfl rfl ?_
    refine Eo.nil ?_
    refine Ec.seq ?_
    refine Ec.region ?_
    refine Eo.val (x := (.ptr bq2 0)) rfl rfl rfl rfl ?_
    refine Eo.val (x := (.ptr bq2 0)) rfl rfl rfl rfl ?_
    refine Eo.val (x := (.v (.int .i64 p2_0))) (op_loadB hp4 1 rfl rfl rfl rfl) rfl rfl rfl ?_
    refine Eo.val (x := (.v (.int .i64 (IntKind.wrap .i64 (p2_0 + 1))))) rfl rfl rfl rfl ?_
    refine Eo.val (x := (.ptr bq2 0)) rfl rfl rfl rfl ?_
    refine Eo.store hp4 1 rfl (storeCells_mk rfl rfl rfl rfl rfl rfl) rfl rfl rfl rfl rfl ?_
    intro σ7 hp6
    change Hp σ7 (.blk b3 (.cells [(.v (.int .i64 p0.f_Kind)), (.v (.string p0.f_Word)), (.v (.int .i64 p0.f_Num)), a1] 34) :: .blk bq2 (.cells [(.v (.int .i64 (IntKind.wrap .i64 (p2_0 + 1))))] 3) :: .blk bq3 (.cells [(.v (.int .i64 p3_0))] 3) :: R) at hp6
    refine Eo.nil ?_
    refine Ec.seq ?_
    refine Ec.seq ?_
    refine Ec.region ?_
    refine Eo.val (x := (.ptr b3 0)) rfl rfl rfl rfl ?_
    refine Eo.val (x := (.v (.int .i64 p0.f_Kind))) (op_loadB hp6 0 rfl rfl rfl rfl) rfl rfl rfl ?_
    refine Eo.nil ?_
    refine Ec.block ?_
    refine Ec.seq ?_
    refine Ec.region ?_
    refine Eo.val (x := (.v (.bool (p0.f_Kind == 2)))) rfl rfl rfl rfl ?_
    refine Eo.val (x := (.v (.bool (p0.f_Kind == 2)))) rfl rfl rfl rfl ?_
    refine Eo.nil ?_
    refine Ec.cond (t := (p0.f_Kind == 2)) rfl (fun hc8 => ?_) (fun hc8 => ?_)
    · have H := cond_t hc8 H
      refine Ec.seq ?_
      refine Ec.region ?_
      refine Eo.val (x := (.ptr b3 1)) rfl rfl rfl rfl ?_
      refine Eo.val (x := (.v (.string p0.f_Word))) (op_loadB hp6 0 rfl rfl rfl rfl) rfl rfl rfl ?_
      refine Eo.val (x := (.v (.bool (decide (p0.f_Word = (ByteArray.mk #[])))))) (val_b rfl (seq_eq _ _)) rfl rfl rfl ?_
      refine Eo.val (x := (.v (.bool (decide (p0.f_Word = (ByteArray.mk #[])))))) rfl rfl rfl rfl ?_
      refine Eo.cutF 5 [(4, (.ptr b3 0)), (8, (.v (.bool false))), (31, (.v (.bool ((decide (p0.f_Word = (ByteArray.mk #[]))) && (((p0.f_Kids.length : Nat) : Int) == 0)))))] ?_ ?_
      · skip
        cases hc11 : (decide (p0.f_Word = (ByteArray.mk #[])))
        · skip
          refine Eo.off rfl rfl rfl ?_
          refine Eo.off rfl rfl rfl ?_
          refine Eo.off rfl rfl rfl ?_
          refine Eo.off rfl rfl rfl ?_
          refine Eo.val (x := (.v (.bool false))) rfl rfl rfl rfl ?_
          exact Eo.nil (And.intro rfl (And.intro rfl (.cons rfl (.cons rfl (.cons rfl (.nil'))))))
        · skip
          refine Eo.val (x := (.ptr b3 3)) rfl rfl rfl rfl ?_
          refine Eo.val (x := a1) (op_loadB hp6 0 rfl rfl rfl rfl) rfl rfl rfl ?_
          refine Eo.val (x := (.v (.int .i64 ((p0.f_Kids.length : Nat) : Int)))) (op_lenL h2 rfl rfl rfl rfl rfl Tryd.underlying23) rfl rfl rfl ?_
          refine Eo.val (x := (.v (.bool (((p0.f_Kids.length : Nat) : Int) == 0)))) rfl rfl rfl rfl ?_
          refine Eo.val (x := (.v (.bool (((p0.f_Kids.length : Nat) : Int) == 0)))) rfl rfl rfl rfl ?_
          exact Eo.nil (And.intro rfl (And.intro rfl (.cons rfl (.cons rfl (.cons rfl (.nil'))))))
      · skip
        refine Eo.val (x := (.v (.bool ((decide (p0.f_Word = (ByteArray.mk #[]))) && (((p0.f_Kids.length : Nat) : Int) == 0))))) rfl rfl rfl rfl ?_
        refine Eo.cutF 4 [(4, (.ptr b3 0)), (8, (.v (.bool false))), (36, (.v (.bool (((decide (p0.f_Word = (ByteArray.mk #[]))) && (((p0.f_Kids.length : Nat) : Int) == 0)) && (decide (p0.f_Num ≥ (-999999999999999999)))))))] ?_ ?_
        · skip
          cases hc16 : ((decide (p0.f_Word = (ByteArray.mk #[]))) && (((p0.f_Kids.length : Nat) : Int) == 0))
          · skip
            refine Eo.off rfl rfl rfl ?_
            refine Eo.off rfl rfl rfl ?_
            refine Eo.off rfl rfl rfl ?_
            refine Eo.val (x := (.v (.bool false))) rfl rfl rfl rfl ?_
            exact Eo.nil (And.intro rfl (And.intro rfl (.cons rfl (.cons rfl (.cons rfl (.nil'))))))
          · skip
            refine Eo.val (x := (.ptr b3 2)) rfl rfl rfl rfl ?_
            refine Eo.val (x := (.v (.int .i64 p0.f_Num))) (op_loadB hp6 0 rfl rfl rfl rfl) rfl rfl rfl ?_
            refine Eo.val (x := (.v (.bool (decide (p0.f_Num ≥ (-999999999999999999)))))) rfl rfl rfl rfl ?_
            refine Eo.val (x := (.v (.bool (decide (p0.f_Num ≥ (-999999999999999999)))))) rfl rfl rfl rfl ?_
            exact Eo.nil (And.intro rfl (And.intro rfl (.cons rfl (.cons rfl (.cons rfl (.nil'))))))
        · skip
          refine Eo.val (x := (.v (.bool (((decide (p0.f_Word = (ByteArray.mk #[]))) && (((p0.f_Kids.length : Nat) : Int) == 0)) && (decide (p0.f_Num ≥ (-999999999999999999))))))) rfl rfl rfl rfl ?_
          refine Eo.cutF 4 [(8, (.v (.bool false))), (41, (.v (.bool ((((decide (p0.f_Word = (ByteArray.mk #[]))) && (((p0.f_Kids.length : Nat) : Int) == 0)) && (decide (p0.f_Num ≥ (-999999999999999999)))) && (decide (p0.f_Num ≤ 999999999999999999))))))] ?_ ?_
          · skip
            cases hc21 : (((decide (p0.f_Word = (ByteArray.mk #[]))) && (((p0.f_Kids.length : Nat) : Int) == 0)) && (decide (p0.f_Num ≥ (-999999999999999999))))
            · skip
              refine Eo.off rfl rfl rfl ?_
              refine Eo.off rfl rfl rfl ?_
              refine Eo.off rfl rfl rfl ?_
              refine Eo.val (x := (.v (.bool false))) rfl rfl rfl rfl ?_
              exact Eo.nil (And.intro rfl (And.intro rfl (.cons rfl (.cons rfl (.nil')))))
            · skip
              refine Eo.val (x := (.ptr b3 2)) rfl rfl rfl rfl ?_
              refine Eo.val (x := (.v (.int .i64 p0.f_Num))) (op_loadB hp6 0 rfl rfl rfl rfl) rfl rfl rfl ?_
              refine Eo.val (x := (.v (.bool (decide (p0.f_Num ≤ 999999999999999999))))) rfl rfl rfl rfl ?_
              refine Eo.val (x := (.v (.bool (decide (p0.f_Num ≤ 999999999999999999))))) rfl rfl rfl rfl ?_
              exact Eo.nil (And.intro rfl (And.intro rfl (.cons rfl (.cons rfl (.nil')))))
          · skip
            refine Eo.val (x := (.v (.bool ((((decide (p0.f_Word = (ByteArray.mk #[]))) && (((p0.f_Kids.length : Nat) : Int) == 0)) && (decide (p0.f_Num ≥ (-999999999999999999)))) && (decide (p0.f_Num ≤ 999999999999999999)))))) rfl rfl rfl rfl ?_
            refine Eo.nil ?_
            obtain rfl := Option.some.inj H
            refine Ec.ret ?_
            refine Ret.mk rfl ?_
            exact ⟨rfl, (Hp.front (Hp.front (Hp.drop hp6 0) 1) 1)⟩
    · have H := cond_f hc8 H
      refine Ec.seq ?_
      refine Ec.region ?_
      refine Eo.val (x := (.v (.bool (p0.f_Kind == 1)))) rfl rfl rfl rfl ?_
      refine Eo.val (x := (.v (.bool (p0.f_Kind == 1)))) rfl rfl rfl rfl ?_
      refine Eo.nil ?_
      refine Ec.cond (t := (p0.f_Kind == 1)) rfl (fun hc24 => ?_) (fun hc24 => ?_)
      · have H := cond_t hc24 H
        refine Ec.seq ?_
        refine Ec.region ?_
        refine Eo.val (x := (.ptr b3 1)) rfl rfl rfl rfl ?_
        refine Eo.val (x := (.v (.string p0.f_Word))) (op_loadB hp6 0 rfl rfl rfl rfl) rfl rfl rfl ?_
        obtain ⟨r25, hvr25, H⟩ := bind_some H
        refine Eo.call rfl rfl rfl rfl (gstrings_IndexFunc_41_ok hp6 hvr25) ?_
        rintro _ σ27 ⟨rfl, hp26⟩
        change Hp σ27 (.blk b3 (.cells [(.v (.int .i64 p0.f_Kind)), (.v (.string p0.f_Word)), (.v (.int .i64 p0.f_Num)), a1] 34) :: .blk bq2 (.cells [(.v (.int .i64 (IntKind.wrap .i64 (p2_0 + 1))))] 3) :: .blk bq3 (.cells [(.v (.int .i64 p3_0))] 3) :: R) at hp26
        refine Eo.val (x := (.v (.bool (decide (r25 ≥ 0))))) rfl rfl rfl rfl ?_
        refine Eo.val (x := (.v (.bool (decide (r25 ≥ 0))))) rfl rfl rfl rfl ?_
        refine Eo.nil ?_
        refine Ec.seq ?_
        refine Ec.region ?_
        refine Eo.val (x := (.ptr b3 2)) rfl rfl rfl rfl ?_
        refine Eo.val (x := (.v (.int .i64 p0.f_Num))) (op_loadB hp26 0 rfl rfl rfl rfl) rfl rfl rfl ?_
        refine Eo.val (x := (.v (.bool (p0.f_Num == 0)))) rfl rfl rfl rfl ?_
        refine Eo.val (x := (.v (.bool (p0.f_Num == 0)))) rfl rfl rfl rfl ?_
        refine Eo.cutF 5 [(4, (.ptr b3 0)), (8, (.v (.bool false))), (9, (.v (.bool (decide (r25 ≥ 0))))), (56, (.v (.bool ((p0.f_Num == 0) && (((p0.f_Kids.length : Nat) : Int) == 0)))))] ?_ ?_
        · skip
          cases hc30 : (p0.f_Num == 0)
          · skip
            refine Eo.off rfl rfl rfl ?_
            refine Eo.off rfl rfl rfl ?_
            refine Eo.off rfl rfl rfl ?_
            refine Eo.off rfl rfl rfl ?_
            refine Eo.val (x := (.v (.bool false))) rfl rfl rfl rfl ?_
            exact Eo.nil (And.intro rfl (And.intro rfl (.cons rfl (.cons rfl (.cons rfl (.cons rfl (.nil')))))))
          · skip
            refine Eo.val (x := (.ptr b3 3)) rfl rfl rfl rfl ?_
            refine Eo.val (x := a1) (op_loadB hp26 0 rfl rfl rfl rfl) rfl rfl rfl ?_
            refine Eo.val (x := (.v (.int .i64 ((p0.f_Kids.length : Nat) : Int)))) (op_lenL h2 rfl rfl rfl rfl rfl Tryd.underlying23) rfl rfl rfl ?_
            refine Eo.val (x := (.v (.bool (((p0.f_Kids.length : Nat) : Int) == 0)))) rfl rfl rfl rfl ?_
            refine Eo.val (x := (.v (.bool (((p0.f_Kids.length : Nat) : Int) == 0)))) rfl rfl rfl rfl ?_
            exact Eo.nil (And.intro rfl (And.intro rfl (.cons rfl (.cons rfl (.cons rfl (.cons rfl (.nil')))))))
        · skip
          refine Eo.val (x := (.v (.bool ((p0.f_Num == 0) && (((p0.f_Kids.length : Nat) : Int) == 0))))) rfl rfl rfl rfl ?_
          refine Eo.cutF 4 [(4, (.ptr b3 0)), (8, (.v (.bool false))), (9, (.v (.bool (decide (r25 ≥ 0))))), (61, (.v (.bool (((p0.f_Num == 0) && (((p0.f_Kids.length : Nat) : Int) == 0)) && (!decide (p0.f_Word = (ByteArray.mk #[])))))))] ?_ ?_
          · skip
            cases hc35 : ((p0.f_Num == 0) && (((p0.f_Kids.length : Nat) : Int) == 0))
            · skip
              refine Eo.off rfl rfl rfl ?_
              refine Eo.off rfl rfl rfl ?_
              refine Eo.off rfl rfl rfl ?_
              refine Eo.val (x := (.v (.bool false))) rfl rfl rfl rfl ?_
              exact Eo.nil (And.intro rfl (And.intro rfl (.cons rfl (.cons rfl (.cons rfl (.cons rfl (.nil')))))))
            · skip
              refine Eo.val (x := (.ptr b3 1)) rfl rfl rfl rfl ?_
              refine Eo.val (x := (.v (.string p0.f_Word))) (op_loadB hp26 0 rfl rfl rfl rfl) rfl rfl rfl ?_
              refine Eo.val (x := (.v (.bool (!decide (p0.f_Word = (ByteArray.mk #[])))))) (val_b rfl (sne_eq _ _)) rfl rfl rfl ?_
              refine Eo.val (x := (.v (.bool (!decide (p0.f_Word = (ByteArray.mk #[])))))) rfl rfl rfl rfl ?_
              exact Eo.nil (And.intro rfl (And.intro rfl (.cons rfl (.cons rfl (.cons rfl (.cons rfl (.nil')))))))
          · skip
            refine Eo.val (x := (.v (.bool (((p0.f_Num == 0) && (((p0.f_Kids.length : Nat) : Int) == 0)) && (!decide (p0.f_Word = (ByteArray.mk #[]))))))) rfl rfl rfl rfl ?_
            refine Eo.cutF 3 [(4, (.ptr b3 0)), (8, (.v (.bool false))), (65, (.v (.bool ((((p0.f_Num == 0) && (((p0.f_Kids.length : Nat) : Int) == 0)) && (!decide (p0.f_Word = (ByteArray.mk #[])))) && (!(decide (r25 ≥ 0)))))))] ?_ ?_
            · skip
              cases hc40 : (((p0.f_Num == 0) && (((p0.f_Kids.length : Nat) : Int) == 0)) && (!decide (p0.f_Word = (ByteArray.mk #[]))))
              · skip
                refine Eo.off rfl rfl rfl ?_
                refine Eo.off rfl rfl rfl ?_
                refine Eo.val (x := (.v (.bool false))) rfl rfl rfl rfl ?_
                exact Eo.nil (And.intro rfl (And.intro rfl (.cons rfl (.cons rfl (.cons rfl (.nil'))))))
              · skip
                refine Eo.val (x := (.v (.bool (decide (r25 ≥ 0))))) rfl rfl rfl rfl ?_
                refine Eo.val (x := (.v (.bool (!(decide (r25 ≥ 0)))))) rfl rfl rfl rfl ?_
                refine Eo.val (x := (.v (.bool (!(decide (r25 ≥ 0)))))) rfl rfl rfl rfl ?_
                exact Eo.nil (And.intro rfl (And.intro rfl (.cons rfl (.cons rfl (.cons rfl (.nil'))))))
            · skip
              refine Eo.val (x := (.v (.bool ((((p0.f_Num == 0) && (((p0.f_Kids.length : Nat) : Int) == 0)) && (!decide (p0.f_Word = (ByteArray.mk #[])))) && (!(decide (r25 ≥ 0))))))) rfl rfl rfl rfl ?_
              obtain ⟨x47, hv57, H⟩ := bind_some H
              refine Eo.cutN 5 (J := (fun (x47 : Bool) (x : X) (φ : Fr) (s : St) => x = .normal ∧ (Hp s (.blk bq2 (.cells [(.v (.int .i64 (IntKind.wrap .i64 (p2_0 + 1))))] 3) :: .blk bq3 (.cells [(.v (.int .i64 p3_0))] 3) :: R) ∧ Fl [(8, (.v (.bool false))), (71, (.v (.bool x47)))] φ)) x47) ?_ ?_
              · have H := hv57
                cases hc48 : ((((p0.f_Num == 0) && (((p0.f_Kids.length : Nat) : Int) == 0)) && (!decide (p0.f_Word = (ByteArray.mk #[])))) && (!(decide (r25 ≥ 0))))
                · have H := cond_f hc48 H
                  refine Eo.off rfl rfl rfl ?_
                  refine Eo.off rfl rfl rfl ?_
                  refine Eo.off rfl rfl rfl ?_
                  refine Eo.off rfl rfl rfl ?_
                  refine Eo.val (x := (.v (.bool false))) rfl rfl rfl rfl ?_
                  refine Eo.nil ?_
                  obtain rfl := Option.some.inj H
                  exact And.intro rfl ⟨(Hp.front (Hp.front (Hp.drop hp26 0) 1) 1), (.cons rfl (.cons rfl (.nil')))⟩
                · have H := cond_t hc48 H
                  refine Eo.val (x := (.ptr b3 1)) rfl rfl rfl rfl ?_
                  refine Eo.val (x := (.v (.string p0.f_Word))) (op_loadB hp26 0 rfl rfl rfl rfl) rfl rfl rfl ?_
                  obtain ⟨r49, hvr49, H⟩ := bind_some H
                  refine Eo.call rfl rfl rfl rfl (gsexp_numeric_ok hp26 hvr49) ?_
                  rintro _ σ51 ⟨rfl, hp50⟩
                  refine Eo.val (x := (.v (.bool (!r49)))) rfl rfl rfl rfl ?_
                  refine Eo.val (x := (.v (.bool (!r49)))) rfl rfl rfl rfl ?_
                  refine Eo.nil ?_
                  obtain rfl := Option.some.inj H
                  exact And.intro rfl ⟨(Hp.front (Hp.front (Hp.drop hp50 0) 1) 1), (.cons rfl (.cons rfl (.nil')))⟩
              · skip
                intro x φ54 σ53 hJ
                obtain ⟨rfl, hp52, hf55⟩ := hJ
                refine ⟨rfl, Eo.of (F := [(8, (.v (.bool false))), (71, (.v (.bool x47)))]) hf55 ?_⟩
                refine Eo.val (x := (.v (.bool x47))) rfl rfl rfl rfl ?_
                refine Eo.nil ?_
                obtain rfl := Option.some.inj H
                refine Ec.ret ?_
                refine Ret.mk rfl ?_
                exact ⟨rfl, (Hp.front (Hp.front hp52 1) 1)⟩
      · have H := cond_f hc24 H
        refine Ec.seq ?_
        refine Ec.region ?_
        refine Eo.val (x := (.v (.bool (p0.f_Kind == 3)))) rfl rfl rfl rfl ?_
        refine Eo.val (x := (.v (.bool (p0.f_Kind == 3)))) rfl rfl rfl rfl ?_
        refine Eo.nil ?_
        refine Ec.cond (t := (p0.f_Kind == 3)) rfl (fun hc58 => ?_) (fun hc58 => ?_)
        · have H := cond_t hc58 H
          refine Ec.seq ?_
          refine Ec.region ?_
          refine Eo.val (x := (.ptr b3 1)) rfl rfl rfl rfl ?_
          refine Eo.val (x := (.v (.string p0.f_Word))) (op_loadB hp6 0 rfl rfl rfl rfl) rfl rfl rfl ?_
          obtain ⟨r59, hvr59, H⟩ := bind_some H
          refine Eo.call rfl rfl rfl rfl (gstrings_IndexFunc_44_ok hp6 hvr59) ?_
          rintro _ σ61 ⟨rfl, hp60⟩
          change Hp σ61 (.blk b3 (.cells [(.v (.int .i64 p0.f_Kind)), (.v (.string p0.f_Word)), (.v (.int .i64 p0.f_Num)), a1] 34) :: .blk bq2 (.cells [(.v (.int .i64 (IntKind.wrap .i64 (p2_0 + 1))))] 3) :: .blk bq3 (.cells [(.v (.int .i64 p3_0))] 3) :: R) at hp60
          refine Eo.val (x := (.v (.bool (decide (r59 ≥ 0))))) rfl rfl rfl rfl ?_
          refine Eo.val (x := (.v (.bool (decide (r59 ≥ 0))))) rfl rfl rfl rfl ?_
          refine Eo.nil ?_
          refine Ec.seq ?_
          refine Ec.region ?_
          refine Eo.val (x := (.ptr b3 2)) rfl rfl rfl rfl ?_
          refine Eo.val (x := (.v (.int .i64 p0.f_Num))) (op_loadB hp60 0 rfl rfl rfl rfl) rfl rfl rfl ?_
          refine Eo.val (x := (.v (.bool (p0.f_Num == 0)))) rfl rfl rfl rfl ?_
          refine Eo.val (x := (.v (.bool (p0.f_Num == 0)))) rfl rfl rfl rfl ?_
          refine Eo.cutF 5 [(8, (.v (.bool false))), (10, (.v (.bool (decide (r59 ≥ 0))))), (86, (.v (.bool ((p0.f_Num == 0) && (((p0.f_Kids.length : Nat) : Int) == 0)))))] ?_ ?_
          · skip
            cases hc64 : (p0.f_Num == 0)
            · skip
              refine Eo.off rfl rfl rfl ?_
              refine Eo.off rfl rfl rfl ?_
              refine Eo.off rfl rfl rfl ?_
              refine Eo.off rfl rfl rfl ?_
              refine Eo.val (x := (.v (.bool false))) rfl rfl rfl rfl ?_
              exact Eo.nil (And.intro rfl (And.intro rfl (.cons rfl (.cons rfl (.cons rfl (.nil'))))))
            · skip
              refine Eo.val (x := (.ptr b3 3)) rfl rfl rfl rfl ?_
              refine Eo.val (x := a1) (op_loadB hp60 0 rfl rfl rfl rfl) rfl rfl rfl ?_
              refine Eo.val (x := (.v (.int .i64 ((p0.f_Kids.length : Nat) : Int)))) (op_lenL h2 rfl rfl rfl rfl rfl Tryd.underlying23) rfl rfl rfl ?_
              refine Eo.val (x := (.v (.bool (((p0.f_Kids.length : Nat) : Int) == 0)))) rfl rfl rfl rfl ?_
              refine Eo.val (x := (.v (.bool (((p0.f_Kids.length : Nat) : Int) == 0)))) rfl rfl rfl rfl ?_
              exact Eo.nil (And.intro rfl (And.intro rfl (.cons rfl (.cons rfl (.cons rfl (.nil'))))))
          · skip
            refine Eo.val (x := (.v (.bool ((p0.f_Num == 0) && (((p0.f_Kids.length : Nat) : Int) == 0))))) rfl rfl rfl rfl ?_
            refine Eo.cutF 3 [(8, (.v (.bool false))), (90, (.v (.bool (((p0.f_Num == 0) && (((p0.f_Kids.length : Nat) : Int) == 0)) && (!(decide (r59 ≥ 0)))))))] ?_ ?_
            · skip
              cases hc69 : ((p0.f_Num == 0) && (((p0.f_Kids.length : Nat) : Int) == 0))
              · skip
                refine Eo.off rfl rfl rfl ?_
                refine Eo.off rfl rfl rfl ?_
                refine Eo.val (x := (.v (.bool false))) rfl rfl rfl rfl ?_
                exact Eo.nil (And.intro rfl (And.intro rfl (.cons rfl (.cons rfl (.nil')))))
              · skip
                refine Eo.val (x := (.v (.bool (decide (r59 ≥ 0))))) rfl rfl rfl rfl ?_
                refine Eo.val (x := (.v (.bool (!(decide (r59 ≥ 0)))))) rfl rfl rfl rfl ?_
                refine Eo.val (x := (.v (.bool (!(decide (r59 ≥ 0)))))) rfl rfl rfl rfl ?_
                exact Eo.nil (And.intro rfl (And.intro rfl (.cons rfl (.cons rfl (.nil')))))
            · skip
              refine Eo.val (x := (.v (.bool (((p0.f_Num == 0) && (((p0.f_Kids.length : Nat) : Int) == 0)) && (!(decide (r59 ≥ 0))))))) rfl rfl rfl rfl ?_
              refine Eo.nil ?_
              obtain rfl := Option.some.inj H
              refine Ec.ret ?_
              refine Ret.mk rfl ?_
              exact ⟨rfl, (Hp.front (Hp.front (Hp.drop hp60 0) 1) 1)⟩
        · have H := cond_f hc58 H
          refine Ec.seq ?_
          refine Ec.region ?_
          refine Eo.val (x := (.v (.bool (p0.f_Kind == 4)))) rfl rfl rfl rfl ?_
          refine Eo.val (x := (.v (.bool (p0.f_Kind == 4)))) rfl rfl rfl rfl ?_
          refine Eo.nil ?_
          refine Ec.cond (t := (p0.f_Kind == 4)) rfl (fun hc72 => ?_) (fun hc72 => ?_)
          · have H := cond_t hc72 H
            refine Ec.seq ?_
            refine Ec.region ?_
            refine Eo.val (x := (.ptr bq3 0)) rfl rfl rfl rfl ?_
            refine Eo.val (x := (.ptr bq3 0)) rfl rfl rfl rfl ?_
            refine Eo.val (x := (.ptr bq3 0)) rfl rfl rfl rfl ?_
            refine Eo.val (x := (.v (.int .i64 p3_0))) (op_loadB hp6 2 rfl rfl rfl rfl) rfl rfl rfl ?_
            refine Eo.val (x := (.v (.int .i64 p1))) rfl rfl rfl rfl ?_
            refine Eo.val (x := (.v (.int .i64 (IntKind.wrap .i64 (p1 + 1))))) rfl rfl rfl rfl ?_
            refine Eo.val (x := (.v (.int .i64 (if (IntKind.wrap .i64 (p1 + 1)) > p3_0 then (IntKind.wrap .i64 (p1 + 1)) else p3_0)))) (op_max rfl rfl rfl rfl rfl) rfl rfl rfl ?_
            refine Eo.val (x := (.ptr bq3 0)) rfl rfl rfl rfl ?_
            refine Eo.store hp6 2 rfl (storeCells_mk rfl rfl rfl rfl rfl rfl) rfl rfl rfl rfl rfl ?_
            intro σ74 hp73
            change Hp σ74 (.blk b3 (.cells [(.v (.int .i64 p0.f_Kind)), (.v (.string p0.f_Word)), (.v (.int .i64 p0.f_Num)), a1] 34) :: .blk bq2 (.cells [(.v (.int .i64 (IntKind.wrap .i64 (p2_0 + 1))))] 3) :: .blk bq3 (.cells [(.v (.int .i64 (if (IntKind.wrap .i64 (p1 + 1)) > p3_0 then (IntKind.wrap .i64 (p1 + 1)) else p3_0)))] 3) :: R) at hp73
            refine Eo.nil ?_
            refine Ec.seq ?_
            refine Ec.region ?_
            refine Eo.val (x := (.ptr b3 1)) rfl rfl rfl rfl ?_
            refine Eo.val (x := (.v (.string p0.f_Word))) (op_loadB hp73 0 rfl rfl rfl rfl) rfl rfl rfl ?_
            refine Eo.val (x := (.v (.bool (decide (p0.f_Word = (ByteArray.mk #[])))))) (val_b rfl (seq_eq _ _)) rfl rfl rfl ?_
            refine Eo.val (x := (.v (.bool (decide (p0.f_Word = (ByteArray.mk #[])))))) rfl rfl rfl rfl ?_
            refine Eo.cutF 4 [(1, (.v (.int .i64 p1))), (2, (.ptr bq2 0)), (3, (.ptr bq3 0)), (4, (.ptr b3 0)), (108, (.v (.bool ((decide (p0.f_Word = (ByteArray.mk #[]))) && (p0.f_Num == 0)))))] ?_ ?_
            · skip
              cases hc77 : (decide (p0.f_Word = (ByteArray.mk #[])))
              · skip
                refine Eo.off rfl rfl rfl ?_
                refine Eo.off rfl rfl rfl ?_
                refine Eo.off rfl rfl rfl ?_
                refine Eo.val (x := (.v (.bool false))) rfl rfl rfl rfl ?_
                exact Eo.nil (And.intro rfl (And.intro rfl (.cons rfl (.cons rfl (.cons rfl (.cons rfl (.cons rfl (.nil'))))))))
              · skip
                refine Eo.val (x := (.ptr b3 2)) rfl rfl rfl rfl ?_
                refine Eo.val (x := (.v (.int .i64 p0.f_Num))) (op_loadB hp73 0 rfl rfl rfl rfl) rfl rfl rfl ?_
                refine Eo.val (x := (.v (.bool (p0.f_Num == 0)))) rfl rfl rfl rfl ?_
                refine Eo.val (x := (.v (.bool (p0.f_Num == 0)))) rfl rfl rfl rfl ?_
                exact Eo.nil (And.intro rfl (And.intro rfl (.cons rfl (.cons rfl (.cons rfl (.cons rfl (.cons rfl (.nil'))))))))
            · skip
              refine Eo.val (x := (.v (.bool ((decide (p0.f_Word = (ByteArray.mk #[]))) && (p0.f_Num == 0))))) rfl rfl rfl rfl ?_
              refine Eo.nil ?_
              refine Ec.seq ?_
              refine Ec.seq ?_
              refine Ec.region ?_
              refine Eo.val (x := (.ptr b3 3)) rfl rfl rfl rfl ?_
              refine Eo.val (x := a1) (op_loadB hp73 0 rfl rfl rfl rfl) rfl rfl rfl ?_
              refine Eo.val (x := (.v (.int .i64 ((p0.f_Kids.length : Nat) : Int)))) (op_lenL h2 rfl rfl rfl rfl rfl Tryd.underlying23) rfl rfl rfl ?_
              refine Eo.val (x := (.v (.int .i64 0))) rfl rfl rfl rfl ?_
              refine Eo.nil ?_
              refine Ec.block ?_
              obtain ⟨v198, hv199, H⟩ := bind_some H
              refine Ec.cut (J := (fun (v : (Bool × Int × Int)) (x : X) (φ : Fr) (s : St) => match v with | (x158, x159, x160) => x = (.exit 1) ∧ (Hp s (.blk bq2 (.cells [(.v (.int .i64 x159))] 3) :: .blk bq3 (.cells [(.v (.int .i64 x160))] 3) :: R) ∧ Fl [(11, (.v (.bool x158)))] φ)) v198) (Ec.weak (.cons rfl (.cons rfl (.cons rfl (.cons rfl (.cons rfl (.cons rfl (.cons rfl (.nil')))))))) (Ec.loopF (f := (fun m (i : (Bool × Int × Int × Int) × Unit) => gsexp_sound_L1 n (gsexp_sound_rec n k) p0 p1 m i.1.1 i.1.2.1 i.1.2.2.1 i.1.2.2.2)) (G := (fun (i : (Bool × Int × Int × Int) × Unit) => ([(1, (.v (.int .i64 p1))), (2, (.ptr bq2 0)), (3, (.ptr bq3 0)), (11, (.v (.bool i.1.1))), (110, a1), (111, (.v (.int .i64 ((p0.f_Kids.length : Nat) : Int)))), (112, (.v (.int .i64 i.1.2.1)))] : List (Nat × A)))) (I := (fun (i : (Bool × Int × Int × Int) × Unit) (s : St) => Hp s (.blk bq2 (.cells [(.v (.int .i64 i.1.2.2.1))] 3) :: .blk bq3 (.cells [(.v (.int .i64 i.1.2.2.2))] 3) :: R))) (J := (fun (v : (Bool × Int × Int)) (x : X) (φ : Fr) (s : St) => match v with | (x158, x159, x160) => x = (.exit 1) ∧ (Hp s (.blk bq2 (.cells [(.v (.int .i64 x159))] 3) :: .blk bq3 (.cells [(.v (.int .i64 x160))] 3) :: R) ∧ Fl [(11, (.v (.bool x158)))] φ))) (fun _ => rfl) ?_ n ((((decide (p0.f_Word = (ByteArray.mk #[]))) && (p0.f_Num == 0)), 0, (IntKind.wrap .i64 (p2_0 + 1)), (if (IntKind.wrap .i64 (p1 + 1)) > p3_0 then (IntKind.wrap .i64 (p1 + 1)) else p3_0)), ()) _ v198 (Hp.front (Hp.front (Hp.drop hp73 0) 1) 1) hv199)) ?_
              · rintro m ⟨⟨y117, y118, y119, y120⟩, _⟩ σ0 v hp0 H ih
                change gsexp_sound_L1 n (gsexp_sound_rec n k) p0 p1 (m + 1) y117 y118 y119 y120 = some v at H
                rw [gsexp_sound_L1] at H
                change Ec _ _ _ [(1, (.v (.int .i64 p1))), (2, (.ptr bq2 0)), (3, (.ptr bq3 0)), (11, (.v (.bool y117))), (110, a1), (111, (.v (.int .i64 ((p0.f_Kids.length : Nat) : Int)))), (112, (.v (.int .i64 y118)))] σ0 _
                refine Ec.seq ?_
                refine Ec.region ?_
                refine Eo.val (x := (.v (.bool (decide (y118 < ((p0.f_Kids.length : Nat) : Int)))))) rfl rfl rfl rfl ?_
                refine Eo.nil ?_
                refine Ec.seq ?_
                refine Ec.cond (t := (decide (y118 < ((p0.f_Kids.length : Nat) : Int)))) rfl (fun hc161 => ?_) (fun hc161 => ?_)
                · have H := cond_t hc161 H
                  refine Ec.skip ?_
                  refine Ec.seq ?_
                  refine Ec.block ?_
                  refine Ec.seq ?_
                  refine Ec.region ?_
                  obtain ⟨x162, hvx162, H⟩ := bind_some H
                  refine Eo.idx h2 hvx162 rfl rfl rfl Tryd.underlying23 rfl rfl rfl rfl ?_
                  intro cs163 p164 _ hat165 hr168
                  obtain ⟨a166, rfl, h167⟩ := rTTree_un hr168
                  refine Eo.val (x := (.agg [(.v (.int .i64 x162.f_Kind)), (.v (.string x162.f_Word)), (.v (.int .i64 x162.f_Num)), a166])) (op_loadSpAgg hat165 0 rfl rfl rfl rfl rfl rfl) rfl rfl rfl ?_
                  refine Eo.alloc (z := [(.v (.int .i64 0)), (.v (.string (ByteArray.mk #[]))), (.v (.int .i64 0)), nilS]) hp0 rfl rfl rfl rfl rfl ?_
                  intro b169 σ171 hp170
                  refine Eo.store hp170 0 rfl (storeCells_mk rfl rfl rfl (by simp [allOne, A.cells, h167.isOne]) rfl rfl) rfl rfl rfl rfl rfl ?_
                  intro σ173 hp172
                  change Hp σ173 (.blk b169 (.cells [(.v (.int .i64 x162.f_Kind)), (.v (.string x162.f_Word)), (.v (.int .i64 x162.f_Num)), a166] 34) :: .blk bq2 (.cells [(.v (.int .i64 y119))] 3) :: .blk bq3 (.cells [(.v (.int .i64 y120))] 3) :: R) at hp172
                  refine Eo.nil ?_
                  refine Ec.region ?_
                  refine Eo.val (x := (.v (.bool y117))) rfl rfl rfl rfl ?_
                  refine Eo.val (x := (.v (.bool y117))) rfl rfl rfl rfl ?_
                  obtain ⟨v196, hv197, H⟩ := bind_some H
                  refine Eo.cutN 7 (J := (fun (v : (Bool × Bool × Int × Int)) (x : X) (φ : Fr) (s : St) => match v with | (x181, x182, x183, x184) => x = .normal ∧ (Hp s (.blk bq2 (.cells [(.v (.int .i64 x183))] 3) :: .blk bq3 (.cells [(.v (.int .i64 x184))] 3) :: R) ∧ Fl [(1, (.v (.int .i64 p1))), (2, (.ptr bq2 0)), (3, (.ptr bq3 0)), (11, (.v (.bool x181))), (110, a1), (111, (.v (.int .i64 ((p0.f_Kids.length : Nat) : Int)))), (112, (.v (.int .i64 y118))), (124, (.v (.bool x182)))] φ)) v196) ?_ ?_
                  · have H := hv197
                    cases hc185 : y117
                    · have H := cond_f hc185 H
                      refine Eo.off rfl rfl rfl ?_
                      refine Eo.off rfl rfl rfl ?_
                      refine Eo.off rfl rfl rfl ?_
                      refine Eo.off rfl rfl rfl ?_
                      refine Eo.off rfl rfl rfl ?_
                      refine Eo.off rfl rfl rfl ?_
                      refine Eo.val (x := (.v (.bool false))) rfl rfl rfl rfl ?_
                      refine Eo.nil ?_
                      obtain rfl := Option.some.inj H
                      exact And.intro rfl ⟨(Hp.front (Hp.front (Hp.drop hp172 0) 1) 1), (.cons rfl (.cons rfl (.cons rfl (.cons rfl (.cons rfl (.cons rfl (.cons rfl (.cons rfl (.nil')))))))))⟩
                    · have H := cond_t hc185 H
                      refine Eo.val (x := (.agg [(.v (.int .i64 x162.f_Kind)), (.v (.string x162.f_Word)), (.v (.int .i64 x162.f_Num)), a166])) (op_loadB hp172 0 rfl rfl rfl rfl) rfl rfl rfl ?_
                      refine Eo.val (x := (.v (.int .i64 p1))) rfl rfl rfl rfl ?_
                      refine Eo.val (x := (.v (.int .i64 (IntKind.wrap .i64 (p1 + 1))))) rfl rfl rfl rfl ?_
                      refine Eo.val (x := (.ptr bq2 0)) rfl rfl rfl rfl ?_
                      refine Eo.val (x := (.ptr bq3 0)) rfl rfl rfl rfl ?_
                      obtain ⟨r191, hvr191, H⟩ := bind_some H
                      refine Eo.call rfl rfl rfl rfl (ihR h167 (Hp.front (Hp.front hp172 2) 2) hvr191) ?_
                      obtain ⟨r186, r187, r188⟩ := r191
                      rintro _ σ190 ⟨rfl, hp189⟩
                      change Hp σ190 (.blk bq2 (.cells [(.v (.int .i64 r187))] 3) :: .blk bq3 (.cells [(.v (.int .i64 r188))] 3) :: .blk b169 (.cells [(.v (.int .i64 x162.f_Kind)), (.v (.string x162.f_Word)), (.v (.int .i64 x162.f_Num)), a166] 34) :: R) at hp189
                      refine Eo.val (x := (.v (.bool r186))) rfl rfl rfl rfl ?_
                      refine Eo.nil ?_
                      obtain rfl := Option.some.inj H
                      exact And.intro rfl ⟨(Hp.front (Hp.front (Hp.drop hp189 2) 1) 1), (.cons rfl (.cons rfl (.cons rfl (.cons rfl (.cons rfl (.cons rfl (.cons rfl (.cons rfl (.nil')))))))))⟩
                  · skip
                    intro x φ194 σ193 hJ
                    obtain ⟨x181, x182, x183, x184⟩ := v196
                    obtain ⟨rfl, hp192, hf195⟩ := hJ
                    refine ⟨rfl, Eo.of (F := [(1, (.v (.int .i64 p1))), (2, (.ptr bq2 0)), (3, (.ptr bq3 0)), (11, (.v (.bool x181))), (110, a1), (111, (.v (.int .i64 ((p0.f_Kids.length : Nat) : Int)))), (112, (.v (.int .i64 y118))), (124, (.v (.bool x182)))]) hf195 ?_⟩
                    refine Eo.val (x := (.v (.bool x182))) rfl rfl rfl rfl ?_
                    refine Eo.nil ?_
                    refine Ec.region ?_
                    refine Eo.val (x := (.v (.int .i64 (IntKind.wrap .i64 (y118 + 1))))) rfl rfl rfl rfl ?_
                    refine Eo.val (x := (.v (.int .i64 (IntKind.wrap .i64 (y118 + 1))))) rfl rfl rfl rfl ?_
                    refine Eo.nil ?_
                    exact Ec.of (.cons rfl (.cons rfl (.cons rfl (.cons rfl (.cons rfl (.cons rfl (.cons rfl (.nil')))))))) (ih ((x182, (IntKind.wrap .i64 (y118 + 1)), x183, x184), ()) _ (Hp.front (Hp.front hp192 1) 1) H)
                · have H := cond_f hc161 H
                  refine Ec.exit ?_
                  obtain rfl := Option.some.inj H
                  exact And.intro rfl ⟨(Hp.front (Hp.front hp0 1) 1), (.cons rfl (.nil'))⟩
              · skip
                intro x φ202 σ201 hJ
                obtain ⟨x158, x159, x160⟩ := v198
                obtain ⟨rfl, hp200, hf203⟩ := hJ
                refine Ec.of (F := [(11, (.v (.bool x158)))]) hf203 ?_
                refine Ec.seq ?_
                refine Ec.region ?_
                refine Eo.val (x := (.v (.bool x158))) rfl rfl rfl rfl ?_
                refine Eo.val (x := (.v (.bool x158))) rfl rfl rfl rfl ?_
                refine Eo.nil ?_
                obtain rfl := Option.some.inj H
                refine Ec.ret ?_
                refine Ret.mk rfl ?_
                exact ⟨rfl, (Hp.front (Hp.front hp200 1) 1)⟩
          · have H := cond_f hc72 H
            refine Ec.skip ?_
            refine Ec.seq ?_
            refine Ec.region ?_
            refine Eo.val (x := (.v (.bool false))) rfl rfl rfl rfl ?_
            refine Eo.nil ?_
            obtain rfl := Option.some.inj H
            refine Ec.ret ?_
            refine Ret.mk rfl ?_
            exact ⟨rfl, (Hp.front (Hp.front (Hp.drop hp6 0) 1) 1)⟩

theorem gsexp_sound_ok {n : Nat} {bq2 : Nat} {bq3 : Nat} {p0 : TTree} {p1 : Int} {p2_0 : Int} {p3_0 : Int} {a1 : A} {R : List Res} {σ : St} (h2 : Sl rTTree a1 p0.f_Kids) (hp : Hp σ (.blk bq2 (.cells [(.v (.int .i64 p2_0))] 3) :: .blk bq3 (.cells [(.v (.int .i64 p3_0))] 3) :: R)) {r : (Bool × Int × Int)} (H : gsexp_sound n p0 p1 p2_0 p3_0 = some r) : Ca cfg 23 [(.agg [(.v (.int .i64 p0.f_Kind)), (.v (.string p0.f_Word)), (.v (.int .i64 p0.f_Num)), a1]), (.v (.int .i64 p1)), (.ptr bq2 0), (.ptr bq3 0)] σ (gsexp_sound_post bq2 bq3 R r) := gsexp_sound_rec_ok n h2 hp H

def gsexp_write_L1 (N : Nat) (rec : (List Int) → TTree → Option (List Int)) (p1 : TTree) : Nat → Int → (List Int) → Option ((List Int))
  | 0, _, _ => none
  | m + 1, y548, y552 => (cond (decide (y548 < ((p1.f_Kids.length : Nat) : Int))) (((((atL p1.f_Kids y548).bind fun x722 => (((cond (decide (y548 > 0)) (((appL 1 y552 ([32] : List Int)).bind fun l749 => some l749)) (some y552)) : Option ((List Int))).bind fun x745 => ((rec x745 x722).bind fun r762 => some r762))) : Option ((List Int))).bind fun x719 => gsexp_write_L1 N rec p1 m (IntKind.wrap .i64 (y548 + 1)) x719)) (some y552))

def gsexp_write_rec (N : Nat) : Nat → (List Int) → TTree → Option (List Int)
  | 0, _, _ => none
  | k + 1, p0_1, p1 => (((cond (p1.f_Kind == 1) (((appL 1 p0_1 (bs p1.f_Word)).bind fun l405 => some l405)) ((cond (p1.f_Kind == 2) (((itoaT p1.f_Num).bind fun r413 => ((appL 1 p0_1 (bs r413)).bind fun l416 => some l416))) ((cond (p1.f_Kind == 3) (((catS (ByteArray.mk #[34]) p1.f_Word).bind fun s424 => ((catS s424 (ByteArray.mk #[34])).bind fun s425 => ((appL 1 p0_1 (bs s425)).bind fun l426 => some l426)))) ((cond (p1.f_Kind == 4) (((appL 1 p0_1 ([40] : List Int)).bind fun l434 => ((gsexp_write_L1 N (gsexp_write_rec N k) p1 N 0 l434).bind fun x665 => ((appL 1 x665 ([41] : List Int)).bind fun l781 => some l781)))) (some p0_1)))))))) : Option ((List Int))).bind fun x401 => some x401)

def gsexp_write (n : Nat) (p0_1 : (List Int)) (p1 : TTree) : Option ((List Int)) := gsexp_write_rec n n p0_1 p1

def gsexp_write_post (bq0 : Nat) (R : List Res) (r : (List Int)) (x : A) (s : St) : Prop := ∃ (a7 a9 : A), x = (.tup []) ∧ AddrOk a7 bq0 ∧ BufIs a9 r ∧ Hp s (.blk bq0 (.cells [a7, a9] 59) :: .app a9 5 :: R)

theorem gsexp_write_rec_ok {n : Nat} : ∀ (k : Nat) {bq0 : Nat} {p0_1 : (List Int)} {p1 : TTree} {a1 a3 a5 : A} {R : List Res} {σ : St} (_h2 : AddrOk a1 bq0) (_h4 : BufIs a3 p0_1) (_h6 : Sl rTTree a5 p1.f_Kids) (_hp : Hp σ (.blk bq0 (.cells [a1, a3] 59) :: .app a3 5 :: R)) {r : (List Int)} (_H : gsexp_write_rec n k p0_1 p1 = some r), Ca cfg 24 [(.ptr bq0 0), (.agg [(.v (.int .i64 p1.f_Kind)), (.v (.string p1.f_Word)), (.v (.int .i64 p1.f_Num)), a5])] σ (gsexp_write_post bq0 R r) := by
  intro k
  induction k with
  | zero => intro bq0 p0_1 p1 a1 a3 a5 R σ h2 h4 h6 hp r H; rw [gsexp_write_rec] at H; cases H
  | succ k ihR =>
    intro bq0 p0_1 p1 a1 a3 a5 R σ h2 h4 h6 hp r H
    rw [gsexp_write_rec] at H
    refine Ca.enterL (G := [(0, (.ptr bq0 0)), (1, (.agg [(.v (.int .i64 p1.f_Kind)), (.v (.string p1.f_Word)), (.v (.int .i64 p1.f_Num)), a5]))]) Tryd.func24 rfl rfl rfl rfl ?_
    refine Ec.seq ?_
    refine Ec.region ?_
    refine Eo.box hp rfl (by simp [allOne, A.cells, h6.isOne]) rfl rfl rfl rfl rfl ?_
    intro b11 σ13 hp12
    refine Eo.nil ?_
    refine Ec.seq ?_
    refine Ec.region ?_
    refine Eo.val (x := (.ptr b11 0)) rfl rfl rfl rfl ?_
    refine Eo.val (x := (.v (.int .i64 p1.f_Kind))) (op_loadB hp12 0 rfl rfl rfl rfl) rfl rfl rfl ?_
    refine Eo.nil ?_
    obtain ⟨x401, hv793, H⟩ := bind_some H
    refine Ec.cut (J := (fun (x401 : (List Int)) (x : X) (φ : Fr) (s : St) => x = .normal ∧ (∃ (a399 a402 : A), AddrOk a399 bq0 ∧ BufIs a402 x401 ∧ Hp s (.blk bq0 (.cells [a399, a402] 59) :: .app a402 5 :: R) ∧ Fl [] φ)) x401) ?_ ?_
    · have H := hv793
      refine Ec.block ?_
      refine Ec.seq ?_
      refine Ec.region ?_
      refine Eo.val (x := (.v (.bool (p1.f_Kind == 1)))) rfl rfl rfl rfl ?_
      refine Eo.val (x := (.v (.bool (p1.f_Kind == 1)))) rfl rfl rfl rfl ?_
      refine Eo.nil ?_
      refine Ec.cond (t := (p1.f_Kind == 1)) rfl (fun hc404 => ?_) (fun hc404 => ?_)
      · have H := cond_t hc404 H
        refine Ec.region ?_
        refine Eo.val (x := (.ptr bq0 0)) rfl rfl rfl rfl ?_
        refine Eo.val (x := (.ptr b11 1)) rfl rfl rfl rfl ?_
        refine Eo.val (x := (.v (.string p1.f_Word))) (op_loadB hp12 0 rfl rfl rfl rfl) rfl rfl rfl ?_
        obtain ⟨l405, hvl405, H⟩ := bind_some H
        refine Eo.call rfl rfl rfl rfl (bld_WriteString h2 h4 (Hp.front (Hp.front hp12 2) 2) hvl405) ?_
        rintro _ σ411 ⟨a406, a407, rfl, h408, h409, hp410⟩
        change Hp σ411 (.blk bq0 (.cells [a406, a407] 59) :: .app a407 5 :: .blk b11 (.cells [(.v (.int .i64 p1.f_Kind)), (.v (.string p1.f_Word)), (.v (.int .i64 p1.f_Num)), a5] 34) :: R) at hp410
        refine Eo.nil ?_
        obtain rfl := Option.some.inj H
        exact And.intro rfl ⟨a406, a407, h408, h409, (Hp.front (Hp.front (Hp.drop hp410 2) 1) 1), (.nil')⟩
      · have H := cond_f hc404 H
        refine Ec.seq ?_
        refine Ec.region ?_
        refine Eo.val (x := (.v (.bool (p1.f_Kind == 2)))) rfl rfl rfl rfl ?_
        refine Eo.val (x := (.v (.bool (p1.f_Kind == 2)))) rfl rfl rfl rfl ?_
        refine Eo.nil ?_
        refine Ec.cond (t := (p1.f_Kind == 2)) rfl (fun hc412 => ?_) (fun hc412 => ?_)
        · have H := cond_t hc412 H
          refine Ec.region ?_
          refine Eo.val (x := (.ptr bq0 0)) rfl rfl rfl rfl ?_
          refine Eo.val (x := (.ptr b11 2)) rfl rfl rfl rfl ?_
          refine Eo.val (x := (.v (.int .i64 p1.f_Num))) (op_loadB hp12 0 rfl rfl rfl rfl) rfl rfl rfl ?_
          obtain ⟨r413, hvr413, H⟩ := bind_some H
          refine Eo.call rfl rfl rfl rfl (prim46_ok hp12 hvr413) ?_
          rintro _ σ415 ⟨rfl, hp414⟩
          obtain ⟨l416, hvl416, H⟩ := bind_some H
          refine Eo.call rfl rfl rfl rfl (bld_WriteString h2 h4 (Hp.front (Hp.front hp414 2) 2) hvl416) ?_
          rintro _ σ422 ⟨a417, a418, rfl, h419, h420, hp421⟩
          change Hp σ422 (.blk bq0 (.cells [a417, a418] 59) :: .app a418 5 :: .blk b11 (.cells [(.v (.int .i64 p1.f_Kind)), (.v (.string p1.f_Word)), (.v (.int .i64 p1.f_Num)), a5] 34) :: R) at hp421
          refine Eo.nil ?_
          obtain rfl := Option.some.inj H
          exact And.intro rfl ⟨a417, a418, h419, h420, (Hp.front (Hp.front (Hp.drop hp421 2) 1) 1), (.nil')⟩
        · have H := cond_f hc412 H
          refine Ec.seq ?_
          refine Ec.region ?_
          refine Eo.val (x := (.v (.bool (p1.f_Kind == 3)))) rfl rfl rfl rfl ?_
          refine Eo.val (x := (.v (.bool (p1.f_Kind == 3)))) rfl rfl rfl rfl ?_
          refine Eo.nil ?_
          refine Ec.cond (t := (p1.f_Kind == 3)) rfl (fun hc423 => ?_) (fun hc423 => ?_)
          · have H := cond_t hc423 H
            refine Ec.region ?_
            refine Eo.val (x := (.ptr bq0 0)) rfl rfl rfl rfl ?_
            refine Eo.val (x := (.ptr b11 1)) rfl rfl rfl rfl ?_
            refine Eo.val (x := (.v (.string p1.f_Word))) (op_loadB hp12 0 rfl rfl rfl rfl) rfl rfl rfl ?_
            obtain ⟨s424, hvs424, H⟩ := bind_some H
            refine Eo.val (op_catS hvs424 rfl rfl rfl) rfl rfl rfl ?_
            obtain ⟨s425, hvs425, H⟩ := bind_some H
            refine Eo.val (op_catS hvs425 rfl rfl rfl) rfl rfl rfl ?_
            obtain ⟨l426, hvl426, H⟩ := bind_some H
            refine Eo.call rfl rfl rfl rfl (bld_WriteString h2 h4 (Hp.front (Hp.front hp12 2) 2) hvl426) ?_
            rintro _ σ432 ⟨a427, a428, rfl, h429, h430, hp431⟩
            change Hp σ432 (.blk bq0 (.cells [a427, a428] 59) :: .app a428 5 :: .blk b11 (.cells [(.v (.int .i64 p1.f_Kind)), (.v (.string p1.f_Word)), (.v (.int .i64 p1.f_Num)), a5] 34) :: R) at hp431
            refine Eo.nil ?_
            obtain rfl := Option.some.inj H
            exact And.intro rfl ⟨a427, a428, h429, h430, (Hp.front (Hp.front (Hp.drop hp431 2) 1) 1), (.nil')⟩
          · have H := cond_f hc423 H
            refine Ec.seq ?_
            refine Ec.region ?_
            refine Eo.val (x := (.v (.bool (p1.f_Kind == 4)))) rfl rfl rfl rfl ?_
            refine Eo.val (x := (.v (.bool (p1.f_Kind == 4)))) rfl rfl rfl rfl ?_
            refine Eo.nil ?_
            refine Ec.cond (t := (p1.f_Kind == 4)) rfl (fun hc433 => ?_) (fun hc433 => ?_)
            · have H := cond_t hc433 H
              refine Ec.seq ?_
              refine Ec.region ?_
              refine Eo.val (x := (.ptr bq0 0)) rfl rfl rfl rfl ?_
              obtain ⟨l434, hvl434, H⟩ := bind_some H
              refine Eo.call rfl rfl rfl rfl (bld_WriteByte h2 h4 (Hp.front (Hp.front hp12 2) 2) hvl434) ?_
              rintro _ σ440 ⟨a435, a436, rfl, h437, h438, hp439⟩
              change Hp σ440 (.blk bq0 (.cells [a435, a436] 59) :: .app a436 5 :: .blk b11 (.cells [(.v (.int .i64 p1.f_Kind)), (.v (.string p1.f_Word)), (.v (.int .i64 p1.f_Num)), a5] 34) :: R) at hp439
              refine Eo.nil ?_
              refine Ec.seq ?_
              refine Ec.seq ?_
              refine Ec.region ?_
              refine Eo.val (x := (.ptr b11 3)) rfl rfl rfl rfl ?_
              refine Eo.val (x := a5) (op_loadB hp439 2 rfl rfl rfl rfl) rfl rfl rfl ?_
              refine Eo.val (x := (.v (.int .i64 ((p1.f_Kids.length : Nat) : Int)))) (op_lenL h6 rfl rfl rfl rfl rfl Tryd.underlying23) rfl rfl rfl ?_
              refine Eo.val (x := (.v (.int .i64 0))) rfl rfl rfl rfl ?_
              refine Eo.nil ?_
              refine Ec.block ?_
              obtain ⟨x665, hv776, H⟩ := bind_some H
              refine Ec.cut (J := (fun (x665 : (List Int)) (x : X) (φ : Fr) (s : St) => x = (.exit 1) ∧ (∃ (a663 a666 : A), AddrOk a663 bq0 ∧ BufIs a666 x665 ∧ Hp s (.blk bq0 (.cells [a663, a666] 59) :: .app a666 5 :: R) ∧ Fl [(0, (.ptr bq0 0))] φ)) x665) (Ec.weak (.cons rfl (.cons rfl (.cons rfl (.cons rfl (.nil'))))) (Ec.loopF (f := (fun m (i : (Int × (List Int)) × (A × A)) => gsexp_write_L1 n (gsexp_write_rec n k) p1 m i.1.1 i.1.2)) (G := (fun (i : (Int × (List Int)) × (A × A)) => ([(0, (.ptr bq0 0)), (34, a5), (35, (.v (.int .i64 ((p1.f_Kids.length : Nat) : Int)))), (36, (.v (.int .i64 i.1.1)))] : List (Nat × A)))) (I := (fun (i : (Int × (List Int)) × (A × A)) (s : St) => AddrOk i.2.1 bq0 ∧ BufIs i.2.2 i.1.2 ∧ Hp s (.blk bq0 (.cells [i.2.1, i.2.2] 59) :: .app i.2.2 5 :: R))) (J := (fun (x665 : (List Int)) (x : X) (φ : Fr) (s : St) => x = (.exit 1) ∧ (∃ (a663 a666 : A), AddrOk a663 bq0 ∧ BufIs a666 x665 ∧ Hp s (.blk bq0 (.cells [a663, a666] 59) :: .app a666 5 :: R) ∧ Fl [(0, (.ptr bq0 0))] φ))) (fun _ => rfl) ?_ n ((0, l434), (a435, a436)) _ x665 ⟨h437, h438, (Hp.front (Hp.front (Hp.drop hp439 2) 1) 1)⟩ hv776)) ?_
              · rintro m ⟨⟨y548, y552⟩, ⟨a550, a553⟩⟩ σ0 v ⟨h551, h554, hp0⟩ H ih
                change gsexp_write_L1 n (gsexp_write_rec n k) p1 (m + 1) y548 y552 = some v at H
                rw [gsexp_write_L1] at H
                change Ec _ _ _ [(0, (.ptr bq0 0)), (34, a5), (35, (.v (.int .i64 ((p1.f_Kids.length : Nat) : Int)))), (36, (.v (.int .i64 y548)))] σ0 _
                refine Ec.seq ?_
                refine Ec.region ?_
                refine Eo.val (x := (.v (.bool (decide (y548 < ((p1.f_Kids.length : Nat) : Int)))))) rfl rfl rfl rfl ?_
                refine Eo.nil ?_
                refine Ec.seq ?_
                refine Ec.cond (t := (decide (y548 < ((p1.f_Kids.length : Nat) : Int)))) rfl (fun hc668 => ?_) (fun hc668 => ?_)
                · have H := cond_t hc668 H
                  refine Ec.skip ?_
                  refine Ec.seq ?_
                  obtain ⟨x719, hv774, H⟩ := bind_some H
                  refine Ec.cut (J := (fun (x719 : (List Int)) (x : X) (φ : Fr) (s : St) => x = .normal ∧ (∃ (a717 a720 : A), AddrOk a717 bq0 ∧ BufIs a720 x719 ∧ Hp s (.blk bq0 (.cells [a717, a720] 59) :: .app a720 5 :: R) ∧ Fl [(0, (.ptr bq0 0)), (34, a5), (35, (.v (.int .i64 ((p1.f_Kids.length : Nat) : Int)))), (36, (.v (.int .i64 y548)))] φ)) x719) ?_ ?_
                  · have H := hv774
                    refine Ec.block ?_
                    refine Ec.seq ?_
                    refine Ec.region ?_
                    refine Eo.val (x := (.v (.int .i64 y548))) rfl rfl rfl rfl ?_
                    obtain ⟨x722, hvx722, H⟩ := bind_some H
                    refine Eo.idx h6 hvx722 rfl rfl rfl Tryd.underlying23 rfl rfl rfl rfl ?_
                    intro cs723 p724 _ hat725 hr728
                    obtain ⟨a726, rfl, h727⟩ := rTTree_un hr728
                    refine Eo.val (x := (.agg [(.v (.int .i64 x722.f_Kind)), (.v (.string x722.f_Word)), (.v (.int .i64 x722.f_Num)), a726])) (op_loadSpAgg hat725 0 rfl rfl rfl rfl rfl rfl) rfl rfl rfl ?_
                    refine Eo.alloc (z := [(.v (.int .i64 0)), (.v (.string (ByteArray.mk #[]))), (.v (.int .i64 0)), nilS]) hp0 rfl rfl rfl rfl rfl ?_
                    intro b729 σ731 hp730
                    refine Eo.val (x := (.v (.int .i64 y548))) rfl rfl rfl rfl ?_
                    refine Eo.store hp730 0 rfl (storeCells_mk rfl rfl rfl (by simp [allOne, A.cells, h727.isOne]) rfl rfl) rfl rfl rfl rfl rfl ?_
                    intro σ733 hp732
                    change Hp σ733 (.blk b729 (.cells [(.v (.int .i64 x722.f_Kind)), (.v (.string x722.f_Word)), (.v (.int .i64 x722.f_Num)), a726] 34) :: .blk bq0 (.cells [a550, a553] 59) :: .app a553 5 :: R) at hp732
                    refine Eo.nil ?_
                    refine Ec.seq ?_
                    refine Ec.seq ?_
                    refine Ec.region ?_
                    refine Eo.val (x := (.v (.int .i64 y548))) rfl rfl rfl rfl ?_
                    refine Eo.val (x := (.v (.bool (decide (y548 > 0))))) rfl rfl rfl rfl ?_
                    refine Eo.nil ?_
                    obtain ⟨x745, hv768, H⟩ := bind_some H
                    refine Ec.cut (J := (fun (x745 : (List Int)) (x : X) (φ : Fr) (s : St) => x = .normal ∧ (∃ (a743 a746 : A), AddrOk a743 bq0 ∧ BufIs a746 x745 ∧ Hp s (.blk bq0 (.cells [a743, a746] 59) :: .blk b729 (.cells [(.v (.int .i64 x722.f_Kind)), (.v (.string x722.f_Word)), (.v (.int .i64 x722.f_Num)), a726] 34) :: .app a746 5 :: R) ∧ Fl [(0, (.ptr bq0 0)), (5, (.ptr b729 0)), (34, a5), (35, (.v (.int .i64 ((p1.f_Kids.length : Nat) : Int)))), (36, (.v (.int .i64 y548)))] φ)) x745) ?_ ?_
                    · have H := hv768
                      refine Ec.cond (t := (decide (y548 > 0))) rfl (fun hc748 => ?_) (fun hc748 => ?_)
                      · have H := cond_t hc748 H
                        refine Ec.region ?_
                        refine Eo.val (x := (.ptr bq0 0)) rfl rfl rfl rfl ?_
                        obtain ⟨l749, hvl749, H⟩ := bind_some H
                        refine Eo.call rfl rfl rfl rfl (bld_WriteByte h551 h554 (Hp.front (Hp.front hp732 2) 2) hvl749) ?_
                        rintro _ σ755 ⟨a750, a751, rfl, h752, h753, hp754⟩
                        change Hp σ755 (.blk bq0 (.cells [a750, a751] 59) :: .app a751 5 :: .blk b729 (.cells [(.v (.int .i64 x722.f_Kind)), (.v (.string x722.f_Word)), (.v (.int .i64 x722.f_Num)), a726] 34) :: R) at hp754
                        refine Eo.nil ?_
                        obtain rfl := Option.some.inj H
                        exact And.intro rfl ⟨a750, a751, h752, h753, (Hp.front (Hp.front (Hp.front hp754 1) 2) 2), (.cons rfl (.cons rfl (.cons rfl (.cons rfl (.cons rfl (.nil'))))))⟩
                      · have H := cond_f hc748 H
                        refine Ec.skip ?_
                        obtain rfl := Option.some.inj H
                        exact And.intro rfl ⟨a550, a553, h551, h554, (Hp.front (Hp.front (Hp.front hp732 2) 1) 2), (.cons rfl (.cons rfl (.cons rfl (.cons rfl (.cons rfl (.nil'))))))⟩
                    · skip
                      intro x φ758 σ757 hJ
                      obtain ⟨rfl, a743, a746, h744, h747, hp756, hf759⟩ := hJ
                      refine Ec.of (F := [(0, (.ptr bq0 0)), (5, (.ptr b729 0)), (34, a5), (35, (.v (.int .i64 ((p1.f_Kids.length : Nat) : Int)))), (36, (.v (.int .i64 y548)))]) hf759 ?_
                      refine Ec.region ?_
                      refine Eo.val (x := (.ptr bq0 0)) rfl rfl rfl rfl ?_
                      refine Eo.val (x := (.agg [(.v (.int .i64 x722.f_Kind)), (.v (.string x722.f_Word)), (.v (.int .i64 x722.f_Num)), a726])) (op_loadB hp756 1 rfl rfl rfl rfl) rfl rfl rfl ?_
                      obtain ⟨r762, hvr762, H⟩ := bind_some H
                      refine Eo.call rfl rfl rfl rfl (ihR h744 h747 h727 (Hp.front (Hp.front (Hp.front hp756 1) 2) 2) hvr762) ?_
                      rintro _ σ766 ⟨a760, a763, rfl, h761, h764, hp765⟩
                      change Hp σ766 (.blk bq0 (.cells [a760, a763] 59) :: .app a763 5 :: .blk b729 (.cells [(.v (.int .i64 x722.f_Kind)), (.v (.string x722.f_Word)), (.v (.int .i64 x722.f_Num)), a726] 34) :: R) at hp765
                      refine Eo.nil ?_
                      obtain rfl := Option.some.inj H
                      exact And.intro rfl ⟨a760, a763, h761, h764, (Hp.front (Hp.front (Hp.drop hp765 2) 1) 1), (.cons rfl (.cons rfl (.cons rfl (.cons rfl (.nil')))))⟩
                  · skip
                    intro x φ771 σ770 hJ
                    obtain ⟨rfl, a717, a720, h718, h721, hp769, hf772⟩ := hJ
                    refine Ec.of (F := [(0, (.ptr bq0 0)), (34, a5), (35, (.v (.int .i64 ((p1.f_Kids.length : Nat) : Int)))), (36, (.v (.int .i64 y548)))]) hf772 ?_
                    refine Ec.region ?_
                    refine Eo.val (x := (.v (.int .i64 (IntKind.wrap .i64 (y548 + 1))))) rfl rfl rfl rfl ?_
                    refine Eo.val (x := (.v (.int .i64 (IntKind.wrap .i64 (y548 + 1))))) rfl rfl rfl rfl ?_
                    refine Eo.nil ?_
                    exact Ec.of (.cons rfl (.cons rfl (.cons rfl (.cons rfl (.nil'))))) (ih (((IntKind.wrap .i64 (y548 + 1)), x719), (a717, a720)) _ ⟨h718, h721, (Hp.front (Hp.front hp769 1) 1)⟩ H)
                · have H := cond_f hc668 H
                  refine Ec.exit ?_
                  obtain rfl := Option.some.inj H
                  exact And.intro rfl ⟨a550, a553, h551, h554, (Hp.front (Hp.front hp0 1) 1), (.cons rfl (.nil'))⟩
              · skip
                intro x φ779 σ778 hJ
                obtain ⟨rfl, a663, a666, h664, h667, hp777, hf780⟩ := hJ
                refine Ec.of (F := [(0, (.ptr bq0 0))]) hf780 ?_
                refine Ec.region ?_
                refine Eo.val (x := (.ptr bq0 0)) rfl rfl rfl rfl ?_
                obtain ⟨l781, hvl781, H⟩ := bind_some H
                refine Eo.call rfl rfl rfl rfl (bld_WriteByte h664 h667 (Hp.front (Hp.front hp777 1) 1) hvl781) ?_
                rintro _ σ787 ⟨a782, a783, rfl, h784, h785, hp786⟩
                change Hp σ787 (.blk bq0 (.cells [a782, a783] 59) :: .app a783 5 :: R) at hp786
                refine Eo.nil ?_
                obtain rfl := Option.some.inj H
                exact And.intro rfl ⟨a782, a783, h784, h785, (Hp.front (Hp.front hp786 1) 1), (.nil')⟩
            · have H := cond_f hc433 H
              refine Ec.skip ?_
              obtain rfl := Option.some.inj H
              exact And.intro rfl ⟨a1, a3, h2, h4, (Hp.front (Hp.front (Hp.drop hp12 0) 1) 1), (.nil')⟩
    · skip
      intro x φ790 σ789 hJ
      obtain ⟨rfl, a399, a402, h400, h403, hp788, hf791⟩ := hJ
      obtain rfl := Option.some.inj H
      refine Ret.mkNφ (C := cfg) (fn := Tryd.f24) hf791 rfl ?_
      exact ⟨a399, a402, rfl, h400, h403, (Hp.front (Hp.front hp788 1) 1)⟩

theorem gsexp_write_ok {n : Nat} {bq0 : Nat} {p0_1 : (List Int)} {p1 : TTree} {a1 a3 a5 : A} {R : List Res} {σ : St} (h2 : AddrOk a1 bq0) (h4 : BufIs a3 p0_1) (h6 : Sl rTTree a5 p1.f_Kids) (hp : Hp σ (.blk bq0 (.cells [a1, a3] 59) :: .app a3 5 :: R)) {r : (List Int)} (H : gsexp_write n p0_1 p1 = some r) : Ca cfg 24 [(.ptr bq0 0), (.agg [(.v (.int .i64 p1.f_Kind)), (.v (.string p1.f_Word)), (.v (.int .i64 p1.f_Num)), a5])] σ (gsexp_write_post bq0 R r) := gsexp_write_rec_ok n h2 h4 h6 hp H

def gsexp_Print_L1 (N : Nat) (p0 : (List TTree)) : Nat → Int → Int → Int → Option (LR (Int × Int) (ByteArray × Int))
  | 0, _, _, _ => none
  | m + 1, y33, y34, y35 => (cond (decide (y33 < ((p0.length : Nat) : Int))) (((atL p0 y33).bind fun x59 => ((gsexp_sound N x59 0 y34 y35).bind fun v => match v with | (r71, r72, r73) => (cond (!r71) (some (.ret ((ByteArray.mk #[]), 31))) (gsexp_Print_L1 N p0 m (IntKind.wrap .i64 (y33 + 1)) r72 r73))))) (some (.out (y34, y35))))

def gsexp_Print_L2 (N : Nat) (p0 : (List TTree)) : Nat → Int → (List Int) → Option ((List Int))
  | 0, _, _ => none
  | m + 1, y120, y124 => (cond (decide (y120 < ((p0.length : Nat) : Int))) (((atL p0 y120).bind fun x161 => ((gsexp_write N y124 x161).bind fun r175 => ((appL 1 r175 ([10] : List Int)).bind fun l180 => gsexp_Print_L2 N p0 m (IntKind.wrap .i64 (y120 + 1)) l180)))) (some y124))

def gsexp_Print (n : Nat) (p0 : (List TTree)) : Option ((ByteArray × Int)) := ((gsexp_Print_L1 n p0 n 0 0 0).bind fun v => match v with | .out (x56, x57) => (cond ((decide (x56 > 65536)) || (decide (x57 > 32))) (some ((ByteArray.mk #[]), 33)) (((gsexp_Print_L2 n p0 n 0 ([] : List Int)).bind fun x157 => (cond (decide (((x157.length : Nat) : Int) > 262144)) (some ((ByteArray.mk #[]), 33)) (((strT x157).bind fun s194 => some (s194, 0))))))) | .ret r197 => some r197)

def gsexp_Print_post (R : List Res) (r : (ByteArray × Int)) (x : A) (s : St) : Prop := x = (.tup [(.v (.string r.1)), (.v (.int .i64 r.2))]) ∧ Hp s (R)

theorem gsexp_Print_ok {n : Nat} {p0 : (List TTree)} {a1 : A} {R : List Res} {σ : St} (h2 : Sl rTTree a1 p0) (hp : Hp σ R) {r : (ByteArray × Int)} (H : gsexp_Print n p0 = some r) : Ca cfg 17 [a1] σ (gsexp_Print_post R r) := by
  unfold gsexp_Print at H
  refine Ca.enterL (G := [(0, a1)]) Tryd.func17 rfl rfl rfl rfl ?_
  refine Ec.seq ?_
  refine Ec.region ?_
  refine Eo.val (x := (.v (.string (ByteArray.mk #[])))) rfl rfl rfl rfl ?_
  refine Eo.val (x := (.v (.int .i64 0))) rfl rfl rfl rfl ?_
  refine Eo.nil ?_
  refine Ec.seq ?_
  refine Ec.region ?_
  refine Eo.alloc (z := [(.v (.int .i64 0))]) hp rfl rfl rfl rfl rfl ?_
  intro b3 σ5 hp4
  refine Eo.alloc (z := [(.v (.int .i64 0))]) hp4 rfl rfl rfl rfl rfl ?_
  intro b6 σ8 hp7
  refine Eo.store hp7 1 rfl (storeCells_mk rfl rfl rfl rfl rfl rfl) rfl rfl rfl rfl rfl ?_
  intro σ10 hp9
  change Hp σ10 (.blk b6 (.cells [(.v (.int .i64 0))] 3) :: .blk b3 (.cells [(.v (.int .i64 0))] 3) :: R) at hp9
  refine Eo.store hp9 0 rfl (storeCells_mk rfl rfl rfl rfl rfl rfl) rfl rfl rfl rfl rfl ?_
  intro σ12 hp11
  change Hp σ12 (.blk b6 (.cells [(.v (.int .i64 0))] 3) :: .blk b3 (.cells [(.v (.int .i64 0))] 3) :: R) at hp11
  refine Eo.nil ?_
  refine Ec.seq ?_
  refine Ec.seq ?_
  refine Ec.region ?_
  refine Eo.val (x := a1) rfl rfl rfl rfl ?_
  refine Eo.val (x := (.v (.int .i64 ((p0.length : Nat) : Int)))) (op_lenL h2 rfl rfl rfl rfl rfl Tryd.underlying23) rfl rfl rfl ?_
  refine Eo.val (x := (.v (.int .i64 0))) rfl rfl rfl rfl ?_
  refine Eo.nil ?_
  refine Ec.block ?_
  obtain ⟨v78, hv79, H⟩ := bind_some H
  refine Ec.cut (J := (fun (v : LR (Int × Int) (ByteArray × Int)) (x : X) (φ : Fr) (s : St) => match v with | .out (x56, x57) => x = (.exit 0) ∧ (Hp s (.blk b3 (.cells [(.v (.int .i64 x56))] 3) :: .blk b6 (.cells [(.v (.int .i64 x57))] 3) :: R) ∧ Fl [(0, a1), (4, (.ptr b3 0)), (5, (.ptr b6 0))] φ) | .ret r => x = .ret ∧ Ret cfg Tryd.f17 (gsexp_Print_post R r) .ret φ s) v78) (Ec.weak (.cons rfl (.cons rfl (.cons rfl (.cons rfl (.cons rfl (.cons rfl (.nil'))))))) (Ec.loopF (f := (fun m (i : (Int × Int × Int) × Unit) => gsexp_Print_L1 n p0 m i.1.1 i.1.2.1 i.1.2.2)) (G := (fun (i : (Int × Int × Int) × Unit) => ([(0, a1), (4, (.ptr b3 0)), (5, (.ptr b6 0)), (11, a1), (12, (.v (.int .i64 ((p0.length : Nat) : Int)))), (13, (.v (.int .i64 i.1.1)))] : List (Nat × A)))) (I := (fun (i : (Int × Int × Int) × Unit) (s : St) => Hp s (.blk b3 (.cells [(.v (.int .i64 i.1.2.1))] 3) :: .blk b6 (.cells [(.v (.int .i64 i.1.2.2))] 3) :: R))) (J := (fun (v : LR (Int × Int) (ByteArray × Int)) (x : X) (φ : Fr) (s : St) => match v with | .out (x56, x57) => x = (.exit 0) ∧ (Hp s (.blk b3 (.cells [(.v (.int .i64 x56))] 3) :: .blk b6 (.cells [(.v (.int .i64 x57))] 3) :: R) ∧ Fl [(0, a1), (4, (.ptr b3 0)), (5, (.ptr b6 0))] φ) | .ret r => x = .ret ∧ Ret cfg Tryd.f17 (gsexp_Print_post R r) .ret φ s)) (fun _ => rfl) ?_ n ((0, 0, 0), ()) _ v78 (Hp.front hp11 1) hv79)) ?_
  · rintro m ⟨⟨y33, y34, y35⟩, _⟩ σ0 v hp0 H ih
    change gsexp_Print_L1 n p0 (m + 1) y33 y34 y35 = some v at H
    rw [gsexp_Print_L1] at H
    change Ec _ _ _ [(0, a1), (4, (.ptr b3 0)), (5, (.ptr b6 0)), (11, a1), (12, (.v (.int .i64 ((p0.length : Nat) : Int)))), (13, (.v (.int .i64 y33)))] σ0 _
    refine Ec.seq ?_
    refine Ec.region ?_
    refine Eo.val (x := (.v (.bool (decide (y33 < ((p0.length : Nat) : Int)))))) rfl rfl rfl rfl ?_
    refine Eo.nil ?_
    refine Ec.seq ?_
    refine Ec.cond (t := (decide (y33 < ((p0.length : Nat) : Int)))) rfl (fun hc58 => ?_) (fun hc58 => ?_)
    · have H := cond_t hc58 H
      refine Ec.skip ?_
      refine Ec.seq ?_
      refine Ec.block ?_
      refine Ec.seq ?_
      refine Ec.region ?_
      obtain ⟨x59, hvx59, H⟩ := bind_some H
      refine Eo.idx h2 hvx59 rfl rfl rfl Tryd.underlying23 rfl rfl rfl rfl ?_
      intro cs60 p61 _ hat62 hr65
      obtain ⟨a63, rfl, h64⟩ := rTTree_un hr65
      refine Eo.val (x := (.agg [(.v (.int .i64 x59.f_Kind)), (.v (.string x59.f_Word)), (.v (.int .i64 x59.f_Num)), a63])) (op_loadSpAgg hat62 0 rfl rfl rfl rfl rfl rfl) rfl rfl rfl ?_
      refine Eo.alloc (z := [(.v (.int .i64 0)), (.v (.string (ByteArray.mk #[]))), (.v (.int .i64 0)), nilS]) hp0 rfl rfl rfl rfl rfl ?_
      intro b66 σ68 hp67
      refine Eo.store hp67 0 rfl (storeCells_mk rfl rfl rfl (by simp [allOne, A.cells, h64.isOne]) rfl rfl) rfl rfl rfl rfl rfl ?_
      intro σ70 hp69
      change Hp σ70 (.blk b66 (.cells [(.v (.int .i64 x59.f_Kind)), (.v (.string x59.f_Word)), (.v (.int .i64 x59.f_Num)), a63] 34) :: .blk b3 (.cells [(.v (.int .i64 y34))] 3) :: .blk b6 (.cells [(.v (.int .i64 y35))] 3) :: R) at hp69
      refine Eo.nil ?_
      refine Ec.seq ?_
      refine Ec.region ?_
      refine Eo.val (x := (.agg [(.v (.int .i64 x59.f_Kind)), (.v (.string x59.f_Word)), (.v (.int .i64 x59.f_Num)), a63])) (op_loadB hp69 0 rfl rfl rfl rfl) rfl rfl rfl ?_
      obtain ⟨r77, hvr77, H⟩ := bind_some H
      refine Eo.call rfl rfl rfl rfl (gsexp_sound_ok h64 (Hp.front (Hp.front hp69 2) 2) hvr77) ?_
      obtain ⟨r71, r72, r73⟩ := r77
      rintro _ σ75 ⟨rfl, hp74⟩
      change Hp σ75 (.blk b3 (.cells [(.v (.int .i64 r72))] 3) :: .blk b6 (.cells [(.v (.int .i64 r73))] 3) :: .blk b66 (.cells [(.v (.int .i64 x59.f_Kind)), (.v (.string x59.f_Word)), (.v (.int .i64 x59.f_Num)), a63] 34) :: R) at hp74
      refine Eo.val (x := (.v (.bool (!r71)))) rfl rfl rfl rfl ?_
      refine Eo.nil ?_
      refine Ec.cond (t := (!r71)) rfl (fun hc76 => ?_) (fun hc76 => ?_)
      · have H := cond_t hc76 H
        refine Ec.seq ?_
        refine Ec.region ?_
        refine Eo.val (x := (.v (.string (ByteArray.mk #[])))) rfl rfl rfl rfl ?_
        refine Eo.val (x := (.v (.int .i64 31))) rfl rfl rfl rfl ?_
        refine Eo.nil ?_
        obtain rfl := Option.some.inj H
        refine Ec.ret ?_
        refine And.intro rfl (Ret.mk rfl ?_)
        exact ⟨rfl, (Hp.drop (Hp.drop (Hp.drop hp74 0) 0) 0)⟩
      · have H := cond_f hc76 H
        refine Ec.skip ?_
        refine Ec.region ?_
        refine Eo.val (x := (.v (.int .i64 (IntKind.wrap .i64 (y33 + 1))))) rfl rfl rfl rfl ?_
        refine Eo.val (x := (.v (.int .i64 (IntKind.wrap .i64 (y33 + 1))))) rfl rfl rfl rfl ?_
        refine Eo.nil ?_
        exact Ec.of (.cons rfl (.cons rfl (.cons rfl (.cons rfl (.cons rfl (.cons rfl (.nil'))))))) (ih (((IntKind.wrap .i64 (y33 + 1)), r72, r73), ()) _ (Hp.front (Hp.front (Hp.drop hp74 2) 1) 1) H)
    · have H := cond_f hc58 H
      refine Ec.exit ?_
      obtain rfl := Option.some.inj H
      exact And.intro rfl ⟨(Hp.front (Hp.front hp0 1) 1), (.cons rfl (.cons rfl (.cons rfl (.nil'))))⟩
  · rcases v78 with ⟨x56, x57⟩ | r197
    · intro x φ82 σ81 hJ
      obtain ⟨rfl, hp80, hf83⟩ := hJ
      refine Ec.of (F := [(0, a1), (4, (.ptr b3 0)), (5, (.ptr b6 0))]) hf83 ?_
      refine Ec.seq ?_
      refine Ec.seq ?_
      refine Ec.region ?_
      refine Eo.val (x := (.v (.int .i64 x56))) (op_loadB hp80 0 rfl rfl rfl rfl) rfl rfl rfl ?_
      refine Eo.val (x := (.v (.bool (decide (x56 > 65536))))) rfl rfl rfl rfl ?_
      refine Eo.val (x := (.v (.bool (decide (x56 > 65536))))) rfl rfl rfl rfl ?_
      refine Eo.cutF 3 [(0, a1), (26, (.v (.bool ((decide (x56 > 65536)) || (decide (x57 > 32))))))] ?_ ?_
      · skip
        cases hc86 : (decide (x56 > 65536))
        · skip
          refine Eo.val (x := (.v (.int .i64 x57))) (op_loadB hp80 1 rfl rfl rfl rfl) rfl rfl rfl ?_
          refine Eo.val (x := (.v (.bool (decide (x57 > 32))))) rfl rfl rfl rfl ?_
          refine Eo.val (x := (.v (.bool (decide (x57 > 32))))) rfl rfl rfl rfl ?_
          exact Eo.nil (And.intro rfl (And.intro rfl (.cons rfl (.cons rfl (.nil')))))
        · skip
          refine Eo.off rfl rfl rfl ?_
          refine Eo.off rfl rfl rfl ?_
          refine Eo.val (x := (.v (.bool true))) rfl rfl rfl rfl ?_
          exact Eo.nil (And.intro rfl (And.intro rfl (.cons rfl (.cons rfl (.nil')))))
      · skip
        refine Eo.nil ?_
        refine Ec.cond (t := ((decide (x56 > 65536)) || (decide (x57 > 32)))) rfl (fun hc89 => ?_) (fun hc89 => ?_)
        · have H := cond_t hc89 H
          refine Ec.seq ?_
          refine Ec.region ?_
          refine Eo.val (x := (.v (.string (ByteArray.mk #[])))) rfl rfl rfl rfl ?_
          refine Eo.val (x := (.v (.int .i64 33))) rfl rfl rfl rfl ?_
          refine Eo.nil ?_
          obtain rfl := Option.some.inj H
          refine Ec.ret ?_
          refine Ret.mk rfl ?_
          exact ⟨rfl, (Hp.drop (Hp.drop hp80 0) 0)⟩
        · have H := cond_f hc89 H
          refine Ec.skip ?_
          refine Ec.seq ?_
          refine Ec.region ?_
          refine Eo.alloc (z := [(.v (.pointer none)), nilS]) hp80 rfl rfl rfl rfl rfl ?_
          intro b90 σ92 hp91
          refine Eo.nil ?_
          refine Ec.seq ?_
          refine Ec.seq ?_
          refine Ec.region ?_
          refine Eo.val (x := a1) rfl rfl rfl rfl ?_
          refine Eo.val (x := (.v (.int .i64 ((p0.length : Nat) : Int)))) (op_lenL h2 rfl rfl rfl rfl rfl Tryd.underlying23) rfl rfl rfl ?_
          refine Eo.val (x := (.v (.int .i64 0))) rfl rfl rfl rfl ?_
          refine Eo.nil ?_
          refine Ec.block ?_
          obtain ⟨x157, hv188, H⟩ := bind_some H
          refine Ec.cut (J := (fun (x157 : (List Int)) (x : X) (φ : Fr) (s : St) => x = (.exit 2) ∧ (∃ (a155 a158 : A), AddrOk a155 b90 ∧ BufIs a158 x157 ∧ Hp s (.blk b90 (.cells [a155, a158] 59) :: .app a158 5 :: R) ∧ Fl [(8, (.ptr b90 0))] φ)) x157) (Ec.weak (.cons rfl (.cons rfl (.cons rfl (.cons rfl (.nil'))))) (Ec.loopF (f := (fun m (i : (Int × (List Int)) × (A × A)) => gsexp_Print_L2 n p0 m i.1.1 i.1.2)) (G := (fun (i : (Int × (List Int)) × (A × A)) => ([(8, (.ptr b90 0)), (27, a1), (28, (.v (.int .i64 ((p0.length : Nat) : Int)))), (29, (.v (.int .i64 i.1.1)))] : List (Nat × A)))) (I := (fun (i : (Int × (List Int)) × (A × A)) (s : St) => AddrOk i.2.1 b90 ∧ BufIs i.2.2 i.1.2 ∧ Hp s (.blk b90 (.cells [i.2.1, i.2.2] 59) :: .app i.2.2 5 :: R))) (J := (fun (x157 : (List Int)) (x : X) (φ : Fr) (s : St) => x = (.exit 2) ∧ (∃ (a155 a158 : A), AddrOk a155 b90 ∧ BufIs a158 x157 ∧ Hp s (.blk b90 (.cells [a155, a158] 59) :: .app a158 5 :: R) ∧ Fl [(8, (.ptr b90 0))] φ))) (fun _ => rfl) ?_ n ((0, ([] : List Int)), ((.v (.pointer none)), nilS)) _ x157 ⟨(.inl rfl), BufIs.nil, (Hp.front (Hp.appNil (Hp.drop (Hp.drop hp91 1) 1) 5) 1)⟩ hv188)) ?_
          · rintro m ⟨⟨y120, y124⟩, ⟨a122, a125⟩⟩ σ0 v ⟨h123, h126, hp0⟩ H ih
            change gsexp_Print_L2 n p0 (m + 1) y120 y124 = some v at H
            rw [gsexp_Print_L2] at H
            change Ec _ _ _ [(8, (.ptr b90 0)), (27, a1), (28, (.v (.int .i64 ((p0.length : Nat) : Int)))), (29, (.v (.int .i64 y120)))] σ0 _
            refine Ec.seq ?_
            refine Ec.region ?_
            refine Eo.val (x := (.v (.bool (decide (y120 < ((p0.length : Nat) : Int)))))) rfl rfl rfl rfl ?_
            refine Eo.nil ?_
            refine Ec.seq ?_
            refine Ec.cond (t := (decide (y120 < ((p0.length : Nat) : Int)))) rfl (fun hc160 => ?_) (fun hc160 => ?_)
            · have H := cond_t hc160 H
              refine Ec.skip ?_
              refine Ec.seq ?_
              refine Ec.block ?_
              refine Ec.seq ?_
              refine Ec.region ?_
              obtain ⟨x161, hvx161, H⟩ := bind_some H
              refine Eo.idx h2 hvx161 rfl rfl rfl Tryd.underlying23 rfl rfl rfl rfl ?_
              intro cs162 p163 _ hat164 hr167
              obtain ⟨a165, rfl, h166⟩ := rTTree_un hr167
              refine Eo.val (x := (.agg [(.v (.int .i64 x161.f_Kind)), (.v (.string x161.f_Word)), (.v (.int .i64 x161.f_Num)), a165])) (op_loadSpAgg hat164 0 rfl rfl rfl rfl rfl rfl) rfl rfl rfl ?_
              refine Eo.alloc (z := [(.v (.int .i64 0)), (.v (.string (ByteArray.mk #[]))), (.v (.int .i64 0)), nilS]) hp0 rfl rfl rfl rfl rfl ?_
              intro b168 σ170 hp169
              refine Eo.store hp169 0 rfl (storeCells_mk rfl rfl rfl (by simp [allOne, A.cells, h166.isOne]) rfl rfl) rfl rfl rfl rfl rfl ?_
              intro σ172 hp171
              change Hp σ172 (.blk b168 (.cells [(.v (.int .i64 x161.f_Kind)), (.v (.string x161.f_Word)), (.v (.int .i64 x161.f_Num)), a165] 34) :: .blk b90 (.cells [a122, a125] 59) :: .app a125 5 :: R) at hp171
              refine Eo.nil ?_
              refine Ec.seq ?_
              refine Ec.region ?_
              refine Eo.val (x := (.agg [(.v (.int .i64 x161.f_Kind)), (.v (.string x161.f_Word)), (.v (.int .i64 x161.f_Num)), a165])) (op_loadB hp171 0 rfl rfl rfl rfl) rfl rfl rfl ?_
              obtain ⟨r175, hvr175, H⟩ := bind_some H
              refine Eo.call rfl rfl rfl rfl (gsexp_write_ok h123 h126 h166 (Hp.front (Hp.front hp171 2) 2) hvr175) ?_
              rintro _ σ179 ⟨a173, a176, rfl, h174, h177, hp178⟩
              change Hp σ179 (.blk b90 (.cells [a173, a176] 59) :: .app a176 5 :: .blk b168 (.cells [(.v (.int .i64 x161.f_Kind)), (.v (.string x161.f_Word)), (.v (.int .i64 x161.f_Num)), a165] 34) :: R) at hp178
              refine Eo.nil ?_
              refine Ec.region ?_
              obtain ⟨l180, hvl180, H⟩ := bind_some H
              refine Eo.call rfl rfl rfl rfl (bld_WriteByte h174 h177 (Hp.front (Hp.front (Hp.front hp178 2) 2) 2) hvl180) ?_
              rintro _ σ186 ⟨a181, a182, rfl, h183, h184, hp185⟩
              change Hp σ186 (.blk b90 (.cells [a181, a182] 59) :: .app a182 5 :: .blk b168 (.cells [(.v (.int .i64 x161.f_Kind)), (.v (.string x161.f_Word)), (.v (.int .i64 x161.f_Num)), a165] 34) :: R) at hp185
              refine Eo.nil ?_
              refine Ec.region ?_
              refine Eo.val (x := (.v (.int .i64 (IntKind.wrap .i64 (y120 + 1))))) rfl rfl rfl rfl ?_
              refine Eo.val (x := (.v (.int .i64 (IntKind.wrap .i64 (y120 + 1))))) rfl rfl rfl rfl ?_
              refine Eo.nil ?_
              exact Ec.of (.cons rfl (.cons rfl (.cons rfl (.cons rfl (.nil'))))) (ih (((IntKind.wrap .i64 (y120 + 1)), l180), (a181, a182)) _ ⟨h183, h184, (Hp.front (Hp.front (Hp.drop hp185 2) 1) 1)⟩ H)
            · have H := cond_f hc160 H
              refine Ec.exit ?_
              obtain rfl := Option.some.inj H
              exact And.intro rfl ⟨a122, a125, h123, h126, (Hp.front (Hp.front hp0 1) 1), (.cons rfl (.nil'))⟩
          · skip
            intro x φ191 σ190 hJ
            obtain ⟨rfl, a155, a158, h156, h159, hp189, hf192⟩ := hJ
            refine Ec.of (F := [(8, (.ptr b90 0))]) hf192 ?_
            refine Ec.seq ?_
            refine Ec.seq ?_
            refine Ec.region ?_
            refine Eo.call rfl rfl rfl rfl (bld_Len h159 hp189 0 rfl) ?_
            rintro _ _ ⟨rfl, rfl⟩
            refine Eo.val (x := (.v (.bool (decide (((x157.length : Nat) : Int) > 262144))))) rfl rfl rfl rfl ?_
            refine Eo.nil ?_
            refine Ec.cond (t := (decide (((x157.length : Nat) : Int) > 262144))) rfl (fun hc193 => ?_) (fun hc193 => ?_)
            · have H := cond_t hc193 H
              refine Ec.seq ?_
              refine Ec.region ?_
              refine Eo.val (x := (.v (.string (ByteArray.mk #[])))) rfl rfl rfl rfl ?_
              refine Eo.val (x := (.v (.int .i64 33))) rfl rfl rfl rfl ?_
              refine Eo.nil ?_
              obtain rfl := Option.some.inj H
              refine Ec.ret ?_
              refine Ret.mk rfl ?_
              exact ⟨rfl, (Hp.drop (Hp.drop hp189 0) 0)⟩
            · have H := cond_f hc193 H
              refine Ec.skip ?_
              refine Ec.seq ?_
              refine Ec.region ?_
              obtain ⟨s194, hvs194, H⟩ := bind_some H
              refine Eo.call rfl rfl rfl rfl (bld_String h156 h159 (Hp.front (Hp.front hp189 1) 1) hvs194) ?_
              rintro _ σ196 ⟨rfl, hp195⟩
              change Hp σ196 (.blk b90 (.cells [a155, a158] 59) :: .app a158 5 :: R) at hp195
              refine Eo.val (x := (.v (.string s194))) rfl rfl rfl rfl ?_
              refine Eo.val (x := (.v (.int .i64 0))) rfl rfl rfl rfl ?_
              refine Eo.nil ?_
              obtain rfl := Option.some.inj H
              refine Ec.ret ?_
              refine Ret.mk rfl ?_
              exact ⟨rfl, (Hp.drop (Hp.drop hp195 0) 0)⟩
    · intro x φ198 σ199 hJ
      obtain rfl := Option.some.inj H
      obtain ⟨rfl, hr⟩ := hJ
      exact hr

def gdovetailref03_Same_L1 (N : Nat) (rec : (List TTree) → (List TTree) → Option Bool) (p0 : (List TTree)) (p1 : (List TTree)) : Nat → Int → Option (LR Unit Bool)
  | 0, _ => none
  | m + 1, y139 => (cond (decide (y139 < ((p0.length : Nat) : Int))) (((((atL p0 y139).bind fun x337 => ((atL p1 y139).bind fun x344 => (cond (x337.f_Kind != x344.f_Kind) (some true) (((atL p0 y139).bind fun x352 => ((atL p1 y139).bind fun x359 => (cond (!decide (x352.f_Word = x359.f_Word)) (some true) (((atL p0 y139).bind fun x367 => ((atL p1 y139).bind fun x374 => (cond (x367.f_Num != x374.f_Num) (some true) (((atL p0 y139).bind fun x382 => ((atL p1 y139).bind fun x389 => ((rec x382.f_Kids x389.f_Kids).bind fun r396 => some (!r396)))))))))))))))) : Option (Bool)).bind fun x336 => (cond x336 (some (.ret false)) (gdovetailref03_Same_L1 N rec p0 p1 m (IntKind.wrap .i64 (y139 + 1)))))) (some (.out ())))

def gdovetailref03_Same_rec (N : Nat) : Nat → (List TTree) → (List TTree) → Option Bool
  | 0, _, _ => none
  | k + 1, p0, p1 => (cond (((p0.length : Nat) : Int) != ((p1.length : Nat) : Int)) (some false) (((gdovetailref03_Same_L1 N (gdovetailref03_Same_rec N k) p0 p1 N 0).bind fun v => match v with | .out _ => some true | .ret r412 => some r412)))

def gdovetailref03_Same (n : Nat) (p0 : (List TTree)) (p1 : (List TTree)) : Option (Bool) := gdovetailref03_Same_rec n n p0 p1

def gdovetailref03_Same_post (R : List Res) (r : Bool) (x : A) (s : St) : Prop := x = (.v (.bool r)) ∧ Hp s (R)

theorem gdovetailref03_Same_rec_ok {n : Nat} : ∀ (k : Nat) {p0 : (List TTree)} {p1 : (List TTree)} {a1 a3 : A} {R : List Res} {σ : St} (_h2 : Sl rTTree a1 p0) (_h4 : Sl rTTree a3 p1) (_hp : Hp σ R) {r : Bool} (_H : gdovetailref03_Same_rec n k p0 p1 = some r), Ca cfg 12 [a1, a3] σ (gdovetailref03_Same_post R r) := by
  intro k
  induction k with
  | zero => intro p0 p1 a1 a3 R σ h2 h4 hp r H; rw [gdovetailref03_Same_rec] at H; cases H
  | succ k ihR =>
    intro p0 p1 a1 a3 R σ h2 h4 hp r H
    rw [gdovetailref03_Same_rec] at H
    refine Ca.enterL (G := [(0, a1), (1, a3)]) Tryd.func12 rfl rfl rfl rfl ?_
    refine Ec.seq ?_
    refine Ec.region ?_
    refine Eo.val (x := (.v (.bool false))) rfl rfl rfl rfl ?_
    refine Eo.nil ?_
    refine Ec.seq ?_
    refine Ec.seq ?_
    refine Ec.region ?_
    refine Eo.val (x := a1) rfl rfl rfl rfl ?_
    refine Eo.val (x := (.v (.int .i64 ((p0.length : Nat) : Int)))) (op_lenL h2 rfl rfl rfl rfl rfl Tryd.underlying23) rfl rfl rfl ?_
    refine Eo.val (x := a3) rfl rfl rfl rfl ?_
    refine Eo.val (x := (.v (.int .i64 ((p1.length : Nat) : Int)))) (op_lenL h4 rfl rfl rfl rfl rfl Tryd.underlying23) rfl rfl rfl ?_
    refine Eo.val (x := (.v (.bool (((p0.length : Nat) : Int) != ((p1.length : Nat) : Int))))) rfl rfl rfl rfl ?_
    refine Eo.nil ?_
    refine Ec.cond (t := (((p0.length : Nat) : Int) != ((p1.length : Nat) : Int))) rfl (fun hc5 => ?_) (fun hc5 => ?_)
    · have H := cond_t hc5 H
      refine Ec.seq ?_
      refine Ec.region ?_
      refine Eo.val (x := (.v (.bool false))) rfl rfl rfl rfl ?_
      refine Eo.nil ?_
      obtain rfl := Option.some.inj H
      refine Ec.ret ?_
      refine Ret.mk rfl ?_
      exact ⟨rfl, hp⟩
    · have H := cond_f hc5 H
      refine Ec.skip ?_
      refine Ec.seq ?_
      refine Ec.seq ?_
      refine Ec.region ?_
      refine Eo.val (x := a1) rfl rfl rfl rfl ?_
      refine Eo.val (x := (.v (.int .i64 ((p0.length : Nat) : Int)))) (op_lenL h2 rfl rfl rfl rfl rfl Tryd.underlying23) rfl rfl rfl ?_
      refine Eo.val (x := (.v (.int .i64 0))) rfl rfl rfl rfl ?_
      refine Eo.nil ?_
      refine Ec.block ?_
      obtain ⟨v406, hv407, H⟩ := bind_some H
      refine Ec.cut (J := (fun (v : LR Unit Bool) (x : X) (φ : Fr) (s : St) => match v with | .out _ => x = (.exit 0) ∧ (Hp s (R) ∧ Fl [] φ) | .ret r => x = .ret ∧ Ret cfg Tryd.f12 (gdovetailref03_Same_post R r) .ret φ s) v406) (Ec.weak (.cons rfl (.cons rfl (.cons rfl (.cons rfl (.nil'))))) (Ec.loopF (f := (fun m (i : Int × Unit) => gdovetailref03_Same_L1 n (gdovetailref03_Same_rec n k) p0 p1 m i.1)) (G := (fun (i : Int × Unit) => ([(0, a1), (1, a3), (12, (.v (.int .i64 ((p0.length : Nat) : Int)))), (13, (.v (.int .i64 i.1)))] : List (Nat × A)))) (I := (fun (i : Int × Unit) (s : St) => Hp s (R))) (J := (fun (v : LR Unit Bool) (x : X) (φ : Fr) (s : St) => match v with | .out _ => x = (.exit 0) ∧ (Hp s (R) ∧ Fl [] φ) | .ret r => x = .ret ∧ Ret cfg Tryd.f12 (gdovetailref03_Same_post R r) .ret φ s)) (fun _ => rfl) ?_ n (0, ()) _ v406 hp hv407)) ?_
      · rintro m ⟨y139, _⟩ σ0 v hp0 H ih
        change gdovetailref03_Same_L1 n (gdovetailref03_Same_rec n k) p0 p1 (m + 1) y139 = some v at H
        rw [gdovetailref03_Same_L1] at H
        change Ec _ _ _ [(0, a1), (1, a3), (12, (.v (.int .i64 ((p0.length : Nat) : Int)))), (13, (.v (.int .i64 y139)))] σ0 _
        refine Ec.seq ?_
        refine Ec.region ?_
        refine Eo.val (x := (.v (.bool (decide (y139 < ((p0.length : Nat) : Int)))))) rfl rfl rfl rfl ?_
        refine Eo.nil ?_
        refine Ec.seq ?_
        refine Ec.cond (t := (decide (y139 < ((p0.length : Nat) : Int)))) rfl (fun hc273 => ?_) (fun hc273 => ?_)
        · have H := cond_t hc273 H
          refine Ec.skip ?_
          refine Ec.seq ?_
          refine Ec.block ?_
          refine Ec.seq ?_
          refine Ec.region ?_
          refine Eo.val (x := (.v (.int .i64 y139))) rfl rfl rfl rfl ?_
          refine Eo.val (x := (.v (.int .i64 y139))) rfl rfl rfl rfl ?_
          refine Eo.nil ?_
          refine Ec.seq ?_
          obtain ⟨x336, hv405, H⟩ := bind_some H
          refine Ec.cut (J := (fun (x336 : Bool) (x : X) (φ : Fr) (s : St) => x = .normal ∧ (Hp s (R) ∧ Fl [(0, a1), (1, a3), (12, (.v (.int .i64 ((p0.length : Nat) : Int)))), (13, (.v (.int .i64 y139))), (66, (.v (.bool x336)))] φ)) x336) ?_ ?_
          · have H := hv405
            refine Ec.drawn2 (by kernel_rfl) ?_
            refine Eo.val (x := a1) rfl rfl rfl rfl ?_
            refine Eo.val (x := (.v (.int .i64 y139))) rfl rfl rfl rfl ?_
            obtain ⟨x337, hvx337, H⟩ := bind_some H
            refine Eo.idx h2 hvx337 rfl rfl rfl Tryd.underlying23 rfl rfl rfl rfl ?_
            intro cs338 p339 _ hat340 hr343
            obtain ⟨a341, rfl, h342⟩ := rTTree_un hr343
            refine Eo.val (x := (.sp cs338 p339 .no)) rfl rfl rfl rfl ?_
            refine Eo.val (x := (.v (.int .i64 x337.f_Kind))) (op_loadSp hat340 0 rfl rfl rfl rfl rfl) rfl rfl rfl ?_
            refine Eo.val (x := a3) rfl rfl rfl rfl ?_
            refine Eo.val (x := (.v (.int .i64 y139))) rfl rfl rfl rfl ?_
            obtain ⟨x344, hvx344, H⟩ := bind_some H
            refine Eo.idx h4 hvx344 rfl rfl rfl Tryd.underlying23 rfl rfl rfl rfl ?_
            intro cs345 p346 _ hat347 hr350
            obtain ⟨a348, rfl, h349⟩ := rTTree_un hr350
            refine Eo.val (x := (.sp cs345 p346 .no)) rfl rfl rfl rfl ?_
            refine Eo.val (x := (.v (.int .i64 x344.f_Kind))) (op_loadSp hat347 0 rfl rfl rfl rfl rfl) rfl rfl rfl ?_
            refine Eo.val (x := (.v (.bool (x337.f_Kind != x344.f_Kind)))) rfl rfl rfl rfl ?_
            refine Eo.val (x := (.v (.bool (x337.f_Kind != x344.f_Kind)))) rfl rfl rfl rfl ?_
            cases hc351 : (x337.f_Kind != x344.f_Kind)
            · have H := cond_f hc351 H
              refine Eo.val (x := a1) rfl rfl rfl rfl ?_
              refine Eo.val (x := (.v (.int .i64 y139))) rfl rfl rfl rfl ?_
              obtain ⟨x352, hvx352, H⟩ := bind_some H
              refine Eo.idx h2 hvx352 rfl rfl rfl Tryd.underlying23 rfl rfl rfl rfl ?_
              intro cs353 p354 _ hat355 hr358
              obtain ⟨a356, rfl, h357⟩ := rTTree_un hr358
              refine Eo.val (x := (.sp cs353 (p354 + 1) .no)) rfl rfl rfl rfl ?_
              refine Eo.val (x := (.v (.string x352.f_Word))) (op_loadSp hat355 1 rfl rfl rfl rfl rfl) rfl rfl rfl ?_
              refine Eo.val (x := a3) rfl rfl rfl rfl ?_
              refine Eo.val (x := (.v (.int .i64 y139))) rfl rfl rfl rfl ?_
              obtain ⟨x359, hvx359, H⟩ := bind_some H
              refine Eo.idx h4 hvx359 rfl rfl rfl Tryd.underlying23 rfl rfl rfl rfl ?_
              intro cs360 p361 _ hat362 hr365
              obtain ⟨a363, rfl, h364⟩ := rTTree_un hr365
              refine Eo.val (x := (.sp cs360 (p361 + 1) .no)) rfl rfl rfl rfl ?_
              refine Eo.val (x := (.v (.string x359.f_Word))) (op_loadSp hat362 1 rfl rfl rfl rfl rfl) rfl rfl rfl ?_
              refine Eo.val (x := (.v (.bool (!decide (x352.f_Word = x359.f_Word))))) (val_b rfl (sne_eq _ _)) rfl rfl rfl ?_
              refine Eo.val (x := (.v (.bool (!decide (x352.f_Word = x359.f_Word))))) rfl rfl rfl rfl ?_
              refine Eo.val (x := (.v (.bool (!decide (x352.f_Word = x359.f_Word))))) rfl rfl rfl rfl ?_
              cases hc366 : (!decide (x352.f_Word = x359.f_Word))
              · have H := cond_f hc366 H
                refine Eo.val (x := a1) rfl rfl rfl rfl ?_
                refine Eo.val (x := (.v (.int .i64 y139))) rfl rfl rfl rfl ?_
                obtain ⟨x367, hvx367, H⟩ := bind_some H
                refine Eo.idx h2 hvx367 rfl rfl rfl Tryd.underlying23 rfl rfl rfl rfl ?_
                intro cs368 p369 _ hat370 hr373
                obtain ⟨a371, rfl, h372⟩ := rTTree_un hr373
                refine Eo.val (x := (.sp cs368 (p369 + 2) .no)) rfl rfl rfl rfl ?_
                refine Eo.val (x := (.v (.int .i64 x367.f_Num))) (op_loadSp hat370 2 rfl rfl rfl rfl rfl) rfl rfl rfl ?_
                refine Eo.val (x := a3) rfl rfl rfl rfl ?_
                refine Eo.val (x := (.v (.int .i64 y139))) rfl rfl rfl rfl ?_
                obtain ⟨x374, hvx374, H⟩ := bind_some H
                refine Eo.idx h4 hvx374 rfl rfl rfl Tryd.underlying23 rfl rfl rfl rfl ?_
                intro cs375 p376 _ hat377 hr380
                obtain ⟨a378, rfl, h379⟩ := rTTree_un hr380
                refine Eo.val (x := (.sp cs375 (p376 + 2) .no)) rfl rfl rfl rfl ?_
                refine Eo.val (x := (.v (.int .i64 x374.f_Num))) (op_loadSp hat377 2 rfl rfl rfl rfl rfl) rfl rfl rfl ?_
                refine Eo.val (x := (.v (.bool (x367.f_Num != x374.f_Num)))) rfl rfl rfl rfl ?_
                refine Eo.val (x := (.v (.bool (x367.f_Num != x374.f_Num)))) rfl rfl rfl rfl ?_
                refine Eo.val (x := (.v (.bool (x367.f_Num != x374.f_Num)))) rfl rfl rfl rfl ?_
                cases hc381 : (x367.f_Num != x374.f_Num)
                · have H := cond_f hc381 H
                  refine Eo.val (x := a1) rfl rfl rfl rfl ?_
                  refine Eo.val (x := (.v (.int .i64 y139))) rfl rfl rfl rfl ?_
                  obtain ⟨x382, hvx382, H⟩ := bind_some H
                  refine Eo.idx h2 hvx382 rfl rfl rfl Tryd.underlying23 rfl rfl rfl rfl ?_
                  intro cs383 p384 _ hat385 hr388
                  obtain ⟨a386, rfl, h387⟩ := rTTree_un hr388
                  refine Eo.val (x := (.sp cs383 (p384 + 3) .no)) rfl rfl rfl rfl ?_
                  refine Eo.val (x := a386) (op_loadSp hat385 3 rfl rfl rfl rfl rfl) rfl rfl rfl ?_
                  refine Eo.val (x := a3) rfl rfl rfl rfl ?_
                  refine Eo.val (x := (.v (.int .i64 y139))) rfl rfl rfl rfl ?_
                  obtain ⟨x389, hvx389, H⟩ := bind_some H
                  refine Eo.idx h4 hvx389 rfl rfl rfl Tryd.underlying23 rfl rfl rfl rfl ?_
                  intro cs390 p391 _ hat392 hr395
                  obtain ⟨a393, rfl, h394⟩ := rTTree_un hr395
                  refine Eo.val (x := (.sp cs390 (p391 + 3) .no)) rfl rfl rfl rfl ?_
                  refine Eo.val (x := a393) (op_loadSp hat392 3 rfl rfl rfl rfl rfl) rfl rfl rfl ?_
                  obtain ⟨r396, hvr396, H⟩ := bind_some H
                  refine Eo.call rfl rfl rfl rfl (ihR h387 h394 hp0 hvr396) ?_
                  rintro _ σ398 ⟨rfl, hp397⟩
                  change Hp σ398 (R) at hp397
                  refine Eo.val (x := (.v (.bool (!r396)))) rfl rfl rfl rfl ?_
                  refine Eo.val (x := (.v (.bool (!r396)))) rfl rfl rfl rfl ?_
                  refine Eo.nil ?_
                  obtain rfl := Option.some.inj H
                  exact And.intro rfl (And.intro rfl ⟨hp397, (.cons rfl (.cons rfl (.cons rfl (.cons rfl (.cons rfl (.nil'))))))⟩)
                · have H := cond_t hc381 H
                  refine Eo.off rfl rfl rfl ?_
                  refine Eo.off rfl rfl rfl ?_
                  refine Eo.off rfl rfl rfl ?_
                  refine Eo.off rfl rfl rfl ?_
                  refine Eo.off rfl rfl rfl ?_
                  refine Eo.off rfl rfl rfl ?_
                  refine Eo.off rfl rfl rfl ?_
                  refine Eo.off rfl rfl rfl ?_
                  refine Eo.off rfl rfl rfl ?_
                  refine Eo.off rfl rfl rfl ?_
                  refine Eo.off rfl rfl rfl ?_
                  refine Eo.off rfl rfl rfl ?_
                  refine Eo.val (x := (.v (.bool true))) rfl rfl rfl rfl ?_
                  refine Eo.nil ?_
                  obtain rfl := Option.some.inj H
                  exact And.intro rfl (And.intro rfl ⟨hp0, (.cons rfl (.cons rfl (.cons rfl (.cons rfl (.cons rfl (.nil'))))))⟩)
              · have H := cond_t hc366 H
                refine Eo.off rfl rfl rfl ?_
                refine Eo.off rfl rfl rfl ?_
                refine Eo.off rfl rfl rfl ?_
                refine Eo.off rfl rfl rfl ?_
                refine Eo.off rfl rfl rfl ?_
                refine Eo.off rfl rfl rfl ?_
                refine Eo.off rfl rfl rfl ?_
                refine Eo.off rfl rfl rfl ?_
                refine Eo.off rfl rfl rfl ?_
                refine Eo.off rfl rfl rfl ?_
                refine Eo.off rfl rfl rfl ?_
                refine Eo.val (x := (.v (.bool true))) rfl rfl rfl rfl ?_
                refine Eo.val (x := (.v (.bool true))) rfl rfl rfl rfl ?_
                refine Eo.off rfl rfl rfl ?_
                refine Eo.off rfl rfl rfl ?_
                refine Eo.off rfl rfl rfl ?_
                refine Eo.off rfl rfl rfl ?_
                refine Eo.off rfl rfl rfl ?_
                refine Eo.off rfl rfl rfl ?_
                refine Eo.off rfl rfl rfl ?_
                refine Eo.off rfl rfl rfl ?_
                refine Eo.off rfl rfl rfl ?_
                refine Eo.off rfl rfl rfl ?_
                refine Eo.off rfl rfl rfl ?_
                refine Eo.off rfl rfl rfl ?_
                refine Eo.val (x := (.v (.bool true))) rfl rfl rfl rfl ?_
                refine Eo.nil ?_
                obtain rfl := Option.some.inj H
                exact And.intro rfl (And.intro rfl ⟨hp0, (.cons rfl (.cons rfl (.cons rfl (.cons rfl (.cons rfl (.nil'))))))⟩)
            · have H := cond_t hc351 H
              refine Eo.off rfl rfl rfl ?_
              refine Eo.off rfl rfl rfl ?_
              refine Eo.off rfl rfl rfl ?_
              refine Eo.off rfl rfl rfl ?_
              refine Eo.off rfl rfl rfl ?_
              refine Eo.off rfl rfl rfl ?_
              refine Eo.off rfl rfl rfl ?_
              refine Eo.off rfl rfl rfl ?_
              refine Eo.off rfl rfl rfl ?_
              refine Eo.off rfl rfl rfl ?_
              refine Eo.off rfl rfl rfl ?_
              refine Eo.val (x := (.v (.bool true))) rfl rfl rfl rfl ?_
              refine Eo.val (x := (.v (.bool true))) rfl rfl rfl rfl ?_
              refine Eo.off rfl rfl rfl ?_
              refine Eo.off rfl rfl rfl ?_
              refine Eo.off rfl rfl rfl ?_
              refine Eo.off rfl rfl rfl ?_
              refine Eo.off rfl rfl rfl ?_
              refine Eo.off rfl rfl rfl ?_
              refine Eo.off rfl rfl rfl ?_
              refine Eo.off rfl rfl rfl ?_
              refine Eo.off rfl rfl rfl ?_
              refine Eo.off rfl rfl rfl ?_
              refine Eo.off rfl rfl rfl ?_
              refine Eo.val (x := (.v (.bool true))) rfl rfl rfl rfl ?_
              refine Eo.val (x := (.v (.bool true))) rfl rfl rfl rfl ?_
              refine Eo.off rfl rfl rfl ?_
              refine Eo.off rfl rfl rfl ?_
              refine Eo.off rfl rfl rfl ?_
              refine Eo.off rfl rfl rfl ?_
              refine Eo.off rfl rfl rfl ?_
              refine Eo.off rfl rfl rfl ?_
              refine Eo.off rfl rfl rfl ?_
              refine Eo.off rfl rfl rfl ?_
              refine Eo.off rfl rfl rfl ?_
              refine Eo.off rfl rfl rfl ?_
              refine Eo.off rfl rfl rfl ?_
              refine Eo.off rfl rfl rfl ?_
              refine Eo.val (x := (.v (.bool true))) rfl rfl rfl rfl ?_
              refine Eo.nil ?_
              obtain rfl := Option.some.inj H
              exact And.intro rfl (And.intro rfl ⟨hp0, (.cons rfl (.cons rfl (.cons rfl (.cons rfl (.cons rfl (.nil'))))))⟩)
          · skip
            intro x φ401 σ400 hJ
            obtain ⟨rfl, hp399, hf402⟩ := hJ
            refine Ec.of (F := [(0, a1), (1, a3), (12, (.v (.int .i64 ((p0.length : Nat) : Int)))), (13, (.v (.int .i64 y139))), (66, (.v (.bool x336)))]) hf402 ?_
            refine Ec.cond (t := x336) rfl (fun hc403 => ?_) (fun hc403 => ?_)
            · have H := cond_t hc403 H
              refine Ec.seq ?_
              refine Ec.region ?_
              refine Eo.val (x := (.v (.bool false))) rfl rfl rfl rfl ?_
              refine Eo.nil ?_
              obtain rfl := Option.some.inj H
              refine Ec.ret ?_
              refine And.intro rfl (Ret.mk rfl ?_)
              exact ⟨rfl, hp399⟩
            · have H := cond_f hc403 H
              refine Ec.skip ?_
              refine Ec.region ?_
              refine Eo.val (x := (.v (.int .i64 (IntKind.wrap .i64 (y139 + 1))))) rfl rfl rfl rfl ?_
              refine Eo.val (x := (.v (.int .i64 (IntKind.wrap .i64 (y139 + 1))))) rfl rfl rfl rfl ?_
              refine Eo.nil ?_
              exact Ec.of (.cons rfl (.cons rfl (.cons rfl (.cons rfl (.nil'))))) (ih ((IntKind.wrap .i64 (y139 + 1)), ()) _ hp399 H)
        · have H := cond_f hc273 H
          refine Ec.exit ?_
          obtain rfl := Option.some.inj H
          exact And.intro rfl ⟨hp0, (.nil')⟩
      · rcases v406 with _ | r412
        · intro x φ410 σ409 hJ
          obtain ⟨rfl, hp408, hf411⟩ := hJ
          refine Ec.of (F := []) hf411 ?_
          refine Ec.seq ?_
          refine Ec.region ?_
          refine Eo.val (x := (.v (.bool true))) rfl rfl rfl rfl ?_
          refine Eo.nil ?_
          obtain rfl := Option.some.inj H
          refine Ec.ret ?_
          refine Ret.mk rfl ?_
          exact ⟨rfl, hp408⟩
        · intro x φ413 σ414 hJ
          obtain rfl := Option.some.inj H
          obtain ⟨rfl, hr⟩ := hJ
          exact hr

theorem gdovetailref03_Same_ok {n : Nat} {p0 : (List TTree)} {p1 : (List TTree)} {a1 a3 : A} {R : List Res} {σ : St} (h2 : Sl rTTree a1 p0) (h4 : Sl rTTree a3 p1) (hp : Hp σ R) {r : Bool} (H : gdovetailref03_Same n p0 p1 = some r) : Ca cfg 12 [a1, a3] σ (gdovetailref03_Same_post R r) := gdovetailref03_Same_rec_ok n h2 h4 hp H

def gdovetaillaw03_SexpTwice (n : Nat) (p0 : ByteArray) : Option (Bool) := ((gdovetaillaw03_sexpAlive n ).bind fun r1 => (cond (!r1) (some false) (((gsexp_Parse n p0).bind fun v => match v with | (r6, _r7, r8) => (cond (r8 != 0) (some (((r6.length : Nat) : Int) == 0)) (((gsexp_Print n r6).bind fun v => match v with | (r15, r16) => (cond (r16 != 0) (some (r16 == 33)) (((gsexp_Parse n r15).bind fun v => match v with | (r21, _r22, r23) => (((cond (r23 != 0) (some true) (((gdovetailref03_Same n r6 r21).bind fun r34 => some (!r34)))) : Option (Bool)).bind fun x32 => (cond x32 (some false) ((cond (decide (((r15.size : Nat) : Int) > 262000)) (some true) (((catS (ByteArray.mk #[59, 32, 114, 101, 109, 97, 114, 107, 32, 40, 10, 32, 10]) r15).bind fun s43 => ((catS s43 (ByteArray.mk #[32, 59, 32, 34])).bind fun s44 => ((gsexp_Parse n s44).bind fun v => match v with | (r46, _r47, r48) => (((cond (r48 == 0) (((gdovetailref03_Same n r6 r46).bind fun r59 => some r59)) (some false)) : Option (Bool)).bind fun x57 => some x57)))))))))))))))))))

def gdovetaillaw03_SexpTwice_post (R : List Res) (r : Bool) (x : A) (s : St) : Prop := x = (.v (.bool r)) ∧ Hp s (R)

theorem gdovetaillaw03_SexpTwice_ok {n : Nat} {p0 : ByteArray} {R : List Res} {σ : St} (hp : Hp σ R) {r : Bool} (H : gdovetaillaw03_SexpTwice n p0 = some r) : Ca cfg 8 [(.v (.string p0))] σ (gdovetaillaw03_SexpTwice_post R r) := by
  unfold gdovetaillaw03_SexpTwice at H
  refine Ca.enterL (G := [(0, (.v (.string p0)))]) Tryd.func8 rfl rfl rfl rfl ?_
  refine Ec.seq ?_
  refine Ec.region ?_
  refine Eo.val (x := (.v (.bool false))) rfl rfl rfl rfl ?_
  refine Eo.nil ?_
  refine Ec.seq ?_
  refine Ec.seq ?_
  refine Ec.region ?_
  obtain ⟨r1, hvr1, H⟩ := bind_some H
  refine Eo.call rfl rfl rfl rfl (gdovetaillaw03_sexpAlive_ok hp hvr1) ?_
  rintro _ σ3 ⟨rfl, hp2⟩
  refine Eo.val (x := (.v (.bool (!r1)))) rfl rfl rfl rfl ?_
  refine Eo.nil ?_
  refine Ec.cond (t := (!r1)) rfl (fun hc4 => ?_) (fun hc4 => ?_)
  · have H := cond_t hc4 H
    refine Ec.seq ?_
    refine Ec.region ?_
    refine Eo.val (x := (.v (.bool false))) rfl rfl rfl rfl ?_
    refine Eo.nil ?_
    obtain rfl := Option.some.inj H
    refine Ec.ret ?_
    refine Ret.mk rfl ?_
    exact ⟨rfl, hp2⟩
  · have H := cond_f hc4 H
    refine Ec.skip ?_
    refine Ec.seq ?_
    refine Ec.region ?_
    refine Eo.val (x := (.v (.string p0))) rfl rfl rfl rfl ?_
    obtain ⟨r5, hvr5, H⟩ := bind_some H
    refine Eo.call rfl rfl rfl rfl (gsexp_Parse_ok hp2 hvr5) ?_
    obtain ⟨r6, r7, r8⟩ := r5
    rintro _ σ12 ⟨a9, rfl, h10, hp11⟩
    change Hp σ12 (.app a9 34 :: R) at hp11
    refine Eo.val (x := (.tup [a9, (.v (.int .i64 r7)), (.v (.int .i64 r8))])) rfl rfl rfl rfl ?_
    refine Eo.val (x := a9) rfl rfl rfl rfl ?_
    refine Eo.val (x := (.v (.int .i64 r7))) rfl rfl rfl rfl ?_
    refine Eo.val (x := (.v (.int .i64 r8))) rfl rfl rfl rfl ?_
    refine Eo.val (x := a9) rfl rfl rfl rfl ?_
    refine Eo.val (x := (.v (.int .i64 r7))) rfl rfl rfl rfl ?_
    refine Eo.val (x := (.v (.int .i64 r8))) rfl rfl rfl rfl ?_
    refine Eo.nil ?_
    refine Ec.seq ?_
    refine Ec.seq ?_
    refine Ec.region ?_
    refine Eo.val (x := (.v (.int .i64 r8))) rfl rfl rfl rfl ?_
    refine Eo.val (x := (.v (.bool (r8 != 0)))) rfl rfl rfl rfl ?_
    refine Eo.nil ?_
    refine Ec.cond (t := (r8 != 0)) rfl (fun hc13 => ?_) (fun hc13 => ?_)
    · have H := cond_t hc13 H
      refine Ec.seq ?_
      refine Ec.region ?_
      refine Eo.val (x := a9) rfl rfl rfl rfl ?_
      refine Eo.val (x := (.v (.int .i64 ((r6.length : Nat) : Int)))) (op_lenL h10 rfl rfl rfl rfl rfl Tryd.underlying23) rfl rfl rfl ?_
      refine Eo.val (x := (.v (.bool (((r6.length : Nat) : Int) == 0)))) rfl rfl rfl rfl ?_
      refine Eo.val (x := (.v (.bool (((r6.length : Nat) : Int) == 0)))) rfl rfl rfl rfl ?_
      refine Eo.nil ?_
      obtain rfl := Option.some.inj H
      refine Ec.ret ?_
      refine Ret.mk rfl ?_
      exact ⟨rfl, (Hp.drop hp11 0)⟩
    · have H := cond_f hc13 H
      refine Ec.skip ?_
      refine Ec.seq ?_
      refine Ec.region ?_
      refine Eo.val (x := a9) rfl rfl rfl rfl ?_
      obtain ⟨r14, hvr14, H⟩ := bind_some H
      refine Eo.call rfl rfl rfl rfl (gsexp_Print_ok h10 hp11 hvr14) ?_
      obtain ⟨r15, r16⟩ := r14
      rintro _ σ18 ⟨rfl, hp17⟩
      refine Eo.val (x := (.tup [(.v (.string r15)), (.v (.int .i64 r16))])) rfl rfl rfl rfl ?_
      refine Eo.val (x := (.v (.string r15))) rfl rfl rfl rfl ?_
      refine Eo.val (x := (.v (.int .i64 r16))) rfl rfl rfl rfl ?_
      refine Eo.val (x := (.v (.string r15))) rfl rfl rfl rfl ?_
      refine Eo.val (x := (.v (.int .i64 r16))) rfl rfl rfl rfl ?_
      refine Eo.nil ?_
      refine Ec.seq ?_
      refine Ec.seq ?_
      refine Ec.region ?_
      refine Eo.val (x := (.v (.int .i64 r16))) rfl rfl rfl rfl ?_
      refine Eo.val (x := (.v (.bool (r16 != 0)))) rfl rfl rfl rfl ?_
      refine Eo.nil ?_
      refine Ec.cond (t := (r16 != 0)) rfl (fun hc19 => ?_) (fun hc19 => ?_)
      · have H := cond_t hc19 H
        refine Ec.seq ?_
        refine Ec.region ?_
        refine Eo.val (x := (.v (.int .i64 r16))) rfl rfl rfl rfl ?_
        refine Eo.val (x := (.v (.bool (r16 == 33)))) rfl rfl rfl rfl ?_
        refine Eo.val (x := (.v (.bool (r16 == 33)))) rfl rfl rfl rfl ?_
        refine Eo.nil ?_
        obtain rfl := Option.some.inj H
        refine Ec.ret ?_
        refine Ret.mk rfl ?_
        exact ⟨rfl, (Hp.drop hp17 0)⟩
      · have H := cond_f hc19 H
        refine Ec.skip ?_
        refine Ec.seq ?_
        refine Ec.region ?_
        refine Eo.val (x := (.v (.string r15))) rfl rfl rfl rfl ?_
        obtain ⟨r20, hvr20, H⟩ := bind_some H
        refine Eo.call rfl rfl rfl rfl (gsexp_Parse_ok hp17 hvr20) ?_
        obtain ⟨r21, r22, r23⟩ := r20
        rintro _ σ27 ⟨a24, rfl, h25, hp26⟩
        change Hp σ27 (.app a24 34 :: .app a9 34 :: R) at hp26
        refine Eo.val (x := (.tup [a24, (.v (.int .i64 r22)), (.v (.int .i64 r23))])) rfl rfl rfl rfl ?_
        refine Eo.val (x := a24) rfl rfl rfl rfl ?_
        refine Eo.val (x := (.v (.int .i64 r22))) rfl rfl rfl rfl ?_
        refine Eo.val (x := (.v (.int .i64 r23))) rfl rfl rfl rfl ?_
        refine Eo.val (x := a24) rfl rfl rfl rfl ?_
        refine Eo.val (x := (.v (.int .i64 r22))) rfl rfl rfl rfl ?_
        refine Eo.val (x := (.v (.int .i64 r23))) rfl rfl rfl rfl ?_
        refine Eo.nil ?_
        refine Ec.seq ?_
        refine Ec.seq ?_
        refine Ec.region ?_
        refine Eo.val (x := (.v (.int .i64 r23))) rfl rfl rfl rfl ?_
        refine Eo.val (x := (.v (.bool (r23 != 0)))) rfl rfl rfl rfl ?_
        refine Eo.val (x := (.v (.bool (r23 != 0)))) rfl rfl rfl rfl ?_
        obtain ⟨x32, hv69, H⟩ := bind_some H
        refine Eo.cutN 5 (J := (fun (x32 : Bool) (x : X) (φ : Fr) (s : St) => x = .normal ∧ (Hp s (.app a9 34 :: R) ∧ Fl [(3, a9), (6, (.v (.string r15))), (46, (.v (.bool x32)))] φ)) x32) ?_ ?_
        · have H := hv69
          cases hc33 : (r23 != 0)
          · have H := cond_f hc33 H
            refine Eo.val (x := a9) rfl rfl rfl rfl ?_
            refine Eo.val (x := a24) rfl rfl rfl rfl ?_
            obtain ⟨r34, hvr34, H⟩ := bind_some H
            refine Eo.call rfl rfl rfl rfl (gdovetailref03_Same_ok h10 h25 hp26 hvr34) ?_
            rintro _ σ36 ⟨rfl, hp35⟩
            refine Eo.val (x := (.v (.bool (!r34)))) rfl rfl rfl rfl ?_
            refine Eo.val (x := (.v (.bool (!r34)))) rfl rfl rfl rfl ?_
            refine Eo.nil ?_
            obtain rfl := Option.some.inj H
            exact And.intro rfl ⟨(Hp.drop hp35 0), (.cons rfl (.cons rfl (.cons rfl (.nil'))))⟩
          · have H := cond_t hc33 H
            refine Eo.off rfl rfl rfl ?_
            refine Eo.off rfl rfl rfl ?_
            refine Eo.off rfl rfl rfl ?_
            refine Eo.off rfl rfl rfl ?_
            refine Eo.val (x := (.v (.bool true))) rfl rfl rfl rfl ?_
            refine Eo.nil ?_
            obtain rfl := Option.some.inj H
            exact And.intro rfl ⟨(Hp.drop hp26 0), (.cons rfl (.cons rfl (.cons rfl (.nil'))))⟩
        · skip
          intro x φ39 σ38 hJ
          obtain ⟨rfl, hp37, hf40⟩ := hJ
          refine ⟨rfl, Eo.of (F := [(3, a9), (6, (.v (.string r15))), (46, (.v (.bool x32)))]) hf40 ?_⟩
          refine Eo.nil ?_
          refine Ec.cond (t := x32) rfl (fun hc41 => ?_) (fun hc41 => ?_)
          · have H := cond_t hc41 H
            refine Ec.seq ?_
            refine Ec.region ?_
            refine Eo.val (x := (.v (.bool false))) rfl rfl rfl rfl ?_
            refine Eo.nil ?_
            obtain rfl := Option.some.inj H
            refine Ec.ret ?_
            refine Ret.mk rfl ?_
            exact ⟨rfl, (Hp.drop hp37 0)⟩
          · have H := cond_f hc41 H
            refine Ec.skip ?_
            refine Ec.seq ?_
            refine Ec.seq ?_
            refine Ec.region ?_
            refine Eo.val (x := (.v (.string r15))) rfl rfl rfl rfl ?_
            refine Eo.val (x := (.v (.int .i64 ((r15.size : Nat) : Int)))) (op_len rfl rfl rfl rfl rfl Tryd.underlying9) rfl rfl rfl ?_
            refine Eo.val (x := (.v (.bool (decide (((r15.size : Nat) : Int) > 262000))))) rfl rfl rfl rfl ?_
            refine Eo.nil ?_
            refine Ec.cond (t := (decide (((r15.size : Nat) : Int) > 262000))) rfl (fun hc42 => ?_) (fun hc42 => ?_)
            · have H := cond_t hc42 H
              refine Ec.seq ?_
              refine Ec.region ?_
              refine Eo.val (x := (.v (.bool true))) rfl rfl rfl rfl ?_
              refine Eo.nil ?_
              obtain rfl := Option.some.inj H
              refine Ec.ret ?_
              refine Ret.mk rfl ?_
              exact ⟨rfl, (Hp.drop hp37 0)⟩
            · have H := cond_f hc42 H
              refine Ec.skip ?_
              refine Ec.seq ?_
              refine Ec.region ?_
              refine Eo.val (x := (.v (.string r15))) rfl rfl rfl rfl ?_
              obtain ⟨s43, hvs43, H⟩ := bind_some H
              refine Eo.val (op_catS hvs43 rfl rfl rfl) rfl rfl rfl ?_
              obtain ⟨s44, hvs44, H⟩ := bind_some H
              refine Eo.val (op_catS hvs44 rfl rfl rfl) rfl rfl rfl ?_
              obtain ⟨r45, hvr45, H⟩ := bind_some H
              refine Eo.call rfl rfl rfl rfl (gsexp_Parse_ok hp37 hvr45) ?_
              obtain ⟨r46, r47, r48⟩ := r45
              rintro _ σ52 ⟨a49, rfl, h50, hp51⟩
              change Hp σ52 (.app a49 34 :: .app a9 34 :: R) at hp51
              refine Eo.val (x := (.tup [a49, (.v (.int .i64 r47)), (.v (.int .i64 r48))])) rfl rfl rfl rfl ?_
              refine Eo.val (x := a49) rfl rfl rfl rfl ?_
              refine Eo.val (x := (.v (.int .i64 r47))) rfl rfl rfl rfl ?_
              refine Eo.val (x := (.v (.int .i64 r48))) rfl rfl rfl rfl ?_
              refine Eo.val (x := a49) rfl rfl rfl rfl ?_
              refine Eo.val (x := (.v (.int .i64 r48))) rfl rfl rfl rfl ?_
              refine Eo.nil ?_
              refine Ec.seq ?_
              refine Ec.region ?_
              refine Eo.val (x := (.v (.int .i64 r48))) rfl rfl rfl rfl ?_
              refine Eo.val (x := (.v (.bool (r48 == 0)))) rfl rfl rfl rfl ?_
              refine Eo.val (x := (.v (.bool (r48 == 0)))) rfl rfl rfl rfl ?_
              obtain ⟨x57, hv67, H⟩ := bind_some H
              refine Eo.cutN 4 (J := (fun (x57 : Bool) (x : X) (φ : Fr) (s : St) => x = .normal ∧ (Hp s (R) ∧ Fl [(64, (.v (.bool x57)))] φ)) x57) ?_ ?_
              · have H := hv67
                cases hc58 : (r48 == 0)
                · have H := cond_f hc58 H
                  refine Eo.off rfl rfl rfl ?_
                  refine Eo.off rfl rfl rfl ?_
                  refine Eo.off rfl rfl rfl ?_
                  refine Eo.val (x := (.v (.bool false))) rfl rfl rfl rfl ?_
                  refine Eo.nil ?_
                  obtain rfl := Option.some.inj H
                  exact And.intro rfl ⟨(Hp.drop (Hp.drop hp51 0) 0), (.cons rfl (.nil'))⟩
                · have H := cond_t hc58 H
                  refine Eo.val (x := a9) rfl rfl rfl rfl ?_
                  refine Eo.val (x := a49) rfl rfl rfl rfl ?_
                  obtain ⟨r59, hvr59, H⟩ := bind_some H
                  refine Eo.call rfl rfl rfl rfl (gdovetailref03_Same_ok h10 h50 hp51 hvr59) ?_
                  rintro _ σ61 ⟨rfl, hp60⟩
                  refine Eo.val (x := (.v (.bool r59))) rfl rfl rfl rfl ?_
                  refine Eo.nil ?_
                  obtain rfl := Option.some.inj H
                  exact And.intro rfl ⟨(Hp.drop (Hp.drop hp60 0) 0), (.cons rfl (.nil'))⟩
              · skip
                intro x φ64 σ63 hJ
                obtain ⟨rfl, hp62, hf65⟩ := hJ
                refine ⟨rfl, Eo.of (F := [(64, (.v (.bool x57)))]) hf65 ?_⟩
                refine Eo.val (x := (.v (.bool x57))) rfl rfl rfl rfl ?_
                refine Eo.nil ?_
                obtain rfl := Option.some.inj H
                refine Ec.ret ?_
                refine Ret.mk rfl ?_
                exact ⟨rfl, hp62⟩
end Go.DM
