/- The library's functions that asmtext's statements reach keep their contracts. Condition: the world has its library's variables. -/
import Derived.Test.YtamnkpmfnphjlaaDoorProg
import Derived.Test.YtamnkpmfnphjlaaDoorChecked
import Derived.WalkKit
import Derived.ProofKit
import Derived.Shelf.Strings.SlTrimAscii
import Derived.Test.YtamnkpmfnphjlaaDoorShelfT
import Derived.Test.YtamnkpmfnphjlaaDoorWalkT2
namespace Go.Proofs.YtamnkpmfnphjlaaDoor
open Go.ChangeShapes Go.WideShapes Go.ChangeAt Go.RowKit
theorem own : ownKnob Tryd.prog.godebug = none := by kernel_rfl
theorem orders : DM.cfg.P.follows .mixedOrders = true := by kernel_rfl
theorem cfgP : DM.cfg.P = Tryd.prog := by unfold DM.cfg; rfl
theorem info116 : (Tryd.prog.info? (Tryd.lays161_ren.t 116)).map (fun i => (i.zero, i.size)) = some (some (.agg (Array.replicate 256 (.bool false))), 256) := by kernel_rfl
/-- the functions by hand are the library's -/
theorem prims {W : World} {m : Int} (hm : W.cell? ⟨0, 0, none⟩ = some (.int .i64 m)) (h0 : 0 < W.heap.size) : DM.PrimOk DM.cfg W := by
  intro f g args σ σ' x k us hf hg hI _ hr
  rw [cfgP]
  have hf' : (if f = 28 then some DM.containsG else if f = 29 then some DM.trimLeftG else if f = 32 then some DM.joinG else if f = 42 then some DM.repeatG else if f = 47 then some DM.splitG else if f = 57 then some DM.indexByteG else none) = some g := hf
  split at hf'
  · rename_i e; subst e; cases hf'
    unfold DM.containsG at hg
    split at hg
    · rename_i σ1 s t
      obtain ⟨u1, us1, rfl, r1, hr1⟩ := hr.inv_cons
      obtain ⟨u2, us2, rfl, r2, hr2⟩ := hr1.inv_cons
      obtain rfl := hr2.inv_nil
      obtain rfl := DM.rel_v_inv r1
      obtain rfl := DM.rel_v_inv r2
      obtain ⟨b, hb, he⟩ := Option.map_eq_some_iff.1 hg
      cases he
      unfold DM.containsT at hb
      split at hb
      · rename_i c hc
        cases hb
        have ht : t = ⟨#[c]⟩ := by
          obtain ⟨⟨l⟩⟩ := t
          have : l = [c] := hc
          rw [this]
        subst ht
        exact DM.out_same hI rfl (Tryd.strings_Contains_one s c k.w)
      · cases hb
    · cases hg
  split at hf'
  · rename_i e; subst e; cases hf'
    unfold DM.trimLeftG at hg
    split at hg
    · rename_i σ1 s t
      obtain ⟨u1, us1, rfl, r1, hr1⟩ := hr.inv_cons
      obtain ⟨u2, us2, rfl, r2, hr2⟩ := hr1.inv_cons
      obtain rfl := hr2.inv_nil
      obtain rfl := DM.rel_v_inv r1
      obtain rfl := DM.rel_v_inv r2
      obtain ⟨b, hb, he⟩ := Option.map_eq_some_iff.1 hg
      cases he
      unfold DM.trimLeftT at hb
      split at hb
      · rename_i hc
        cases hb
        refine DM.out_below hI rfl (Any.strings_TrimLeft_laid Tryd.lays161 info116 s t k.w hc.1 (fun j b hj => ?_))
        have := List.all_eq_true.1 hc.2 b (List.mem_of_getElem? hj)
        simpa using this
      · cases hb
    · cases hg
  split at hf'
  · rename_i e; subst e; cases hf'
    unfold DM.joinG at hg
    split at hg
    · rename_i σ1 sep
      obtain ⟨u1, us1, rfl, r1, hr1⟩ := hr.inv_cons
      obtain ⟨u2, us2, rfl, r2, hr2⟩ := hr1.inv_cons
      obtain rfl := hr2.inv_nil
      obtain rfl := DM.rel_v_inv r1
      obtain rfl := DM.rel_v_inv r2
      obtain ⟨b, hb, he⟩ := Option.map_eq_some_iff.1 hg
      cases he
      unfold DM.joinT at hb
      split at hb
      · cases hb
        exact DM.out_same hI rfl (Any.strings_Join_none Tryd.lays156 Tryd.Builder_Extra_156 none 0 sep k.w)
      · cases hb
    · rename_i σ1 cs ap sep
      split at hg
      · rename_i l hl
        obtain rfl := DM.strsOf_inv hl
        obtain ⟨u1, us1, rfl, r1, hr1⟩ := hr.inv_cons
        obtain ⟨u2, us2, rfl, r2, hr2⟩ := hr1.inv_cons
        obtain rfl := hr2.inv_nil
        obtain rfl := DM.rel_v_inv r2
        obtain ⟨b, hb, he⟩ := Option.map_eq_some_iff.1 hg
        cases he
        unfold DM.joinT at hb
        rcases DM.rel_strs hI r1 with ⟨rfl, a0, cap, rfl⟩ | ⟨c, i, cap, rfl, q1, q2, q3⟩
        · split at hb
          · cases hb
            exact DM.out_same hI rfl (Any.strings_Join_none Tryd.lays156 Tryd.Builder_Extra_156 (some a0) cap sep k.w)
          · cases hb
        split at hb
        · rename_i hc
          cases hb
          exact DM.out_below hI rfl (Tryd.strings_Join c i cap l sep k.w q3 q1 hc.1 q2 hc.2)
        · cases hb
      · cases hg
    · cases hg
  split at hf'
  · rename_i e; subst e; cases hf'
    unfold DM.repeatG at hg
    split at hg
    · rename_i σ1 s c
      obtain ⟨u1, us1, rfl, r1, hr1⟩ := hr.inv_cons
      obtain ⟨u2, us2, rfl, r2, hr2⟩ := hr1.inv_cons
      obtain rfl := hr2.inv_nil
      obtain rfl := DM.rel_v_inv r1
      obtain rfl := DM.rel_v_inv r2
      obtain ⟨b, hb, he⟩ := Option.map_eq_some_iff.1 hg
      cases he
      unfold DM.repeatT at hb
      split at hb
      · rename_i hc
        cases hb
        have hcc : ((c.toNat : Nat) : Int) = c := Int.toNat_of_nonneg hc.1
        have h := Tryd.strings_Repeat s c.toNat k.w (by omega) hc.2.2
        rw [hcc] at h
        exact DM.out_below hI rfl h
      · cases hb
    · cases hg
  split at hf'
  · rename_i e; subst e; cases hf'
    unfold DM.splitG at hg
    split at hg
    · rename_i σ1 s t
      obtain ⟨u1, us1, rfl, r1, hr1⟩ := hr.inv_cons
      obtain ⟨u2, us2, rfl, r2, hr2⟩ := hr1.inv_cons
      obtain rfl := hr2.inv_nil
      obtain rfl := DM.rel_v_inv r1
      obtain rfl := DM.rel_v_inv r2
      obtain ⟨b, hb, he⟩ := Option.map_eq_some_iff.1 hg
      cases he
      unfold DM.splitT at hb
      split at hb
      · rename_i hc
        cases hb
        have hmk : k.w.cell? ⟨0, 0, none⟩ = some (.int .i64 m) := by rw [DM.cell_of_heap (hI.below.block 0 h0)]; exact hm
        exact DM.out_strs hI (Lib.splitB_all t hc.2 0 _ s rfl).symm (Tryd.strings_Split s t m k.w hc.1 hmk hc.2)
      · cases hb
    · cases hg
  split at hf'
  · rename_i e; subst e; cases hf'
    unfold DM.indexByteG at hg
    split at hg
    · rename_i σ1 s c
      obtain ⟨u1, us1, rfl, r1, hr1⟩ := hr.inv_cons
      obtain ⟨u2, us2, rfl, r2, hr2⟩ := hr1.inv_cons
      obtain rfl := hr2.inv_nil
      obtain rfl := DM.rel_v_inv r1
      obtain rfl := DM.rel_v_inv r2
      obtain ⟨b, hb, he⟩ := Option.map_eq_some_iff.1 hg
      cases he
      cases hb
      exact DM.out_same hI rfl (Tryd.strings_IndexByte s c k.w)
    · cases hg
  · cases hf'
theorem globs (k : DM.K) : DM.GlobOk DM.cfg k := fun g a h => by cases h
end Go.Proofs.YtamnkpmfnphjlaaDoor
