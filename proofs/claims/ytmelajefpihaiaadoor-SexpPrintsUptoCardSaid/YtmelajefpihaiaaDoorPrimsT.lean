/- The library's functions that sexp's statements reach keep their contracts. Condition: the world has its library's variables (the table of powers of ten, the two errors of strconv). -/
import Derived.Test.YtmelajefpihaiaaDoorProg
import Derived.Test.YtmelajefpihaiaaDoorChecked
import Derived.Test.YtmelajefpihaiaaDoorRows
import Derived.WalkKit
import Derived.ProofKit
import Derived.Stop.LaidErr
import Derived.Lib.AppendIntMem
import Derived.Lib.AtoiErrMem
import Derived.Test.YtmelajefpihaiaaDoorShelfT
import Derived.Test.YtmelajefpihaiaaDoorWalkT2
namespace Go.Proofs.YtmelajefpihaiaaDoor
open Go.ChangeShapes Go.WideShapes Go.ChangeAt Go.RowKit Go.Sort
theorem own : ownKnob Tryd.prog.godebug = none := by kernel_rfl
theorem orders : DM.cfg.P.follows .mixedOrders = true := by kernel_rfl
theorem cfgP : DM.cfg.P = Tryd.prog := by unfold DM.cfg; rfl
theorem globs (k : DM.K) : DM.GlobOk DM.cfg k := fun g a h => by cases h

def laidL : List (String × DataW Unit) := [("math/bits.deBruijn32tab", Rows.laid_math_bits_deBruijn32tab), ("math/bits.deBruijn64tab", Rows.laid_math_bits_deBruijn64tab), ("internal/strconv.uint64pow10", Rows.laid_internal_strconv_uint64pow10), ("strconv.ErrRange", Rows.laid_strconv_ErrRange), ("strconv.ErrSyntax", Rows.laid_strconv_ErrSyntax)]
def pow10 : List Int := [1, 10, 100, 1000, 10000, 100000, 1000000, 10000000, 100000000, 1000000000, 10000000000, 100000000000, 1000000000000, 10000000000000, 100000000000000, 1000000000000000, 10000000000000000, 100000000000000000, 1000000000000000000, 10000000000000000000]
theorem pow10_eq : pow10 = Lib.pow10Tab := by decide +kernel
theorem gPow : Tryd.prog.globalNamed "internal/strconv.uint64pow10" = some 1 := by kernel_rfl
theorem gPowType : (Tryd.prog.globals[1]?).map (·.type) = some 103 := by kernel_rfl
theorem cellsArr : Tryd.prog.cellsOf 103 = 20 := by kernel_rfl
theorem cellsU64 : Tryd.prog.cellsOf 91 = 1 := by kernel_rfl
theorem table {W : World} (h : laidMet Tryd.prog laidL W) : Lib.TabIs Tryd.prog W "internal/strconv.uint64pow10" .u64 Lib.pow10Tab := by
  rw [← pow10_eq]
  exact Lib.tabIs_of_head (rest := [("strconv.ErrRange", Rows.laid_strconv_ErrRange), ("strconv.ErrSyntax", Rows.laid_strconv_ErrSyntax)]) gPow gPowType Tryd.underlying103 Tryd.underlying91 cellsU64 cellsArr h.tail.tail
theorem gES : Tryd.prog.globalNamed "strconv.ErrSyntax" = some 2 := by kernel_rfl
theorem gESType : (Tryd.prog.globals[2]?).map (·.type) = some 62 := by kernel_rfl
theorem gER : Tryd.prog.globalNamed "strconv.ErrRange" = some 3 := by kernel_rfl
theorem gERType : (Tryd.prog.globals[3]?).map (·.type) = some 62 := by kernel_rfl
theorem cells118 : Tryd.prog.cellsOf 118 = 1 := by kernel_rfl
theorem cells9 : Tryd.prog.cellsOf 9 = 1 := by kernel_rfl
theorem star : "*" ++ "errors.errorString" = "*errors.errorString" := by decide
theorem row116 (u : TypeId) (h : Tryd.prog.typeName? 3 u = some "*errors.errorString") : u = 116 :=
  typeName_ptr_named (nm := "errors.errorString") (by rw [star]; kernel_rfl) (by kernel_rfl) (by decide) u (by rw [star]; exact h)
theorem errRange {W : World} (h : laidMet Tryd.prog laidL W) : ∃ tp p, W.var? Tryd.prog "strconv.ErrRange" = some #[.iface tp p] := by
  obtain ⟨a0, s0, hv0, -, -, -⟩ := laid_sentinel h.tail.tail.tail gER gERType Tryd.underlying62 row116 Tryd.underlying116 Tryd.underlying118 rfl rfl Tryd.underlying9 cells118 cells9
  exact ⟨_, _, hv0⟩
theorem errSyntax {W : World} (h : laidMet Tryd.prog laidL W) : ∃ tp p, W.var? Tryd.prog "strconv.ErrSyntax" = some #[.iface tp p] := by
  obtain ⟨a0, s0, hv0, -, -, -⟩ := laid_sentinel h.tail.tail.tail.tail gES gESType Tryd.underlying62 row116 Tryd.underlying116 Tryd.underlying118 rfl rfl Tryd.underlying9 cells118 cells9
  exact ⟨_, _, hv0⟩
theorem var_below {P : Program} {w w' : World} {name : String} {cs : Array Value} (h : w.var? P name = some cs) (hb : ∀ k, k < w.heap.size → w'.heap[k]? = w.heap[k]?) : w'.var? P name = some cs := by
  unfold World.var? at h ⊢
  cases hg : P.globalNamed name with
  | none => rw [hg] at h; cases h
  | some g =>
    rw [hg] at h
    simp only [Option.bind_some] at h ⊢
    have hlt : g < w.heap.size := by
      rcases Nat.lt_or_ge g w.heap.size with h' | h'
      · exact h'
      · rw [Array.getElem?_eq_none h'] at h; cases h
    rw [hb g hlt]; exact h
/-- a number and an error, or none -/
theorem out_num {P : Program} {f : FuncId} {us : Array Value} {k : DM.K} {w0 : World} {σ : DM.St} {n : Int} {t : TypeId} {b : Bool} (hI : DM.Inv w0 σ k) (h : Calls P f us k.w fun e w' => (∃ u, e = .returned (.tuple #[.int .i64 n, u]) ∧ (b = false → u = .nilIface) ∧ (b = true → ∃ v, u = .iface t v)) ∧ Below k.w.heap.size k.w w') :
    Calls P f us k.w (DM.OutPost w0 k (.ret (.tup [.v (.int .i64 n), DM.errA t b])) σ) :=
  h.mono fun e w' ⟨⟨u, he, h1, h2⟩, hb⟩ => by
    refine ⟨k.wd w', .tuple #[.int .i64 n, u], he, rfl, (hI.toBelow hb).2, (hI.toBelow hb).1, ?_⟩
    have hr : DM.Rel (k.wd w') (DM.errA t b) u := by
      cases b with
      | false => rw [h1 rfl]; exact .v rfl
      | true => obtain ⟨v, rfl⟩ := h2 rfl; exact .ifc .junk
    exact DM.Rel.tup (us := [.int .i64 n, u]) rfl (DM.RelL.cons (.v rfl) (DM.RelL.cons hr (DM.RelL.nil _))).2
/-- the functions by hand are the library's -/
theorem prims {W : World} (hL : laidMet Tryd.prog laidL W) : DM.PrimOk DM.cfg W := by
  intro f g args σ σ' x k us hf hg hI _ hr
  rw [cfgP]
  have hf' : (if f = 46 then some DM.itoaG else if f = 48 then some DM.indexByteG else if f = 51 then some DM.containsRuneG else if f = 55 then some (DM.atoiG 99) else none) = some g := hf
  split at hf'
  · rename_i e; subst e; cases hf'
    unfold DM.itoaG at hg
    split at hg
    · rename_i σ1 n
      obtain ⟨u1, us1, rfl, r1, hr1⟩ := hr.inv_cons
      obtain rfl := hr1.inv_nil
      obtain rfl := DM.rel_v_inv r1
      obtain ⟨b, hb, he⟩ := Option.map_eq_some_iff.1 hg
      cases he
      unfold DM.itoaT at hb
      split at hb
      · rename_i hc
        cases hb
        refine DM.out_below hI rfl ((Tryd.strconv_Itoa n hc.1 hc.2 k.w (var_below (table hL) hI.below.block)).mono fun e w' ⟨he, kk, os, hw⟩ => ⟨he, ?_⟩)
        rw [hw]
        exact Lib.below_grow _ _ (Nat.le_refl _) _ _
      · cases hb
    · cases hg
  split at hf'
  · rename_i e; subst e; cases hf'
    unfold DM.indexByteG at hg
    split at hg
    · rename_i σ1 s c
      obtain ⟨u1, us1, rfl, r1, hr1⟩ := hr.inv_cons
      obtain ⟨u2, us2, rfl, r2, hr2⟩ := hr1.inv_cons
      obtain rfl := hr2.inv_nil
      obtain rfl := DM.rel_v_inv r1
      obtain rfl := DM.rel_v_inv r2
      obtain ⟨b, hb, he⟩ := Option.map_eq_some_iff.1 hg
      cases he
      cases hb
      exact DM.out_same hI rfl (Tryd.strings_IndexByte s c k.w)
    · cases hg
  split at hf'
  · rename_i e; subst e; cases hf'
    unfold DM.containsRuneG at hg
    split at hg
    · rename_i σ1 s c
      obtain ⟨u1, us1, rfl, r1, hr1⟩ := hr.inv_cons
      obtain ⟨u2, us2, rfl, r2, hr2⟩ := hr1.inv_cons
      obtain rfl := hr2.inv_nil
      obtain rfl := DM.rel_v_inv r1
      obtain rfl := DM.rel_v_inv r2
      obtain ⟨b, hb, he⟩ := Option.map_eq_some_iff.1 hg
      cases he
      unfold DM.containsRuneT at hb
      split at hb
      · rename_i hc
        cases hb
        exact DM.out_same hI rfl (Tryd.strings_ContainsRune_ascii s c k.w hc.1 hc.2)
      · cases hb
    · cases hg
  split at hf'
  · rename_i e; subst e; cases hf'
    unfold DM.atoiG at hg
    split at hg
    · rename_i σ1 s
      obtain ⟨u1, us1, rfl, r1, hr1⟩ := hr.inv_cons
      obtain rfl := hr1.inv_nil
      obtain rfl := DM.rel_v_inv r1
      obtain ⟨b, hb, he⟩ := Option.map_eq_some_iff.1 hg
      cases he
      unfold DM.atoiT at hb
      split at hb
      · rename_i hs
        split at hb
        · rename_i v hv
          cases hb
          refine out_num hI ((Tryd.strconv_Atoi_ok s (by omega) v hv k.w).mono fun e w' ⟨he, hw⟩ => ⟨⟨_, he, fun _ => rfl, fun h => by cases h⟩, ?_⟩)
          rcases hw with rfl | ⟨t, rfl⟩
          · exact Below.refl _ _
          · exact Lib.bytesWorld_below _ _ _
        · rename_i hv
          cases hb
          obtain ⟨tp, p, hvar⟩ := errSyntax hL
          exact out_num hI ((Tryd.strconv_Atoi_syntax_var s hs hv tp p k.w (var_below hvar hI.below.block)).mono fun e w' ⟨N, he, _, _, hb⟩ => ⟨⟨_, he, fun h => (by cases h), fun _ => ⟨_, rfl⟩⟩, hb⟩)
        · rename_i hv
          cases hb
          obtain ⟨tp, p, hvar⟩ := errRange hL
          exact out_num hI ((Tryd.strconv_Atoi_range_var s hs hv tp p k.w (var_below hvar hI.below.block)).mono fun e w' ⟨N, he, _, _, hb⟩ => ⟨⟨_, he, fun h => (by cases h), fun _ => ⟨_, rfl⟩⟩, hb⟩)
      · cases hb
    · cases hg
  · cases hf'
end Go.Proofs.YtmelajefpihaiaaDoor
