/- The library's functions that expr's statements reach keep their contracts. Condition: the world has its library's variables (the table of powers of ten, the two errors of strconv). -/
import Derived.Test.YtljjgaakmaifkaaGreatDoorProg
import Derived.Test.YtljjgaakmaifkaaGreatDoorChecked
import Derived.Test.YtljjgaakmaifkaaGreatDoorRows
import Derived.WalkKit
import Derived.ProofKit
import Derived.Stop.LaidErr
import Derived.Lib.AppendIntMem
import Derived.Lib.AtoiErrMem
import Derived.Test.YtljjgaakmaifkaaGreatDoorShelfT
import Derived.Test.YtljjgaakmaifkaaGreatDoorIterT
import Derived.Test.YtljjgaakmaifkaaGreatDoorSortT
import Derived.Test.YtljjgaakmaifkaaGreatDoorWalkT3
namespace Go.Proofs.YtljjgaakmaifkaaGreatDoor
open Go.ChangeShapes Go.WideShapes Go.ChangeAt Go.RowKit Go.Sort
theorem own : ownKnob Tryz.prog.godebug = none := by kernel_rfl
theorem orders : DM.cfg.P.follows .mixedOrders = true := by kernel_rfl
theorem cfgP : DM.cfg.P = Tryz.prog := by unfold DM.cfg; rfl
theorem globs (k : DM.K) : DM.GlobOk DM.cfg k := fun g a h => by cases h

def laidA : List (String × DataW Unit) := [("math/bits.deBruijn32tab", Rows.laid_math_bits_deBruijn32tab), ("math/bits.deBruijn64tab", Rows.laid_math_bits_deBruijn64tab), ("internal/strconv.uint64pow10", Rows.laid_internal_strconv_uint64pow10), ("unicode/utf8.acceptRanges", Rows.laid_unicode_utf8_acceptRanges), ("strconv.ErrRange", Rows.laid_strconv_ErrRange), ("strconv.ErrSyntax", Rows.laid_strconv_ErrSyntax)]
def laidB : List (String × DataW Unit) := [("unicode/utf8.first", Rows.laid_unicode_utf8_first)]
def laidL : List (String × DataW Unit) := ("math/bits.deBruijn32tab", Rows.laid_math_bits_deBruijn32tab) :: ("math/bits.deBruijn64tab", Rows.laid_math_bits_deBruijn64tab) :: ("internal/strconv.uint64pow10", Rows.laid_internal_strconv_uint64pow10) :: ("unicode/utf8.acceptRanges", Rows.laid_unicode_utf8_acceptRanges) :: ("strconv.ErrRange", Rows.laid_strconv_ErrRange) :: ("strconv.ErrSyntax", Rows.laid_strconv_ErrSyntax) :: ("unicode.CaseRanges", Rows.laid_unicode_CaseRanges) :: laidB
def pow10 : List Int := [1, 10, 100, 1000, 10000, 100000, 1000000, 10000000, 100000000, 1000000000, 10000000000, 100000000000, 1000000000000, 10000000000000, 100000000000000, 1000000000000000, 10000000000000000, 100000000000000000, 1000000000000000000, 10000000000000000000]
theorem pow10_eq : pow10 = Lib.pow10Tab := by decide +kernel
theorem gPow : Tryz.prog.globalNamed "internal/strconv.uint64pow10" = some 0 := by kernel_rfl
theorem gPowType : (Tryz.prog.globals[0]?).map (·.type) = some 97 := by kernel_rfl
theorem cellsArr : Tryz.prog.cellsOf 97 = 20 := by kernel_rfl
theorem cellsU64 : Tryz.prog.cellsOf 81 = 1 := by kernel_rfl
theorem table {W : World} (h : laidMet Tryz.prog laidL W) : Lib.TabIs Tryz.prog W "internal/strconv.uint64pow10" .u64 Lib.pow10Tab := by
  rw [← pow10_eq]
  exact Lib.tabIs_of_head (rest := ("unicode/utf8.acceptRanges", Rows.laid_unicode_utf8_acceptRanges) :: ("strconv.ErrRange", Rows.laid_strconv_ErrRange) :: ("strconv.ErrSyntax", Rows.laid_strconv_ErrSyntax) :: ("unicode.CaseRanges", Rows.laid_unicode_CaseRanges) :: laidB) gPow gPowType Tryz.underlying97 Tryz.underlying81 cellsU64 cellsArr h.tail.tail
theorem gES : Tryz.prog.globalNamed "strconv.ErrSyntax" = some 3 := by kernel_rfl
theorem gESType : (Tryz.prog.globals[3]?).map (·.type) = some 47 := by kernel_rfl
theorem gER : Tryz.prog.globalNamed "strconv.ErrRange" = some 4 := by kernel_rfl
theorem gERType : (Tryz.prog.globals[4]?).map (·.type) = some 47 := by kernel_rfl
theorem cells118 : Tryz.prog.cellsOf 149 = 1 := by kernel_rfl
theorem cells9 : Tryz.prog.cellsOf 9 = 1 := by kernel_rfl
theorem star : "*" ++ "errors.errorString" = "*errors.errorString" := by decide
theorem row116 (u : TypeId) (h : Tryz.prog.typeName? 3 u = some "*errors.errorString") : u = 147 :=
  typeName_ptr_named (nm := "errors.errorString") (by rw [star]; kernel_rfl) (by kernel_rfl) (by decide) u (by rw [star]; exact h)
theorem errRange {W : World} (h : laidMet Tryz.prog laidL W) : ∃ tp p, W.var? Tryz.prog "strconv.ErrRange" = some #[.iface tp p] := by
  obtain ⟨a0, s0, hv0, -, -, -⟩ := laid_sentinel h.tail.tail.tail.tail gER gERType Tryz.underlying47 row116 Tryz.underlying147 Tryz.underlying149 rfl rfl Tryz.underlying9 cells118 cells9
  exact ⟨_, _, hv0⟩
theorem errSyntax {W : World} (h : laidMet Tryz.prog laidL W) : ∃ tp p, W.var? Tryz.prog "strconv.ErrSyntax" = some #[.iface tp p] := by
  obtain ⟨a0, s0, hv0, -, -, -⟩ := laid_sentinel h.tail.tail.tail.tail.tail gES gESType Tryz.underlying47 row116 Tryz.underlying147 Tryz.underlying149 rfl rfl Tryz.underlying9 cells118 cells9
  exact ⟨_, _, hv0⟩
theorem var_below {P : Program} {w w' : World} {name : String} {cs : Array Value} (h : w.var? P name = some cs) (hb : ∀ k, k < w.heap.size → w'.heap[k]? = w.heap[k]?) : w'.var? P name = some cs := by
  unfold World.var? at h ⊢
  cases hg : P.globalNamed name with
  | none => rw [hg] at h; cases h
  | some g =>
    rw [hg] at h
    simp only [Option.bind_some] at h ⊢
    have hlt : g < w.heap.size := by
      rcases Nat.lt_or_ge g w.heap.size with h' | h'
      · exact h'
      · rw [Array.getElem?_eq_none h'] at h; cases h
    rw [hb g hlt]; exact h
/-- a number and an error, or none -/
theorem out_num {P : Program} {f : FuncId} {us : Array Value} {k : DM.K} {w0 : World} {σ : DM.St} {n : Int} {t : TypeId} {b : Bool} (hI : DM.Inv w0 σ k) (h : Calls P f us k.w fun e w' => (∃ u, e = .returned (.tuple #[.int .i64 n, u]) ∧ (b = false → u = .nilIface) ∧ (b = true → ∃ v, u = .iface t v)) ∧ Below k.w.heap.size k.w w') :
    Calls P f us k.w (DM.OutPost w0 k (.ret (.tup [.v (.int .i64 n), DM.errA t b])) σ) :=
  h.mono fun e w' ⟨⟨u, he, h1, h2⟩, hb⟩ => by
    refine ⟨k.wd w', .tuple #[.int .i64 n, u], he, rfl, (hI.toBelow hb).2, (hI.toBelow hb).1, ?_⟩
    have hr : DM.Rel (k.wd w') (DM.errA t b) u := by
      cases b with
      | false => rw [h1 rfl]; exact .v rfl
      | true => obtain ⟨v, rfl⟩ := h2 rfl; exact .ifc .junk
    exact DM.Rel.tup (us := [.int .i64 n, u]) rfl (DM.RelL.cons (.v rfl) (DM.RelL.cons hr (DM.RelL.nil _))).2
/-- strconv.ParseUint at one text, by the machine -/
noncomputable def cfgU : DM.Cfg := { P := Tryz.prog, glob := fun _ => none, prim := fun _ => none }
theorem ordersU : cfgU.P.follows .mixedOrders = true := by kernel_rfl
set_option maxRecDepth 1000000 in
theorem runU (σ : DM.St) : DM.call cfgU 100 55 [.v (.string DM.numU), .v (.int .i64 16), .v (.int .i64 64)] σ = some (.ret (.tup [.v (.int .u64 9223372036854775808), DM.errA 117 false]), σ) := by kernel_rfl
/-- the functions by hand are the library's -/
theorem prims {W : World} (hL : laidMet Tryz.prog laidL W) : DM.PrimOk DM.cfg W := by
  intro f g args σ σ' x k us hf hg hI _ hr
  rw [cfgP]
  have hf' : (if f = 30 then some DM.itoaG else if f = 55 then some (DM.parseUintG 117) else if f = 56 then some DM.toLowerG else if f = 57 then some (DM.atoiG 117) else if f = 42 then some (DM.sortedG 49) else none) = some g := hf
  split at hf'
  · rename_i e; subst e; cases hf'
    unfold DM.itoaG at hg
    split at hg
    · rename_i σ1 n
      obtain ⟨u1, us1, rfl, r1, hr1⟩ := hr.inv_cons
      obtain rfl := hr1.inv_nil
      obtain rfl := DM.rel_v_inv r1
      obtain ⟨b, hb, he⟩ := Option.map_eq_some_iff.1 hg
      cases he
      unfold DM.itoaT at hb
      split at hb
      · rename_i hc
        cases hb
        refine DM.out_below hI rfl ((Tryz.strconv_Itoa n hc.1 hc.2 k.w (var_below (table hL) hI.below.block)).mono fun e w' ⟨he, kk, os, hw⟩ => ⟨he, ?_⟩)
        rw [hw]
        exact Lib.below_grow _ _ (Nat.le_refl _) _ _
      · cases hb
    · cases hg
  split at hf'
  · rename_i e; subst e; cases hf'
    unfold DM.parseUintG at hg
    split at hg
    · rename_i σ1 s b n
      obtain ⟨r, hb, he⟩ := Option.map_eq_some_iff.1 hg
      cases he
      unfold DM.parseUintT at hb
      split at hb
      · rename_i hc
        obtain ⟨rfl, rfl, rfl⟩ := hc
        cases hb
        exact DM.call_good (C := cfgU) (DM.drOk ordersU) (fun f g args σ σ' x k us hf => by cases hf) 100 55 _ _ _ _ k us (runU _) hI (fun g a h => by cases h) hr
      · cases hb
    · cases hg
  split at hf'
  · rename_i e; subst e; cases hf'
    unfold DM.toLowerG at hg
    split at hg
    · rename_i σ1 s
      obtain ⟨u1, us1, rfl, r1, hr1⟩ := hr.inv_cons
      obtain rfl := hr1.inv_nil
      obtain rfl := DM.rel_v_inv r1
      obtain ⟨b, hb, he⟩ := Option.map_eq_some_iff.1 hg
      cases he
      unfold DM.toLowerT at hb
      split at hb
      · rename_i hc
        cases hb
        exact DM.out_below hI rfl (Tryz.strings_ToLower_ascii s k.w hc.1 (fun j b hj => by
          have := (List.all_eq_true.1 hc.2) b (List.mem_of_getElem? hj)
          rwa [Nat.blt_eq] at this))
      · cases hb
    · cases hg
  split at hf'
  · rename_i e; subst e; cases hf'
    unfold DM.atoiG at hg
    split at hg
    · rename_i σ1 s
      obtain ⟨u1, us1, rfl, r1, hr1⟩ := hr.inv_cons
      obtain rfl := hr1.inv_nil
      obtain rfl := DM.rel_v_inv r1
      obtain ⟨b, hb, he⟩ := Option.map_eq_some_iff.1 hg
      cases he
      unfold DM.atoiT at hb
      split at hb
      · rename_i hs
        split at hb
        · rename_i v hv
          cases hb
          refine out_num hI ((Tryz.strconv_Atoi_ok s (by omega) v hv k.w).mono fun e w' ⟨he, hw⟩ => ⟨⟨_, he, fun _ => rfl, fun h => by cases h⟩, ?_⟩)
          rcases hw with rfl | ⟨t, rfl⟩
          · exact Below.refl _ _
          · exact Lib.bytesWorld_below _ _ _
        · rename_i hv
          cases hb
          obtain ⟨tp, p, hvar⟩ := errSyntax hL
          exact out_num hI ((Tryz.strconv_Atoi_syntax_var s hs hv tp p k.w (var_below hvar hI.below.block)).mono fun e w' ⟨N, he, _, _, hb⟩ => ⟨⟨_, he, fun h => (by cases h), fun _ => ⟨_, rfl⟩⟩, hb⟩)
        · rename_i hv
          cases hb
          obtain ⟨tp, p, hvar⟩ := errRange hL
          exact out_num hI ((Tryz.strconv_Atoi_range_var s hs hv tp p k.w (var_below hvar hI.below.block)).mono fun e w' ⟨N, he, _, _, hb⟩ => ⟨⟨_, he, fun h => (by cases h), fun _ => ⟨_, rfl⟩⟩, hb⟩)
      · cases hb
    · cases hg
  split at hf'
  · rename_i e; subst e; cases hf'
    exact DM.sorted_prim (P := Tryz.prog) (g := 49) (c := 42) (K0 := 9) Tryz.underlying9
      (fun Bm b nn D w hBm hm hown => Go.Proofs.AnyZ.keys_gives (ρ := Tryz.keys43_ren) { Tryz.keys43 with } Fence.wide 2 trivial rfl (by omega) Bm b nn D w hBm hm hown)
      (fun lb S N w hN hNb hseq => Go.Proofs.AnyZ.sorted_in Tryz.sorted42 Fence.wide 5 trivial trivial trivial trivial rfl (by omega) (Tryz.sorts42 _) (enters_of Tryz.func48 (by kernel_rfl) rfl) 49 lb trivial (enters_of Tryz.func49 (by kernel_rfl) rfl) S N hN hNb w hseq)
      hg hI hr
  · cases hf'
end Go.Proofs.YtljjgaakmaifkaaGreatDoor
