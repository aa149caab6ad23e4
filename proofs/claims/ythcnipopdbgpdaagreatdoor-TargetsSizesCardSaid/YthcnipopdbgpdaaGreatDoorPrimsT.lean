/- The library's functions that the statements on the shipped descriptions reach keep their contracts. Condition: the world has its library's variables (the tables, the two errors of strconv). -/
import Derived.Test.YthcnipopdbgpdaaGreatDoorProg
import Derived.Test.YthcnipopdbgpdaaGreatDoorChecked
import Derived.Test.YthcnipopdbgpdaaGreatDoorRows
import Derived.WalkKit
import Derived.ProofKit
import Derived.Stop.LaidErr
import Derived.Lib.AppendIntMem
import Derived.Lib.AtoiErrMem
import Derived.Shelf.Strings.SlTrimAscii
import Derived.Test.YthcnipopdbgpdaaGreatDoorShelfT
import Derived.Test.YthcnipopdbgpdaaGreatDoorCfgT
namespace Go.Proofs.YthcnipopdbgpdaaGreatDoor
open Go.ChangeShapes Go.WideShapes Go.ChangeAt Go.RowKit Go.Sort
theorem own : ownKnob Tryz.prog.godebug = none := by kernel_rfl
theorem orders : DM.FM.cfg0.P.follows .mixedOrders = true := by kernel_rfl
theorem cfgP : DM.FM.cfg0.P = Tryz.prog := by unfold DM.FM.cfg0; rfl
theorem globs (k : DM.K) : DM.GlobOk DM.FM.cfg0 k := fun g a h => by cases h
def Nh : List (String × DataW Unit) := ("math/bits.deBruijn32tab", Rows.laid_math_bits_deBruijn32tab) :: ("math/bits.deBruijn64tab", Rows.laid_math_bits_deBruijn64tab) :: ("internal/strconv.uint64pow10", Rows.laid_internal_strconv_uint64pow10) :: ("unicode/utf8.acceptRanges", Rows.laid_unicode_utf8_acceptRanges) :: ("strconv.ErrRange", Rows.laid_strconv_ErrRange) :: ("strconv.ErrSyntax", Rows.laid_strconv_ErrSyntax) :: ("unicode.White_Space", Rows.laid_unicode_White_Space) :: ("strings.asciiSpace", Rows.laid_strings_asciiSpace) :: ("unicode/utf8.first", Rows.laid_unicode_utf8_first) :: []
def Afe : List Int := [1, 10, 100, 1000, 10000, 100000, 1000000, 10000000, 100000000, 1000000000, 10000000000, 100000000000, 1000000000000, 10000000000000, 100000000000000, 1000000000000000, 10000000000000000, 100000000000000000, 1000000000000000000, 10000000000000000000]
theorem Ws : Afe = Lib.pow10Tab := by decide +kernel
theorem gPow : Tryz.prog.globalNamed "internal/strconv.uint64pow10" = some 7 := by kernel_rfl
theorem Wt : (Tryz.prog.globals[7]?).map (·.type) = some 342 := by kernel_rfl
theorem Wu : Tryz.prog.cellsOf 342 = 20 := by kernel_rfl
theorem Wv : Tryz.prog.cellsOf 59 = 1 := by kernel_rfl
theorem Aff {W : World} (h : laidMet Tryz.prog Nh W) : Lib.TabIs Tryz.prog W "internal/strconv.uint64pow10" .u64 Lib.pow10Tab := by
 rw [← Ws]
 exact Lib.tabIs_of_head gPow Wt Tryz.underlying342 Tryz.underlying59 Wv Wu h.tail.tail
def Adj : List Int := [0, 0, 0, 0, 0, 0, 0, 0, 0, 1, 1, 1, 1, 1, 0, 0, 0, 0, 0, 0, 0, 0, 0, 0, 0, 0, 0, 0, 0, 0, 0, 0, 1, 0, 0, 0, 0, 0, 0, 0, 0, 0, 0, 0, 0, 0, 0, 0, 0, 0, 0, 0, 0, 0, 0, 0, 0, 0, 0, 0, 0, 0, 0, 0, 0, 0, 0, 0, 0, 0, 0, 0, 0, 0, 0, 0, 0, 0, 0, 0, 0, 0, 0, 0, 0, 0, 0, 0, 0, 0, 0, 0, 0, 0, 0, 0, 0, 0, 0, 0, 0, 0, 0, 0, 0, 0, 0, 0, 0, 0, 0, 0, 0, 0, 0, 0, 0, 0, 0, 0, 0, 0, 0, 0, 0, 0, 0, 0, 0, 0, 0, 0, 0, 0, 0, 0, 0, 0, 0, 0, 0, 0, 0, 0, 0, 0, 0, 0, 0, 0, 0, 0, 0, 0, 0, 0, 0, 0, 0, 0, 0, 0, 0, 0, 0, 0, 0, 0, 0, 0, 0, 0, 0, 0, 0, 0, 0, 0, 0, 0, 0, 0, 0, 0, 0, 0, 0, 0, 0, 0, 0, 0, 0, 0, 0, 0, 0, 0, 0, 0, 0, 0, 0, 0, 0, 0, 0, 0, 0, 0, 0, 0, 0, 0, 0, 0, 0, 0, 0, 0, 0, 0, 0, 0, 0, 0, 0, 0, 0, 0, 0, 0, 0, 0, 0, 0, 0, 0, 0, 0, 0, 0, 0, 0, 0, 0, 0, 0, 0, 0, 0, 0, 0, 0, 0, 0]
theorem Up : Adj = Lib.asciiSpaceTab := by decide +kernel
theorem gSp : Tryz.prog.globalNamed "strings.asciiSpace" = some 0 := by kernel_rfl
theorem X7 : (Tryz.prog.globals[0]?).map (·.type) = some 279 := by kernel_rfl
theorem X8 : Tryz.prog.cellsOf 279 = 256 := by kernel_rfl
theorem X9 : Tryz.prog.cellsOf 5 = 1 := by kernel_rfl
set_option maxRecDepth 100000 in
theorem Ya {W : World} (h : laidMet Tryz.prog Nh W) : Lib.TabIs Tryz.prog W "strings.asciiSpace" .u8 Lib.asciiSpaceTab := by
 rw [← Up]
 exact Lib.tabIs_of_head gSp X7 Tryz.underlying279 Tryz.underlying5 X9 X8 h.tail.tail.tail.tail.tail.tail.tail
theorem gES : Tryz.prog.globalNamed "strconv.ErrSyntax" = some 5 := by kernel_rfl
theorem Yb : (Tryz.prog.globals[5]?).map (·.type) = some 274 := by kernel_rfl
theorem gER : Tryz.prog.globalNamed "strconv.ErrRange" = some 6 := by kernel_rfl
theorem Yc : (Tryz.prog.globals[6]?).map (·.type) = some 274 := by kernel_rfl
theorem Qx : Tryz.prog.cellsOf 340 = 1 := by kernel_rfl
theorem Ww : Tryz.prog.cellsOf 9 = 1 := by kernel_rfl
theorem star : "*" ++ "errors.errorString" = "*errors.errorString" := by decide
theorem Wx (u : TypeId) (h : Tryz.prog.typeName? 3 u = some "*errors.errorString") : u = 338 :=
 typeName_ptr_named (nm := "errors.errorString") (by rw [star]; kernel_rfl) (by kernel_rfl) (by decide) u (by rw [star]; exact h)
theorem Wy {W : World} (h : laidMet Tryz.prog Nh W) : ∃ tp p, W.var? Tryz.prog "strconv.ErrRange" = some #[.iface tp p] := by
 obtain ⟨a0, s0, hv0, -, -, -⟩ := laid_sentinel h.tail.tail.tail.tail gER Yc Tryz.underlying274 Wx Tryz.underlying338 Tryz.underlying340 rfl rfl Tryz.underlying9 Qx Ww
 exact ⟨_, _, hv0⟩
theorem Uq {W : World} (h : laidMet Tryz.prog Nh W) : ∃ tp p, W.var? Tryz.prog "strconv.ErrSyntax" = some #[.iface tp p] := by
 obtain ⟨a0, s0, hv0, -, -, -⟩ := laid_sentinel h.tail.tail.tail.tail.tail gES Yb Tryz.underlying274 Wx Tryz.underlying338 Tryz.underlying340 rfl rfl Tryz.underlying9 Qx Ww
 exact ⟨_, _, hv0⟩
theorem Ed {P : Program} {w w' : World} {name : String} {cs : Array Value} (h : w.var? P name = some cs) (hb : ∀ k, k < w.heap.size → w'.heap[k]? = w.heap[k]?) : w'.var? P name = some cs := by
 unfold World.var? at h ⊢
 cases hg : P.globalNamed name with
 | none => rw [hg] at h; cases h
 | some g =>
  rw [hg] at h
  simp only [Option.bind_some] at h ⊢
  have hlt : g < w.heap.size := by
   rcases Nat.lt_or_ge g w.heap.size with h' | h'
   ·exact h'
   ·rw [Array.getElem?_eq_none h'] at h; cases h
  rw [hb g hlt]; exact h
theorem O7 {P : Program} {f : FuncId} {us : Array Value} {k : DM.K} {w0 : World} {σ : DM.St} {n : Int} {t : TypeId} {b : Bool} (hI : DM.Inv w0 σ k) (h : Calls P f us k.w fun e w' => (∃ u, e = .returned (.tuple #[.int .i64 n, u]) ∧ (b = false → u = .nilIface) ∧ (b = true → ∃ v, u = .iface t v)) ∧ Below k.w.heap.size k.w w') :
  Calls P f us k.w (DM.OutPost w0 k (.ret (.tup [.v (.int .i64 n), DM.errA t b])) σ) :=
 h.mono fun e w' ⟨⟨u, he, h1, h2⟩, hb⟩ => by
  refine ⟨k.wd w', .tuple #[.int .i64 n, u], he, rfl, (hI.toBelow hb).2, (hI.toBelow hb).1, ?_⟩
  have hr : DM.Rel (k.wd w') (DM.errA t b) u := by
   cases b with
   | false => rw [h1 rfl]; exact .v rfl
   | true => obtain ⟨v, rfl⟩ := h2 rfl; exact .ifc .junk
  exact DM.Rel.tup (us := [.int .i64 n, u]) rfl (DM.RelL.cons (.v rfl) (DM.RelL.cons hr (DM.RelL.nil _))).2
theorem Yd {P : Program} {f : FuncId} {us : Array Value} {k : DM.K} {w0 : World} {σ : DM.St} {a b : ByteArray} {c : Bool} (hI : DM.Inv w0 σ k) (h : Calls P f us k.w fun e w' => e = .returned (.tuple #[.string a, .string b, .bool c]) ∧ Below k.w.heap.size k.w w') :
  Calls P f us k.w (DM.OutPost w0 k (.ret (.tup [.v (.string a), .v (.string b), .v (.bool c)])) σ) :=
 h.mono fun e w' ⟨he, hb⟩ => by
  refine ⟨k.wd w', .tuple #[.string a, .string b, .bool c], he, rfl, (hI.toBelow hb).2, (hI.toBelow hb).1, ?_⟩
  exact DM.Rel.tup (us := [.string a, .string b, .bool c]) rfl (DM.RelL.cons (.v rfl) (DM.RelL.cons (.v rfl) (DM.RelL.cons (.v rfl) (DM.RelL.nil _)))).2
theorem J1 {P : Program} {w w' : World} {name : String} {k : IntKind} {zs : List Int} (h : Lib.TabIs P w name k zs) (hb : ∀ k, k < w.heap.size → w'.heap[k]? = w.heap[k]?) : Lib.TabIs P w' name k zs := Ed h hb
theorem Ye : (Tryz.prog.info? (Tryz.lays160_ren.t 116)).map (fun i => (i.zero, i.size)) = some (some (.agg (Array.replicate 256 (.bool false))), 256) := by kernel_rfl
structure Good (W : World) : Prop where
 tab : Lib.TabIs Tryz.prog W "internal/strconv.uint64pow10" .u64 Lib.pow10Tab
 sp : Lib.TabIs Tryz.prog W "strings.asciiSpace" .u8 Lib.asciiSpaceTab
 er : ∃ tp p, W.var? Tryz.prog "strconv.ErrRange" = some #[.iface tp p]
 es : ∃ tp p, W.var? Tryz.prog "strconv.ErrSyntax" = some #[.iface tp p]
 mx : ∃ m, W.cell? ⟨4, 0, none⟩ = some (.int .i64 m)
 sz : 4 < W.heap.size
theorem Yf {W : World} (h : laidMet Tryz.prog Nh W) {m : Int} (hm : W.cell? ⟨4, 0, none⟩ = some (.int .i64 m)) (h0 : 4 < W.heap.size) : Good W :=
 ⟨Aff h, Ya h, Wy h, Uq h, ⟨m, hm⟩, h0⟩
theorem good_below (w w' : World) (h : Good w) (hb : Below w.heap.size w w') : Good w' := by
 obtain ⟨tp, p, h1⟩ := h.er
 obtain ⟨tp2, p2, h2⟩ := h.es
 obtain ⟨m, hm⟩ := h.mx
 exact ⟨J1 h.tab hb.block, J1 h.sp hb.block, ⟨tp, p, Ed h1 hb.block⟩, ⟨tp2, p2, Ed h2 hb.block⟩, ⟨m, by rw [DM.cell_of_heap (hb.block 4 h.sz)]; exact hm⟩, Nat.lt_of_lt_of_le h.sz hb.size⟩
theorem prims : DM.PrimsOk DM.FM.cfg0 Good := by
 intro W hG
 intro f g args σ σ' x k us hf hg hI _ hr
 rw [cfgP]
 have hf' : (if f = 160 then some DM.indexByteG else if f = 199 then some DM.itoaG else if f = 153 then some DM.containsRuneG else if f = 198 then some (DM.atoiG 308) else if f = 165 then some DM.fieldsG else if f = 65 then some DM.trimG else if f = 212 then some DM.cutG else none) = some g := hf
 split at hf'
 ·rename_i e; subst e; cases hf'
  unfold DM.indexByteG at hg
  split at hg
  ·rename_i σ1 s c
   obtain ⟨u1, us1, rfl, r1, hr1⟩ := hr.inv_cons
   obtain ⟨u2, us2, rfl, r2, hr2⟩ := hr1.inv_cons
   obtain rfl := hr2.inv_nil
   obtain rfl := DM.rel_v_inv r1
   obtain rfl := DM.rel_v_inv r2
   obtain ⟨b, hb, he⟩ := Option.map_eq_some_iff.1 hg
   cases he
   cases hb
   exact DM.out_same hI rfl (Tryz.strings_IndexByte s c k.w)
  ·cases hg
 split at hf'
 ·rename_i e; subst e; cases hf'
  unfold DM.itoaG at hg
  split at hg
  ·rename_i σ1 n
   obtain ⟨u1, us1, rfl, r1, hr1⟩ := hr.inv_cons
   obtain rfl := hr1.inv_nil
   obtain rfl := DM.rel_v_inv r1
   obtain ⟨b, hb, he⟩ := Option.map_eq_some_iff.1 hg
   cases he
   unfold DM.itoaT at hb
   split at hb
   ·rename_i hc
    cases hb
    refine DM.out_below hI rfl ((Tryz.strconv_Itoa n hc.1 hc.2 k.w (Ed hG.tab hI.below.block)).mono fun e w' ⟨he, kk, os, hw⟩ => ⟨he, ?_⟩)
    rw [hw]
    exact Lib.below_grow _ _ (Nat.le_refl _) _ _
   ·cases hb
  ·cases hg
 split at hf'
 ·rename_i e; subst e; cases hf'
  unfold DM.containsRuneG at hg
  split at hg
  ·rename_i σ1 s c
   obtain ⟨u1, us1, rfl, r1, hr1⟩ := hr.inv_cons
   obtain ⟨u2, us2, rfl, r2, hr2⟩ := hr1.inv_cons
   obtain rfl := hr2.inv_nil
   obtain rfl := DM.rel_v_inv r1
   obtain rfl := DM.rel_v_inv r2
   obtain ⟨b, hb, he⟩ := Option.map_eq_some_iff.1 hg
   cases he
   unfold DM.containsRuneT at hb
   split at hb
   ·rename_i hc
    cases hb
    exact DM.out_same hI rfl (Tryz.strings_ContainsRune_ascii s c k.w hc.1 hc.2)
   ·cases hb
  ·cases hg
 split at hf'
 ·rename_i e; subst e; cases hf'
  unfold DM.atoiG at hg
  split at hg
  ·rename_i σ1 s
   obtain ⟨u1, us1, rfl, r1, hr1⟩ := hr.inv_cons
   obtain rfl := hr1.inv_nil
   obtain rfl := DM.rel_v_inv r1
   obtain ⟨b, hb, he⟩ := Option.map_eq_some_iff.1 hg
   cases he
   unfold DM.atoiT at hb
   split at hb
   ·rename_i hs
    split at hb
    ·rename_i v hv
     cases hb
     refine O7 hI ((Tryz.strconv_Atoi_ok s (by omega) v hv k.w).mono fun e w' ⟨he, hw⟩ => ⟨⟨_, he, fun _ => rfl, fun h => by cases h⟩, ?_⟩)
     rcases hw with rfl | ⟨t, rfl⟩
     ·exact Below.refl _ _
     ·exact Lib.bytesWorld_below _ _ _
    ·rename_i hv
     cases hb
     obtain ⟨tp, p, hvar⟩ := hG.es
     exact O7 hI ((Tryz.strconv_Atoi_syntax_var s hs hv tp p k.w (Ed hvar hI.below.block)).mono fun e w' ⟨N, he, _, _, hb⟩ => ⟨⟨_, he, fun h => (by cases h), fun _ => ⟨_, rfl⟩⟩, hb⟩)
    ·rename_i hv
     cases hb
     obtain ⟨tp, p, hvar⟩ := hG.er
     exact O7 hI ((Tryz.strconv_Atoi_range_var s hs hv tp p k.w (Ed hvar hI.below.block)).mono fun e w' ⟨N, he, _, _, hb⟩ => ⟨⟨_, he, fun h => (by cases h), fun _ => ⟨_, rfl⟩⟩, hb⟩)
   ·cases hb
  ·cases hg
 split at hf'
 ·rename_i e; subst e; cases hf'
  unfold DM.fieldsG at hg
  split at hg
  ·rename_i σ1 s
   obtain ⟨u1, us1, rfl, r1, hr1⟩ := hr.inv_cons
   obtain rfl := hr1.inv_nil
   obtain rfl := DM.rel_v_inv r1
   obtain ⟨b, hb, he⟩ := Option.map_eq_some_iff.1 hg
   cases he
   unfold DM.fieldsT at hb
   split at hb
   ·rename_i hc
    cases hb
    have := Tryz.strings_Fields_laid s k.w hc.1 (fun j b hj => by
     have := List.all_eq_true.1 hc.2 b (List.mem_of_getElem? hj)
     simpa using this) (J1 hG.sp hI.below.block)
    exact DM.out_strs hI (l := (Lib.fields s.data.toList).map fun l => ⟨l.toArray⟩) (by simp) (this.mono fun e w' ⟨h1, h2⟩ => ⟨h1, by rw [h2, List.map_map]; rfl⟩)
   ·cases hb
  ·cases hg
 split at hf'
 ·rename_i e; subst e; cases hf'
  unfold DM.trimG at hg
  split at hg
  ·rename_i σ1 s t
   obtain ⟨u1, us1, rfl, r1, hr1⟩ := hr.inv_cons
   obtain ⟨u2, us2, rfl, r2, hr2⟩ := hr1.inv_cons
   obtain rfl := hr2.inv_nil
   obtain rfl := DM.rel_v_inv r1
   obtain rfl := DM.rel_v_inv r2
   obtain ⟨b, hb, he⟩ := Option.map_eq_some_iff.1 hg
   cases he
   unfold DM.trimT at hb
   split at hb
   ·rename_i hc
    cases hb
    refine DM.out_below hI rfl (Any.strings_Trim_laid Tryz.lays160 Ye s t k.w hc.1 hc.2.1 (fun j b hj => ?_))
    have := List.all_eq_true.1 hc.2.2 b (List.mem_of_getElem? hj)
    simpa using this
   ·cases hb
  ·cases hg
 split at hf'
 ·rename_i e; subst e; cases hf'
  unfold DM.cutG at hg
  split at hg
  ·rename_i σ1 s t
   obtain ⟨u1, us1, rfl, r1, hr1⟩ := hr.inv_cons
   obtain ⟨u2, us2, rfl, r2, hr2⟩ := hr1.inv_cons
   obtain rfl := hr2.inv_nil
   obtain rfl := DM.rel_v_inv r1
   obtain rfl := DM.rel_v_inv r2
   obtain ⟨b, hb, he⟩ := Option.map_eq_some_iff.1 hg
   cases he
   unfold DM.cutT at hb
   split at hb
   ·rename_i hc
    cases hb
    obtain ⟨m, hm⟩ := hG.mx
    have hmk : k.w.cell? ⟨4, 0, none⟩ = some (.int .i64 m) := by rw [DM.cell_of_heap (hI.below.block 4 hG.sz)]; exact hm
    exact Yd hI ((Any.strings_Cut { Tryz.laysM145 with } s t m k.w hc hmk).mono fun e w' ⟨h1, h2⟩ => ⟨h1, by obtain ⟨n, rfl⟩ := h2; exact ⟨rfl, rfl, rfl, Nat.le_refl _, fun _ _ => rfl⟩⟩)
   ·cases hb
  ·cases hg
 ·cases hf'
end Go.Proofs.YthcnipopdbgpdaaGreatDoor
