/- dovetaillaw04.IsadlFirst returns true at every two texts of bulk at most 1048576 together (the tied card of its second form). -/
import Derived.Test.YtnkingoidodnlaaGreatDoorCards
import Derived.Test.YtnkingoidodnlaaGreatDoorTie
import Derived.WalkKit
import Derived.ProofKit
import Derived.OpenShut
import Derived.Deep.DeepHandedRow
import Derived.Deep.DeepWitnessRowRef
import Derived.Lib.LaidIn
import Derived.Test.YtnkingoidodnlaaGreatDoorDmD
import Derived.ChangeMaps5
import Derived.Test.YtnkingoidodnlaaGreatDoorPrimsT
import Derived.Test.YtnkingoidodnlaaGreatDoorLawU
import Derived.Test.YtnkingoidodnlaaGreatDoorWalkD
namespace Go.Proofs.YtnkingoidodnlaaGreatDoor.first
open Go.ChangeShapes Go.WideShapes Go.ChangeAt Go.ChangeMaps Go.RowKit

theorem calls {W : World} (s t : ByteArray) (hs : s.size ≤ 4611686018427387903) (ht : t.size ≤ 4611686018427387903) (h : laidMetH Tryz.prog Rows.isadlFirstUptoRow.laid W) {m : Int} (hm : W.cell? ⟨1, 0, none⟩ = some (.int .i64 m)) (h0 : 1 < W.heap.size) : Calls Tryz.prog 4 #[.string s, .string t] W fun e W' => e = .returned (.bool true) ∧ Below W.heap.size W W' := by
 have hl : laidMet Tryz.prog laidL W := h
 have hc : DM.Ca DM.cfg 4 [.v (.string s), .v (.string t)] DM.σ0 (fun x _ => x = .v (.bool true)) := by
  obtain ⟨x, σ', h1, h2⟩ := DM.gdovetaillaw04_IsadlFirst_ok (R := []) (DM.Hp.nil DM.σ0) (DM.isadl_first s t hs ht)
  exact ⟨x, σ', h1, h2.1⟩
 have h := DM.calls_true' (C := DM.cfg) (w := W) orders (prims hl hm h0) (globs _) (DM.RelL.cons (DM.Rel.v rfl) (DM.RelL.cons (DM.Rel.v rfl) (DM.RelL.nil _))) hc
 rw [cfgP] at h
 exact h

set_option maxRecDepth 100000 in
theorem contract (H : Type) (enc : TypeId × Value → H) (W : World) (base : Nat) (args : Array Value) (ds gs : List (DataW H)) (before : List MemPlace)
  (hval : ∀ (j : Nat) t v, Tryz.f4.params[j]? = some t → args[j]? = some v → Value.okWide Tryz.prog W .any base t v)
  (hW : DataW.Whole enc Tryz.prog Tryz.f4.params.toList Rows.isadlFirstSpec.vars false W args.toList ds gs before) (hL : laidMetH Tryz.prog Rows.isadlFirstUptoRow.laid W) (hsh : W.ShapedOpen Tryz.prog) (hk : Rows.uptoSmall H (ds ++ gs) = true) :
  Calls Tryz.prog 4 args W fun e W' => ∃ v, e = .returned v ∧ Rows.isadlFirstSpec.post enc Tryz.prog Tryz.f4 false true false false W args v W' := by
 have hW' := hW
 obtain ⟨p, q, hA0, hV, rfl, hfz, hnd⟩ := hW
 have hA : DataW.TrodAll enc Tryz.prog W 0 (fun _ => true) true Tryz.f4.params.toList args.toList ds p := hA0
 rw [Tryz.params4] at hA hval
 obtain ⟨v0, v1, d0, d1, p0, p1, rfl, rfl, rfl, hd0, hd1⟩ := trodAll_two hA
 obtain ⟨s, rfl, rfl, rfl, ws⟩ := open_string Tryz.underlying9 (hval 0 9 v0 rfl rfl) hd0
 obtain ⟨t, rfl, rfl, rfl, wt⟩ := open_string Tryz.underlying9 (hval 1 9 v1 rfl rfl) hd1
 obtain ⟨rfl, rfl⟩ := trodVars_none hV
 obtain ⟨m, hm⟩ : ∃ m, W.cell? ⟨1, 0, none⟩ = some (.int .i64 m) := Tryz.laysM145.s1_3 W hsh
 have hst : s.size ≤ 1048576 ∧ t.size ≤ 1048576 := by
  have h := of_decide_eq_true hk
  simp only [List.append_nil, Rows.uptoBulkAll, Rows.uptoBulk, Array.length_toList] at h
  have h1 : s.data.size = s.size := rfl
  have h2 : t.data.size = t.size := rfl
  omega
 have hs : s.size ≤ 4611686018427387903 := by omega
 have ht : t.size ≤ 4611686018427387903 := by omega
 clear hA0 hA
 simp only [List.append_nil] at hW'
 refine (calls s t hs ht hL hm (World.block_lt_of_cell? _ _ hm)).mono fun e W' ⟨he, hb⟩ => ?_
 subst he
 exact ⟨_, rfl, DM.post_of_below (pa := []) (pv := []) hW' (fun _ _ _ => trodAll_cons_mk (shut_bool Tryz.underlying4 _) trodAll_mk0) (fun _ _ => trodAll_mk2 (shut_string Tryz.underlying9 ws) (shut_string Tryz.underlying9 wt)) (fun _ _ => rfl) rfl
  hb (ok_one (by kernel_rfl) rfl (okWide_bool_mk Tryz.underlying4 _))⟩

noncomputable def world0 (os : Os) : World := DM.layWorld Tryz.prog 281 283 (World.holding Tryz.prog os ⟨#[], #[.string ⟨#[]⟩, .string ⟨#[]⟩], []⟩) [("math/bits.deBruijn32tab", Rows.laid_math_bits_deBruijn32tab), ("math/bits.deBruijn64tab", Rows.laid_math_bits_deBruijn64tab), ("internal/strconv.uint64pow10", Rows.laid_internal_strconv_uint64pow10), ("unicode/utf8.acceptRanges", Rows.laid_unicode_utf8_acceptRanges), ("strconv.ErrRange", Rows.laid_strconv_ErrRange), ("strconv.ErrSyntax", Rows.laid_strconv_ErrSyntax), ("strings.asciiSpace", Rows.laid_strings_asciiSpace), ("unicode/utf8.first", Rows.laid_unicode_utf8_first)]
noncomputable def size0 : Nat := (World.holding Tryz.prog default ⟨#[], #[.string ⟨#[]⟩, .string ⟨#[]⟩], []⟩).heap.size
noncomputable def pushWs (w : World) : World := { w with heap := ((w.heap.modify 2 (DM.withCells #[.pointer (some ⟨size0 + 2, 0, none⟩)])).push (.cells #[.slice (some ⟨size0 + 3, 0, none⟩) 7 7, .slice none 0 0, .int .i64 2] 265 (0, 0))).push (.cells #[.int .u16 9, .int .u16 13, .int .u16 1, .int .u16 32, .int .u16 133, .int .u16 101, .int .u16 160, .int .u16 5760, .int .u16 5600, .int .u16 8192, .int .u16 8202, .int .u16 1, .int .u16 8232, .int .u16 8233, .int .u16 1, .int .u16 8239, .int .u16 8287, .int .u16 48, .int .u16 12288, .int .u16 12288, .int .u16 1] 268 (0, 0)) }
theorem pushWs_os (w : World) : (pushWs w).os = w.os := rfl
noncomputable def laidWorld (os : Os) : World := pushWs (world0 os)
theorem world0_os (os : Os) : (world0 os).os = os := DM.layWorld_os _ _ _ _ _
theorem laidWorld_os (os : Os) : (laidWorld os).os = os := (pushWs_os (world0 os)).trans (world0_os os)
def laidA : List (String × DataW Unit) := [("math/bits.deBruijn32tab", Rows.laid_math_bits_deBruijn32tab), ("math/bits.deBruijn64tab", Rows.laid_math_bits_deBruijn64tab), ("internal/strconv.uint64pow10", Rows.laid_internal_strconv_uint64pow10), ("unicode/utf8.acceptRanges", Rows.laid_unicode_utf8_acceptRanges), ("strconv.ErrRange", Rows.laid_strconv_ErrRange), ("strconv.ErrSyntax", Rows.laid_strconv_ErrSyntax), ("unicode.White_Space", Rows.laid_unicode_White_Space)]
def laidB : List (String × DataW Unit) := [("strings.asciiSpace", Rows.laid_strings_asciiSpace)]
def laidC : List (String × DataW Unit) := [("unicode/utf8.first", Rows.laid_unicode_utf8_first)]
theorem laid_eq : Rows.isadlFirstUptoRow.laid = laidA ++ laidB ++ laidC := rfl
theorem laid_met (os : Os) : laidMet Tryz.prog Rows.isadlFirstUptoRow.laid ((laidWorld os).forCall (fun _ _ => 0) ⟨#[], #[.string ⟨#[]⟩, .string ⟨#[]⟩], []⟩).memory := by
 rw [laid_eq]
 exact LaidIn.met (((LaidIn.of_run [8, 9, 5, 7, 4, 3, 2, size0, size0 + 1, size0 + 2, size0 + 3] 8 (by kernel_rfl) (by kernel_rfl) (by kernel_rfl) (by kernel_rfl) : LaidIn Tryz.prog ((laidWorld os).forCall (fun _ _ => 0) ⟨#[], #[.string ⟨#[]⟩, .string ⟨#[]⟩], []⟩).memory laidA _).append
  (LaidIn.of_run [0] 8 (by kernel_rfl) (by kernel_rfl) (by kernel_rfl) (by kernel_rfl) : LaidIn Tryz.prog _ laidB _) (by kernel_rfl)).append
  (LaidIn.of_run [6] 8 (by kernel_rfl) (by kernel_rfl) (by kernel_rfl) (by kernel_rfl) : LaidIn Tryz.prog _ laidC _) (by kernel_rfl))
theorem reads (os : Os) {H : Type} (enc : TypeId × Value → H) : ∃ places, DataW.whole enc Tryz.prog ((laidWorld os).forCall (fun _ _ => 0) ⟨#[], #[.string ⟨#[]⟩, .string ⟨#[]⟩], []⟩).memory Tryz.f4.params.toList Rows.isadlFirstSpec.vars false (#[.string ⟨#[]⟩, .string ⟨#[]⟩] : Array Value).toList 8 = some ([.lit (.string []), .lit (.string [])], [], places) :=
 ⟨[], by kernel_rfl⟩

set_option maxRecDepth 100000 in
theorem lifted (os : Os) (started : os.Started) (H : Type) (enc : TypeId × Value → H) (F : Stop.Interp) :
  ReturnsInHanded {} Tryz.checked os 4 .any ((Rows.OpenSpec.upto Rows.isadlFirstSpec).preRow enc Tryz.prog Tryz.f4 Rows.isadlFirstUptoRow.domain false Rows.isadlFirstUptoRow.laid) (((Rows.OpenSpec.upto Rows.isadlFirstSpec).at F).post enc Tryz.prog Tryz.f4 false true false false) := by
 obtain ⟨places, hx⟩ := reads os enc
 refine returnsInHanded_of_row (C := Tryz.checked) (s := Rows.OpenSpec.upto Rows.isadlFirstSpec) own started (by kernel_rfl) Tryz.func4
  (witness_row_atRef (enc := enc) (C := Tryz.checked) false (laidWorld os) #[.string ⟨#[]⟩, .string ⟨#[]⟩] (laidWorld_os os) (by kernel_rfl) (by kernel_rfl) (by kernel_rfl)
   (OpenSpec.preRow_of_cond 8 hx (by kernel_rfl) (fun k hk => by cases hk; kernel_rfl) (by kernel_rfl) (laid_met os))) ?_
 intro W base args ds gs before hval hW _ hcond _ hL hsh _
 exact contract H enc W base args ds gs before hval hW hL hsh (hcond _ rfl)

theorem said : Rows.IsadlFirstUptoSaid :=
 OpenClaim.holds_of_cond 4 Tryz.f4 rfl rfl rfl rfl rfl rfl rfl ⟨rfl, rfl, rfl, rfl, rfl⟩ rfl rfl rfl rfl rfl (by kernel_rfl) Tryz.func4 (by kernel_rfl)
  (of_decide_eq_true (by kernel_rfl)) (by unfold Func.isWrapper; first | (rw [if_pos (by decide +kernel)]; kernel_rfl) | (rw [if_neg (by decide +kernel)]; exact ⟨rfl, rfl⟩))
  (fun os started H enc _ F => by rw [OpenClaim.pre_eq_preRow]; exact lifted os started H enc F)

theorem plain (f : FuncId) (fn : Func) (hf : Tryz.pinned.checked.prog.funcNamed "dovetail/dovetaillaw04.IsadlFirst" = some f) (hfn : Tryz.pinned.checked.prog.funcs[f]? = some fn) :
  true = Tryz.pinned.checked.prog.looks [] ∧ ∀ (j : Nat) t, fn.params[j]? = some t → Tryz.pinned.checked.prog.wantsStandIn t = false := by
 obtain rfl : f = 4 := Option.some.inj ((show Tryz.prog.funcNamed "dovetail/dovetaillaw04.IsadlFirst" = some 4 by kernel_rfl).symm.trans hf) |>.symm
 obtain rfl : fn = Tryz.f4 := (Option.some.inj (Tryz.func4.symm.trans hfn)).symm
 refine ⟨by kernel_rfl, fun j t ht => ?_⟩
 rw [Tryz.params4] at ht
 cases j with
 | zero =>
  obtain rfl : t = 9 := by simpa using ht.symm
  kernel_rfl
 | succ j =>
  cases j with
  | zero =>
   obtain rfl : t = 9 := by simpa using ht.symm
   kernel_rfl
  | succ j => simp at ht

theorem card : Rows.IsadlFirstUptoCardSaid :=
 Claim7.holds_tied_plain_at .later [] _ _ _ _ said (fun _ h => by cases h) (by kernel_rfl) (fun _ h => by cases h) isadlFirstUpto_row_tie rfl ⟨rfl, rfl⟩ (by kernel_rfl) rfl plain (by kernel_rfl)
end Go.Proofs.YtnkingoidodnlaaGreatDoor.first
