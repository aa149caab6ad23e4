/- The setting with more functions by hand: what stays as it was. No condition. -/
import Derived.Test.YtjcpllbpkdfakaaGreatDoorPrimsT
import Derived.Test.YtjcpllbpkdfakaaGreatDoorDataB
import Derived.Test.YtjcpllbpkdfakaaGreatDoorFactA1
import Derived.Test.YtjcpllbpkdfakaaGreatDoorFactA2
import Derived.Test.YtjcpllbpkdfakaaGreatDoorFactB1
import Derived.Test.YtjcpllbpkdfakaaGreatDoorFactB2
import Derived.Test.YtjcpllbpkdfakaaGreatDoorFactB3
import Derived.Test.YtjcpllbpkdfakaaGreatDoorFactB4
namespace Go.DM.FM
open Go Go.Proofs
set_option maxRecDepth 1000000 in
theorem orcs_run : orcChk cfg0 orcList = true := by kernel_rfl
theorem orcs_cfg0 : OrcOk cfg0 orc := orc_ok orcs_run
theorem orcs_cfg1 : OrcOk cfg1 orc := orcs_cfg0.add _ _ _
theorem orcs_cfg2 : OrcOk cfg2 orc := orcs_cfg1.add _ _ _
theorem orders_cfg0 : cfg0.P.follows .mixedOrders = true := Go.Proofs.YtjcpllbpkdfakaaGreatDoor.orders
theorem orders_cfg1 : cfg1.P.follows .mixedOrders = true := orders_cfg0
theorem orders_cfg2 : cfg2.P.follows .mixedOrders = true := orders_cfg0
theorem func_cfg0 {f : FuncId} {fn : Func} (h : Tryz.prog.funcs[f]? = some fn) : cfg0.P.funcs[f]? = some fn := h
theorem func_cfg1 {f : FuncId} {fn : Func} (h : Tryz.prog.funcs[f]? = some fn) : cfg1.P.funcs[f]? = some fn := h
theorem func_cfg2 {f : FuncId} {fn : Func} (h : Tryz.prog.funcs[f]? = some fn) : cfg2.P.funcs[f]? = some fn := h
theorem isTrue_le {callF callG : CallF} (h : callF.le callG) {f : FuncId} {args : List A} {σ : St} (ht : isTrue (callF f args σ) = true) : isTrue (callG f args σ) = true := by
  cases hr : callF f args σ with
  | none => rw [hr] at ht; cases ht
  | some r => rw [h _ _ _ _ hr, ← hr]; exact ht
end Go.DM.FM
namespace Go.DM.FM
open Go Go.Proofs
set_option maxRecDepth 1000000 in
theorem Aq : regsOk cfg0 Afast Acode = true := by kernel_rfl
noncomputable def AcallG : CallF := call cfg0 1000
theorem Ale : CallF.le (fcall cfg0 orc 1000) AcallG := fcall_ok orcs_cfg0 1000
set_option maxRecDepth 1000000 in
theorem Arun : Run cfg0 AcallG 105 Alive Acode (setArgs 0 Aargs ff0) As0 .ret Ap11 Az11 := (rseq (c := Acode) (by kernel_rfl) (run_pc Ale (by decide) (regs_sl Aq) (by decide) At0) (rseq (c := sr (Acode)) (by kernel_rfl) (run_pc Ale (by decide) (regs_sl (regs_sr Aq)) (by decide) At1) (rblockN (c := sr (sr (Acode))) (id := 0) (by kernel_rfl) (by simp) (rloop (c := bk (sr (sr (Acode)))) (by kernel_rfl) (lp_ck Ale (by decide) (regs_lp (regs_bk (regs_sr (regs_sr Aq)))) (by decide) At2 (lp_ck Ale (by decide) (regs_lp (regs_bk (regs_sr (regs_sr Aq)))) (by decide) At3 (lp_ck Ale (by decide) (regs_lp (regs_bk (regs_sr (regs_sr Aq)))) (by decide) At4 (lp_ck Ale (by decide) (regs_lp (regs_bk (regs_sr (regs_sr Aq)))) (by decide) At5 (lp_ck Ale (by decide) (regs_lp (regs_bk (regs_sr (regs_sr Aq)))) (by decide) At6 (lp_ck Ale (by decide) (regs_lp (regs_bk (regs_sr (regs_sr Aq)))) (by decide) At7 (lp_ck Ale (by decide) (regs_lp (regs_bk (regs_sr (regs_sr Aq)))) (by decide) At8 (lp_ck Ale (by decide) (regs_lp (regs_bk (regs_sr (regs_sr Aq)))) (by decide) At9 (rlpc (c := bk (sr (sr (Acode)))) (by kernel_rfl) Ale (by decide) (regs_bk (regs_sr (regs_sr Aq))) (by decide) At10)))))))))))))
set_option maxRecDepth 1000000 in
theorem Apt (w : World) (hp : PrimOk cfg0 w) : CallPt cfg0 w 89 Aargs As0 (.ret Ares) Az11 :=
  callPt_run2 (drOk orders_cfg0) (call_good (drOk orders_cfg0) hp 1000) (fn := Tryz.f89) (func_cfg0 Tryz.func89) (c := Acode) (by kernel_rfl) (nt := 105) (by kernel_rfl) (by decide) (by decide) (by kernel_rfl) Arun (by simp) (by kernel_rfl) (rs := Tryz.f89.results.toList) rfl (by kernel_rfl)
end Go.DM.FM
namespace Go.DM.FM
open Go Go.Proofs
set_option maxRecDepth 1000000 in
theorem Bq : regsOk cfg1 Bfast Bcode = true := by kernel_rfl
noncomputable def BcallG : CallF := call cfg1 1000
theorem Ble : CallF.le (fcall cfg1 orc 1000) BcallG := fcall_ok orcs_cfg1 1000
set_option maxRecDepth 1000000 in
theorem Brun : Run cfg1 BcallG 51 Blive Bcode (setArgs 0 Bargs ff0) Bs0 .ret Bp26 Bz26 := (rseq (c := Bcode) (by kernel_rfl) (run_pc Ble (by decide) (regs_sl Bq) (by decide) Bt0) (rseq (c := sr (Bcode)) (by kernel_rfl) (run_pc Ble (by decide) (regs_sl (regs_sr Bq)) (by decide) Bt1) (rseq (c := sr (sr (Bcode))) (by kernel_rfl) (run_pc Ble (by decide) (regs_sl (regs_sr (regs_sr Bq))) (by decide) Bt2) (rseq (c := sr (sr (sr (Bcode)))) (by kernel_rfl) (run_pc Ble (by decide) (regs_sl (regs_sr (regs_sr (regs_sr Bq)))) (by decide) Bt3) (rseq (c := sr (sr (sr (sr (Bcode))))) (by kernel_rfl) (run_pc Ble (by decide) (regs_sl (regs_sr (regs_sr (regs_sr (regs_sr Bq))))) (by decide) Bt4) (rseq (c := sr (sr (sr (sr (sr (Bcode)))))) (by kernel_rfl) (rseq (c := sl (sr (sr (sr (sr (sr (Bcode))))))) (by kernel_rfl) (run_pc Ble (by decide) (regs_sl (regs_sl (regs_sr (regs_sr (regs_sr (regs_sr (regs_sr Bq))))))) (by decide) Bt5) (rblockX (c := sr (sl (sr (sr (sr (sr (sr (Bcode)))))))) (by kernel_rfl) (rloop (c := bk (sr (sl (sr (sr (sr (sr (sr (Bcode))))))))) (by kernel_rfl) (lp_ck Ble (by decide) (regs_lp (regs_bk (regs_sr (regs_sl (regs_sr (regs_sr (regs_sr (regs_sr (regs_sr Bq))))))))) (by decide) Bt6 (lp_ck Ble (by decide) (regs_lp (regs_bk (regs_sr (regs_sl (regs_sr (regs_sr (regs_sr (regs_sr (regs_sr Bq))))))))) (by decide) Bt7 (lp_ck Ble (by decide) (regs_lp (regs_bk (regs_sr (regs_sl (regs_sr (regs_sr (regs_sr (regs_sr (regs_sr Bq))))))))) (by decide) Bt8 (lp_ck Ble (by decide) (regs_lp (regs_bk (regs_sr (regs_sl (regs_sr (regs_sr (regs_sr (regs_sr (regs_sr Bq))))))))) (by decide) Bt9 (lp_ck Ble (by decide) (regs_lp (regs_bk (regs_sr (regs_sl (regs_sr (regs_sr (regs_sr (regs_sr (regs_sr Bq))))))))) (by decide) Bt10 (lp_ck Ble (by decide) (regs_lp (regs_bk (regs_sr (regs_sl (regs_sr (regs_sr (regs_sr (regs_sr (regs_sr Bq))))))))) (by decide) Bt11 (lp_ck Ble (by decide) (regs_lp (regs_bk (regs_sr (regs_sl (regs_sr (regs_sr (regs_sr (regs_sr (regs_sr Bq))))))))) (by decide) Bt12 (lp_ck Ble (by decide) (regs_lp (regs_bk (regs_sr (regs_sl (regs_sr (regs_sr (regs_sr (regs_sr (regs_sr Bq))))))))) (by decide) Bt13 (lp_ck Ble (by decide) (regs_lp (regs_bk (regs_sr (regs_sl (regs_sr (regs_sr (regs_sr (regs_sr (regs_sr Bq))))))))) (by decide) Bt14 (lp_ck Ble (by decide) (regs_lp (regs_bk (regs_sr (regs_sl (regs_sr (regs_sr (regs_sr (regs_sr (regs_sr Bq))))))))) (by decide) Bt15 (lp_ck Ble (by decide) (regs_lp (regs_bk (regs_sr (regs_sl (regs_sr (regs_sr (regs_sr (regs_sr (regs_sr Bq))))))))) (by decide) Bt16 (lp_ck Ble (by decide) (regs_lp (regs_bk (regs_sr (regs_sl (regs_sr (regs_sr (regs_sr (regs_sr (regs_sr Bq))))))))) (by decide) Bt17 (lp_ck Ble (by decide) (regs_lp (regs_bk (regs_sr (regs_sl (regs_sr (regs_sr (regs_sr (regs_sr (regs_sr Bq))))))))) (by decide) Bt18 (lp_ck Ble (by decide) (regs_lp (regs_bk (regs_sr (regs_sl (regs_sr (regs_sr (regs_sr (regs_sr (regs_sr Bq))))))))) (by decide) Bt19 (lp_ck Ble (by decide) (regs_lp (regs_bk (regs_sr (regs_sl (regs_sr (regs_sr (regs_sr (regs_sr (regs_sr Bq))))))))) (by decide) Bt20 (lp_ck Ble (by decide) (regs_lp (regs_bk (regs_sr (regs_sl (regs_sr (regs_sr (regs_sr (regs_sr (regs_sr Bq))))))))) (by decide) Bt21 (lp_ck Ble (by decide) (regs_lp (regs_bk (regs_sr (regs_sl (regs_sr (regs_sr (regs_sr (regs_sr (regs_sr Bq))))))))) (by decide) Bt22 (lp_ck Ble (by decide) (regs_lp (regs_bk (regs_sr (regs_sl (regs_sr (regs_sr (regs_sr (regs_sr (regs_sr Bq))))))))) (by decide) Bt23 (rlpc (c := bk (sr (sl (sr (sr (sr (sr (sr (Bcode))))))))) (by kernel_rfl) Ble (by decide) (regs_bk (regs_sr (regs_sl (regs_sr (regs_sr (regs_sr (regs_sr (regs_sr Bq)))))))) (by decide) Bt24)))))))))))))))))))))) (run_pc Ble (by decide) (regs_sr (regs_sr (regs_sr (regs_sr (regs_sr (regs_sr Bq)))))) (by decide) Bt25)))))))
set_option maxRecDepth 1000000 in
theorem Bpt (w : World) (hp : PrimOk cfg1 w) : CallPt cfg1 w 18 Bargs Bs0 (.ret Bres) Bz26 :=
  callPt_run2 (drOk orders_cfg1) (call_good (drOk orders_cfg1) hp 1000) (fn := Tryz.f18) (func_cfg1 Tryz.func18) (c := Bcode) (by kernel_rfl) (nt := 51) (by kernel_rfl) (by decide) (by decide) (by kernel_rfl) Brun (by simp) (by kernel_rfl) (rs := Tryz.f18.results.toList) rfl (by kernel_rfl)
end Go.DM.FM
namespace Go.DM.FM
open Go Go.Proofs Go.Proofs.YtjcpllbpkdfakaaGreatDoor
noncomputable def FA : CallFact := ⟨89, Aargs, As0, Ares, Az11⟩
set_option maxRecDepth 1000000 in
theorem Axf : retX (fcall1 cfg0 orc (callT FA (fcall cfg0 orc 1000)) 1000 49 [tx] σ0) = some Ax := by kernel_rfl
theorem Axpt : ∃ σ1, ∀ w, PrimOk cfg0 w → CallPt cfg0 w 49 [tx] σ0 (.ret Ax) σ1 := by
  obtain ⟨σ1, h⟩ := retX_inv Axf
  refine ⟨σ1, fun w hp k us hI hg hr => ?_⟩
  exact call1_good (drOk orders_cfg0) hp (callT_ok (T := FA) (Apt w hp) (call_good (drOk orders_cfg0) hp 1000)) 1000 49 [tx] σ0 (.ret Ax) σ1 k us (fcall1_ok orcs_cfg0 (callT_le (fcall_ok orcs_cfg0 1000)) 1000 _ _ _ _ h) hI hg hr
theorem globs0 : ∀ g a, cfg0.glob g = some a → pureA a = true := fun _ _ h => by cases h
set_option maxRecDepth 1000000 in
theorem prims1 : PrimsOk cfg1 YtjcpllbpkdfakaaGreatDoor.Good := by
  obtain ⟨σ1, h⟩ := Axpt
  exact PrimsOk.add good_below prims globs0 (fun w hw => h w (prims w hw)) (by kernel_rfl) (by kernel_rfl)
set_option maxRecDepth 1000000 in
theorem prims2 : PrimsOk cfg2 YtjcpllbpkdfakaaGreatDoor.Good := PrimsOk.add good_below prims1 globs0 (fun w hw => Bpt w (prims1 w hw)) (by kernel_rfl) (by kernel_rfl)
end Go.DM.FM
