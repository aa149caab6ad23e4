/- The setting with the checker by hand too: what stays as it was. No condition. -/
import Derived.Test.YtiommdibonjgjaaGreatDoorDescT
import Derived.Test.YtiommdibonjgjaaGreatDoorDataC
import Derived.Test.YtiommdibonjgjaaGreatDoorFactC1
import Derived.Test.YtiommdibonjgjaaGreatDoorFactC2
import Derived.Test.YtiommdibonjgjaaGreatDoorFactC3
import Derived.Test.YtiommdibonjgjaaGreatDoorFactC4
namespace Go.DM.FM
open Go Go.Proofs
theorem orcs_cfg3 : OrcOk cfg3 orc := orcs_cfg2.add _ _ _
theorem orders_cfg3 : cfg3.P.follows .mixedOrders = true := orders_cfg0
end Go.DM.FM
namespace Go.DM.FM
open Go Go.Proofs
set_option maxRecDepth 1000000 in
theorem Cq : regsOk cfg2 Cfast Ccode = true := by kernel_rfl
noncomputable def CcallG : CallF := call cfg2 1000
theorem Cle : CallF.le (fcall cfg2 orc 1000) CcallG := fcall_ok orcs_cfg2 1000
set_option maxRecDepth 1000000 in
theorem Crun : Run cfg2 CcallG 78 Clive Ccode (setArgs 0 Cargs ff0) Cs0 .ret Cp19 Cz19 := (rseq (c := Ccode) (by kernel_rfl) (run_pc Cle (by decide) (regs_sl Cq) (by decide) Ct0) (rseq (c := sr (Ccode)) (by kernel_rfl) (run_pc Cle (by decide) (regs_sl (regs_sr Cq)) (by decide) Ct1) (rseq (c := sr (sr (Ccode))) (by kernel_rfl) (run_pc Cle (by decide) (regs_sl (regs_sr (regs_sr Cq))) (by decide) Ct2) (rseq (c := sr (sr (sr (Ccode)))) (by kernel_rfl) (run_pc Cle (by decide) (regs_sl (regs_sr (regs_sr (regs_sr Cq)))) (by decide) Ct3) (rseq (c := sr (sr (sr (sr (Ccode))))) (by kernel_rfl) (rseq (c := sl (sr (sr (sr (sr (Ccode)))))) (by kernel_rfl) (run_pc Cle (by decide) (regs_sl (regs_sl (regs_sr (regs_sr (regs_sr (regs_sr Cq)))))) (by decide) Ct4) (rblockX (c := sr (sl (sr (sr (sr (sr (Ccode))))))) (by kernel_rfl) (rloop (c := bk (sr (sl (sr (sr (sr (sr (Ccode)))))))) (by kernel_rfl) (lp_ck Cle (by decide) (regs_lp (regs_bk (regs_sr (regs_sl (regs_sr (regs_sr (regs_sr (regs_sr Cq)))))))) (by decide) Ct5 (lp_ck Cle (by decide) (regs_lp (regs_bk (regs_sr (regs_sl (regs_sr (regs_sr (regs_sr (regs_sr Cq)))))))) (by decide) Ct6 (lp_ck Cle (by decide) (regs_lp (regs_bk (regs_sr (regs_sl (regs_sr (regs_sr (regs_sr (regs_sr Cq)))))))) (by decide) Ct7 (lp_ck Cle (by decide) (regs_lp (regs_bk (regs_sr (regs_sl (regs_sr (regs_sr (regs_sr (regs_sr Cq)))))))) (by decide) Ct8 (lp_ck Cle (by decide) (regs_lp (regs_bk (regs_sr (regs_sl (regs_sr (regs_sr (regs_sr (regs_sr Cq)))))))) (by decide) Ct9 (lp_ck Cle (by decide) (regs_lp (regs_bk (regs_sr (regs_sl (regs_sr (regs_sr (regs_sr (regs_sr Cq)))))))) (by decide) Ct10 (lp_ck Cle (by decide) (regs_lp (regs_bk (regs_sr (regs_sl (regs_sr (regs_sr (regs_sr (regs_sr Cq)))))))) (by decide) Ct11 (rlpc (c := bk (sr (sl (sr (sr (sr (sr (Ccode)))))))) (by kernel_rfl) Cle (by decide) (regs_bk (regs_sr (regs_sl (regs_sr (regs_sr (regs_sr (regs_sr Cq))))))) (by decide) Ct12))))))))))) (rseq (c := sr (sr (sr (sr (sr (Ccode)))))) (by kernel_rfl) (rseq (c := sl (sr (sr (sr (sr (sr (Ccode))))))) (by kernel_rfl) (run_pc Cle (by decide) (regs_sl (regs_sl (regs_sr (regs_sr (regs_sr (regs_sr (regs_sr Cq))))))) (by decide) Ct13) (rblockX (c := sr (sl (sr (sr (sr (sr (sr (Ccode)))))))) (by kernel_rfl) (rloop (c := bk (sr (sl (sr (sr (sr (sr (sr (Ccode))))))))) (by kernel_rfl) (lp_ck Cle (by decide) (regs_lp (regs_bk (regs_sr (regs_sl (regs_sr (regs_sr (regs_sr (regs_sr (regs_sr Cq))))))))) (by decide) Ct14 (lp_ck Cle (by decide) (regs_lp (regs_bk (regs_sr (regs_sl (regs_sr (regs_sr (regs_sr (regs_sr (regs_sr Cq))))))))) (by decide) Ct15 (lp_ck Cle (by decide) (regs_lp (regs_bk (regs_sr (regs_sl (regs_sr (regs_sr (regs_sr (regs_sr (regs_sr Cq))))))))) (by decide) Ct16 (rlpc (c := bk (sr (sl (sr (sr (sr (sr (sr (Ccode))))))))) (by kernel_rfl) Cle (by decide) (regs_bk (regs_sr (regs_sl (regs_sr (regs_sr (regs_sr (regs_sr (regs_sr Cq)))))))) (by decide) Ct17))))))) (run_pc Cle (by decide) (regs_sr (regs_sr (regs_sr (regs_sr (regs_sr (regs_sr Cq)))))) (by decide) Ct18)))))))
set_option maxRecDepth 1000000 in
theorem Cpt (w : World) (hp : PrimOk cfg2 w) : CallPt cfg2 w 18 Cargs Cs0 (.ret Cres) Cz19 :=
  callPt_run2 (drOk orders_cfg2) (call_good (drOk orders_cfg2) hp 1000) (fn := Tryz.f18) (func_cfg2 Tryz.func18) (c := Ccode) (by kernel_rfl) (nt := 78) (by kernel_rfl) (by decide) (by decide) (by kernel_rfl) Crun (by simp) (by kernel_rfl) (rs := Tryz.f18.results.toList) rfl (by kernel_rfl)
end Go.DM.FM
namespace Go.DM.FM
open Go Go.Proofs Go.Proofs.YtiommdibonjgjaaGreatDoor
set_option maxRecDepth 1000000 in
theorem prims3 : PrimsOk cfg3 YtiommdibonjgjaaGreatDoor.Good := PrimsOk.add good_below prims2 globs0 (fun w hw => Cpt w (prims2 w hw)) (by kernel_rfl) (by kernel_rfl)
end Go.DM.FM
