/- The setting with the checker by hand too: what stays as it was. No condition. -/
import Derived.Test.YtjcpllbpkdfakaaGreatDoorDescT
import Derived.Test.YtjcpllbpkdfakaaGreatDoorDataC
import Derived.Test.YtjcpllbpkdfakaaGreatDoorFactC1
import Derived.Test.YtjcpllbpkdfakaaGreatDoorFactC2
import Derived.Test.YtjcpllbpkdfakaaGreatDoorFactC3
import Derived.Test.YtjcpllbpkdfakaaGreatDoorFactC4
namespace Go.DM.FM
open Go Go.Proofs
theorem orcs_cfg3 : OrcOk cfg3 orc := orcs_cfg2.add _ _ _
theorem orders_cfg3 : cfg3.P.follows .mixedOrders = true := orders_cfg0
theorem regs_K : OrcOk cfgK orc := by
  intro g a m fn c h1 h2 h3
  rw [regs_P (C := cfg3) (C' := cfgK) rfl rfl]
  exact orcs_cfg3 g a m fn c h1 h2 h3
theorem orcs_cfgK : OrcOk cfgK orc := regs_K
theorem orders_cfgK : cfgK.P.follows .mixedOrders = true := orders_cfg0
theorem func_cfgK {f : FuncId} {fn : Func} (h : Tryz.prog.funcs[f]? = some fn) : cfgK.P.funcs[f]? = some fn := h
end Go.DM.FM
namespace Go.DM.FM
open Go Go.Proofs
set_option maxRecDepth 1000000 in
theorem Cq : regsOk cfg2 Cfast Ccode = true := by kernel_rfl
noncomputable def CcallG : CallF := call cfg2 1000
theorem Cle : CallF.le (fcall cfg2 orc 1000) CcallG := fcall_ok orcs_cfg2 1000
set_option maxRecDepth 1000000 in
theorem Crun : Run cfg2 CcallG 78 Clive Ccode (setArgs 0 Cargs ff0) Cs0 .ret Cp19 Cz19 := (rseq (c := Ccode) (by kernel_rfl) (run_pc Cle (by decide) (regs_sl Cq) (by decide) Ct0) (rseq (c := sr (Ccode)) (by kernel_rfl) (run_pc Cle (by decide) (regs_sl (regs_sr Cq)) (by decide) Ct1) (rseq (c := sr (sr (Ccode))) (by kernel_rfl) (run_pc Cle (by decide) (regs_sl (regs_sr (regs_sr Cq))) (by decide) Ct2) (rseq (c := sr (sr (sr (Ccode)))) (by kernel_rfl) (run_pc Cle (by decide) (regs_sl (regs_sr (regs_sr (regs_sr Cq)))) (by decide) Ct3) (rseq (c := sr (sr (sr (sr (Ccode))))) (by kernel_rfl) (rseq (c := sl (sr (sr (sr (sr (Ccode)))))) (by kernel_rfl) (run_pc Cle (by decide) (regs_sl (regs_sl (regs_sr (regs_sr (regs_sr (regs_sr Cq)))))) (by decide) Ct4) (rblockX (c := sr (sl (sr (sr (sr (sr (Ccode))))))) (by kernel_rfl) (rloop (c := bk (sr (sl (sr (sr (sr (sr (Ccode)))))))) (by kernel_rfl) (lp_ck Cle (by decide) (regs_lp (regs_bk (regs_sr (regs_sl (regs_sr (regs_sr (regs_sr (regs_sr Cq)))))))) (by decide) Ct5 (lp_ck Cle (by decide) (regs_lp (regs_bk (regs_sr (regs_sl (regs_sr (regs_sr (regs_sr (regs_sr Cq)))))))) (by decide) Ct6 (lp_ck Cle (by decide) (regs_lp (regs_bk (regs_sr (regs_sl (regs_sr (regs_sr (regs_sr (regs_sr Cq)))))))) (by decide) Ct7 (lp_ck Cle (by decide) (regs_lp (regs_bk (regs_sr (regs_sl (regs_sr (regs_sr (regs_sr (regs_sr Cq)))))))) (by decide) Ct8 (lp_ck Cle (by decide) (regs_lp (regs_bk (regs_sr (regs_sl (regs_sr (regs_sr (regs_sr (regs_sr Cq)))))))) (by decide) Ct9 (lp_ck Cle (by decide) (regs_lp (regs_bk (regs_sr (regs_sl (regs_sr (regs_sr (regs_sr (regs_sr Cq)))))))) (by decide) Ct10 (lp_ck Cle (by decide) (regs_lp (regs_bk (regs_sr (regs_sl (regs_sr (regs_sr (regs_sr (regs_sr Cq)))))))) (by decide) Ct11 (rlpc (c := bk (sr (sl (sr (sr (sr (sr (Ccode)))))))) (by kernel_rfl) Cle (by decide) (regs_bk (regs_sr (regs_sl (regs_sr (regs_sr (regs_sr (regs_sr Cq))))))) (by decide) Ct12))))))))))) (rseq (c := sr (sr (sr (sr (sr (Ccode)))))) (by kernel_rfl) (rseq (c := sl (sr (sr (sr (sr (sr (Ccode))))))) (by kernel_rfl) (run_pc Cle (by decide) (regs_sl (regs_sl (regs_sr (regs_sr (regs_sr (regs_sr (regs_sr Cq))))))) (by decide) Ct13) (rblockX (c := sr (sl (sr (sr (sr (sr (sr (Ccode)))))))) (by kernel_rfl) (rloop (c := bk (sr (sl (sr (sr (sr (sr (sr (Ccode))))))))) (by kernel_rfl) (lp_ck Cle (by decide) (regs_lp (regs_bk (regs_sr (regs_sl (regs_sr (regs_sr (regs_sr (regs_sr (regs_sr Cq))))))))) (by decide) Ct14 (lp_ck Cle (by decide) (regs_lp (regs_bk (regs_sr (regs_sl (regs_sr (regs_sr (regs_sr (regs_sr (regs_sr Cq))))))))) (by decide) Ct15 (lp_ck Cle (by decide) (regs_lp (regs_bk (regs_sr (regs_sl (regs_sr (regs_sr (regs_sr (regs_sr (regs_sr Cq))))))))) (by decide) Ct16 (rlpc (c := bk (sr (sl (sr (sr (sr (sr (sr (Ccode))))))))) (by kernel_rfl) Cle (by decide) (regs_bk (regs_sr (regs_sl (regs_sr (regs_sr (regs_sr (regs_sr (regs_sr Cq)))))))) (by decide) Ct17))))))) (run_pc Cle (by decide) (regs_sr (regs_sr (regs_sr (regs_sr (regs_sr (regs_sr Cq)))))) (by decide) Ct18)))))))
set_option maxRecDepth 1000000 in
theorem Cpt (w : World) (hp : PrimOk cfg2 w) : CallPt cfg2 w 51 Cargs Cs0 (.ret Cres) Cz19 :=
  callPt_run2 (drOk orders_cfg2) (call_good (drOk orders_cfg2) hp 1000) (fn := Tryz.f51) (func_cfg2 Tryz.func51) (c := Ccode) (by kernel_rfl) (nt := 78) (by kernel_rfl) (by decide) (by decide) (by kernel_rfl) Crun (by simp) (by kernel_rfl) (rs := Tryz.f51.results.toList) rfl (by kernel_rfl)
end Go.DM.FM
namespace Go.DM.FM
open Go Go.Proofs Go.Proofs.YtjcpllbpkdfakaaGreatDoor
set_option maxRecDepth 1000000 in
theorem prims3 : PrimsOk cfg3 YtjcpllbpkdfakaaGreatDoor.Good := PrimsOk.add good_below prims2 globs0 (fun w hw => Cpt w (prims2 w hw)) (by kernel_rfl) (by kernel_rfl)
theorem primsK : PrimsOk cfgK YtjcpllbpkdfakaaGreatDoor.Good := PrimsOk.addG rfl orders_cfg0 prims3 200
end Go.DM.FM
