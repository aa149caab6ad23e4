/- A closed run out of its pieces. No condition. -/
import Derived.Test.YtjcpllbpkdfakaaGreatDoorDescU
import Derived.Test.YtjcpllbpkdfakaaGreatDoorFactK1
import Derived.Test.YtjcpllbpkdfakaaGreatDoorFactK2
import Derived.Test.YtjcpllbpkdfakaaGreatDoorFactK3
import Derived.Test.YtjcpllbpkdfakaaGreatDoorFactK4
import Derived.Test.YtjcpllbpkdfakaaGreatDoorDataK
namespace Go.DM.FM
open Go Go.Proofs
set_option maxRecDepth 1000000 in
theorem Kq : regsOk cfgK Kfast Kcode = true := by kernel_rfl
noncomputable def KcallG : CallF := call cfgK 1000
theorem Kle : CallF.le (fcall cfgK orc 1000) KcallG := fcall_ok orcs_cfgK 1000
set_option maxRecDepth 1000000 in
theorem Krun : Run cfgK KcallG 89 Klive Kcode (setArgs 0 Kargs ff0) Ks0 .ret Kp19 Kz19 := (rseq (c := Kcode) (by kernel_rfl) (run_pc Kle (by decide) (regs_sl Kq) (by decide) Kt0) (rseq (c := sr (Kcode)) (by kernel_rfl) (run_pc Kle (by decide) (regs_sl (regs_sr Kq)) (by decide) Kt1) (rseq (c := sr (sr (Kcode))) (by kernel_rfl) (run_pc Kle (by decide) (regs_sl (regs_sr (regs_sr Kq))) (by decide) Kt2) (rseq (c := sr (sr (sr (Kcode)))) (by kernel_rfl) (run_pc Kle (by decide) (regs_sl (regs_sr (regs_sr (regs_sr Kq)))) (by decide) Kt3) (rseq (c := sr (sr (sr (sr (Kcode))))) (by kernel_rfl) (run_pc Kle (by decide) (regs_sl (regs_sr (regs_sr (regs_sr (regs_sr Kq))))) (by decide) Kt4) (rseq (c := sr (sr (sr (sr (sr (Kcode)))))) (by kernel_rfl) (rseq (c := sl (sr (sr (sr (sr (sr (Kcode))))))) (by kernel_rfl) (run_pc Kle (by decide) (regs_sl (regs_sl (regs_sr (regs_sr (regs_sr (regs_sr (regs_sr Kq))))))) (by decide) Kt5) (rblockX (c := sr (sl (sr (sr (sr (sr (sr (Kcode)))))))) (by kernel_rfl) (rloop (c := bk (sr (sl (sr (sr (sr (sr (sr (Kcode))))))))) (by kernel_rfl) (lp_ck Kle (by decide) (regs_lp (regs_bk (regs_sr (regs_sl (regs_sr (regs_sr (regs_sr (regs_sr (regs_sr Kq))))))))) (by decide) Kt6 (lp_ck Kle (by decide) (regs_lp (regs_bk (regs_sr (regs_sl (regs_sr (regs_sr (regs_sr (regs_sr (regs_sr Kq))))))))) (by decide) Kt7 (lp_ck Kle (by decide) (regs_lp (regs_bk (regs_sr (regs_sl (regs_sr (regs_sr (regs_sr (regs_sr (regs_sr Kq))))))))) (by decide) Kt8 (lp_ck Kle (by decide) (regs_lp (regs_bk (regs_sr (regs_sl (regs_sr (regs_sr (regs_sr (regs_sr (regs_sr Kq))))))))) (by decide) Kt9 (lp_ck Kle (by decide) (regs_lp (regs_bk (regs_sr (regs_sl (regs_sr (regs_sr (regs_sr (regs_sr (regs_sr Kq))))))))) (by decide) Kt10 (lp_ck Kle (by decide) (regs_lp (regs_bk (regs_sr (regs_sl (regs_sr (regs_sr (regs_sr (regs_sr (regs_sr Kq))))))))) (by decide) Kt11 (lp_ck Kle (by decide) (regs_lp (regs_bk (regs_sr (regs_sl (regs_sr (regs_sr (regs_sr (regs_sr (regs_sr Kq))))))))) (by decide) Kt12 (lp_ck Kle (by decide) (regs_lp (regs_bk (regs_sr (regs_sl (regs_sr (regs_sr (regs_sr (regs_sr (regs_sr Kq))))))))) (by decide) Kt13 (lp_ck Kle (by decide) (regs_lp (regs_bk (regs_sr (regs_sl (regs_sr (regs_sr (regs_sr (regs_sr (regs_sr Kq))))))))) (by decide) Kt14 (lp_ck Kle (by decide) (regs_lp (regs_bk (regs_sr (regs_sl (regs_sr (regs_sr (regs_sr (regs_sr (regs_sr Kq))))))))) (by decide) Kt15 (lp_ck Kle (by decide) (regs_lp (regs_bk (regs_sr (regs_sl (regs_sr (regs_sr (regs_sr (regs_sr (regs_sr Kq))))))))) (by decide) Kt16 (rlpc (c := bk (sr (sl (sr (sr (sr (sr (sr (Kcode))))))))) (by kernel_rfl) Kle (by decide) (regs_bk (regs_sr (regs_sl (regs_sr (regs_sr (regs_sr (regs_sr (regs_sr Kq)))))))) (by decide) Kt17))))))))))))))) (run_pc Kle (by decide) (regs_sr (regs_sr (regs_sr (regs_sr (regs_sr (regs_sr Kq)))))) (by decide) Kt18)))))))
set_option maxRecDepth 1000000 in
theorem Kpt (w : World) (hp : PrimOk cfgK w) : CallPt cfgK w 19 Kargs Ks0 (.ret Kres) Kz19 :=
  callPt_run2 (drOk orders_cfgK) (call_good (drOk orders_cfgK) hp 1000) (fn := Tryz.f19) (func_cfgK Tryz.func19) (c := Kcode) (by kernel_rfl) (nt := 89) (by kernel_rfl) (by decide) (by decide) (by kernel_rfl) Krun (by simp) (by kernel_rfl) (rs := Tryz.f19.results.toList) rfl (by kernel_rfl)
end Go.DM.FM
namespace Go.DM.FM
open Go Go.Proofs
set_option maxRecDepth 1000000 in
theorem orcs_run5 : orcChk cfg5 orcList = true := by kernel_rfl
theorem orcs_cfg5 : OrcOk cfg5 orc := orc_ok orcs_run5
theorem orders_cfg5 : cfg5.P.follows .mixedOrders = true := orders_cfg0
theorem func_cfg5 {f : FuncId} {fn : Func} (h : Tryz.prog.funcs[f]? = some fn) : cfg5.P.funcs[f]? = some fn := h
end Go.DM.FM
namespace Go.DM.FM
open Go Go.Proofs Go.Proofs.YtjcpllbpkdfakaaGreatDoor
set_option maxRecDepth 1000000 in
theorem prims5 : PrimsOk cfg5 YtjcpllbpkdfakaaGreatDoor.Good := fun w hw => PrimsOk.addH good_below prims3 globs0 (x := Kres) (σ1 := Kz19) Kb11k (fun w hw => Kpt w (primsK w hw)) (by kernel_rfl) w hw
end Go.DM.FM
