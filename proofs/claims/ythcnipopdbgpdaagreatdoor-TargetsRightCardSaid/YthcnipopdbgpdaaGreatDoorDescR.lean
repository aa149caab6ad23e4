/- A closed run out of its pieces, with the calls in it that have pieces of their own. No condition. -/
import Derived.Test.YthcnipopdbgpdaaGreatDoorDescTR
import Derived.Test.YthcnipopdbgpdaaGreatDoorDescTA
import Derived.Test.YthcnipopdbgpdaaGreatDoorDescTX
import Derived.Test.YthcnipopdbgpdaaGreatDoorFactR1
namespace Go.DM.FM.CR
open Go Go.Proofs
open Go.Proofs.YthcnipopdbgpdaaGreatDoor
set_option maxRecDepth 1000000
theorem orcs_run5 : orcChk cfg5 orcList = true := by kernel_rfl
theorem orcs_cfg5 : OrcOk cfg5 orc := orc_ok orcs_run5
theorem orders_cfg5 : cfg5.P.follows .mixedOrders = true := orders_cfg0
theorem func_cfg5 {f : FuncId} {fn : Func} (h : Tryz.prog.funcs[f]? = some fn) : cfg5.P.funcs[f]? = some fn := h
theorem prims5 : PrimsOk cfg5 YthcnipopdbgpdaaGreatDoor.Good := fun w hw => (PrimsOk.or (C := TR.cfg4) (D := TA.cfg4.or TX.cfg4) rfl rfl TR.prims4 (PrimsOk.or (C := TA.cfg4) (D := TX.cfg4) rfl rfl TA.prims4 TX.prims4) : PrimsOk (TR.cfg4.or (TA.cfg4.or TX.cfg4)) YthcnipopdbgpdaaGreatDoor.Good) w hw
theorem EF3q : regsOk cfg5 EF3fast EF3code = true := by kernel_rfl
noncomputable def E1cG : CallF := call cfg5 1000
theorem E1le : CallF.le E1cF E1cG := fcall_ok orcs_cfg5 1000
theorem E1run : Run cfg5 E1cG 47 EF3live EF3code (setArgs 0 E1args ff0) E1s0 .ret E1p1 E1z1 := (run_pc E1le (by decide) EF3q (by decide) E1t0)
theorem E1spt (w : World) (hp : PrimOk cfg5 w) : CallPt cfg5 w 3 E1args E1s0 (.ret E1res) E1z1 := callPt_run2 (drOk orders_cfg5) (call_good (drOk orders_cfg5) hp 1000) (fn := Tryz.f3) (func_cfg5 Tryz.func3) (c := EF3code) (by kernel_rfl) (nt := 47) (by kernel_rfl) (by decide) (by decide) (by kernel_rfl) E1run (by simp) (by kernel_rfl) (rs := Tryz.f3.results.toList) rfl (by kernel_rfl)
end Go.DM.FM.CR
