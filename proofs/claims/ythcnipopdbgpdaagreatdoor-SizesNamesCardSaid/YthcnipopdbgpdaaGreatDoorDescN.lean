/- A closed run out of its pieces, with the calls in it that have pieces of their own. No condition. -/
import Derived.Test.YthcnipopdbgpdaaGreatDoorDescTX
import Derived.Test.YthcnipopdbgpdaaGreatDoorFactN1
import Derived.Test.YthcnipopdbgpdaaGreatDoorFactN2
import Derived.Test.YthcnipopdbgpdaaGreatDoorFactN3
import Derived.Test.YthcnipopdbgpdaaGreatDoorFactN4
namespace Go.DM.FM.CN
open Go Go.Proofs
open Go.Proofs.YthcnipopdbgpdaaGreatDoor
set_option maxRecDepth 1000000
open TX
theorem orcs_run5 : Mt cfg5 Lj = true := by kernel_rfl
theorem orcs_cfg5 : OrcOk cfg5 orc := S6 orcs_run5
theorem orders_cfg5 : cfg5.P.follows .mixedOrders = true := Am
theorem func_cfg5 {f : FuncId} {fn : Func} (h : Tryz.prog.funcs[f]? = some fn) : cfg5.P.funcs[f]? = some fn := h
theorem prims5 : PrimsOk cfg5 YthcnipopdbgpdaaGreatDoor.Good := fun w hw => (TX.prims4) w hw
theorem EF5q : Ai cfg5 Ug Lk = true := by kernel_rfl
theorem EF13q : Ai cfg5 Rv Jy = true := by kernel_rfl
theorem Fq : Ai cfg5 B3 A1 = true := by kernel_rfl
noncomputable def E3cG : CallF := call cfg5 1000
theorem Jz : CallF.le I0 E3cG := Be orcs_cfg5 1000
theorem E3run : Run cfg5 E3cG 64 B2 A1 (Au 0 P8 ff0) E3s0 .ret E3p21 E3z21 := (Av (c := A1) (by kernel_rfl) (Af Jz (by decide) (Ab Fq) (by decide) E3t0) (Av (c := sr (A1)) (by kernel_rfl) (Af Jz (by decide) (Ab (Aa Fq)) (by decide) E3t1) (Av (c := sr (sr (A1))) (by kernel_rfl) (Af Jz (by decide) (Ab (Aa (Aa Fq))) (by decide) E3t2) (Av (c := sr (sr (sr (A1)))) (by kernel_rfl) (Af Jz (by decide) (Ab (Aa (Aa (Aa Fq)))) (by decide) E3t3) (Av (c := sr (sr (sr (sr (A1))))) (by kernel_rfl) (Av (c := sl (sr (sr (sr (sr (A1)))))) (by kernel_rfl) (Af Jz (by decide) (Ab (Ab (Aa (Aa (Aa (Aa Fq)))))) (by decide) E3t4) (Cd (c := sr (sl (sr (sr (sr (sr (A1))))))) (by kernel_rfl) (Dr (c := bk (sr (sl (sr (sr (sr (sr (A1)))))))) (by kernel_rfl) (Ad Jz (by decide) (Ag (Ac (Aa (Ab (Aa (Aa (Aa (Aa Fq)))))))) (by decide) E3t5 (Ad Jz (by decide) (Ag (Ac (Aa (Ab (Aa (Aa (Aa (Aa Fq)))))))) (by decide) E3t6 (Ad Jz (by decide) (Ag (Ac (Aa (Ab (Aa (Aa (Aa (Aa Fq)))))))) (by decide) E3t7 (Ad Jz (by decide) (Ag (Ac (Aa (Ab (Aa (Aa (Aa (Aa Fq)))))))) (by decide) E3t8 (Ad Jz (by decide) (Ag (Ac (Aa (Ab (Aa (Aa (Aa (Aa Fq)))))))) (by decide) E3t9 (Ad Jz (by decide) (Ag (Ac (Aa (Ab (Aa (Aa (Aa (Aa Fq)))))))) (by decide) E3t10 (Ad Jz (by decide) (Ag (Ac (Aa (Ab (Aa (Aa (Aa (Aa Fq)))))))) (by decide) E3t11 (Ad Jz (by decide) (Ag (Ac (Aa (Ab (Aa (Aa (Aa (Aa Fq)))))))) (by decide) E3t12 (Ad Jz (by decide) (Ag (Ac (Aa (Ab (Aa (Aa (Aa (Aa Fq)))))))) (by decide) E3t13 (Ad Jz (by decide) (Ag (Ac (Aa (Ab (Aa (Aa (Aa (Aa Fq)))))))) (by decide) E3t14 (Ad Jz (by decide) (Ag (Ac (Aa (Ab (Aa (Aa (Aa (Aa Fq)))))))) (by decide) E3t15 (Ad Jz (by decide) (Ag (Ac (Aa (Ab (Aa (Aa (Aa (Aa Fq)))))))) (by decide) E3t16 (Ad Jz (by decide) (Ag (Ac (Aa (Ab (Aa (Aa (Aa (Aa Fq)))))))) (by decide) E3t17 (Ad Jz (by decide) (Ag (Ac (Aa (Ab (Aa (Aa (Aa (Aa Fq)))))))) (by decide) E3t18 (Gd (c := bk (sr (sl (sr (sr (sr (sr (A1)))))))) (by kernel_rfl) Jz (by decide) (Ac (Aa (Ab (Aa (Aa (Aa (Aa Fq))))))) (by decide) E3t19)))))))))))))))))) (Af Jz (by decide) (Aa (Aa (Aa (Aa (Aa Fq))))) (by decide) E3t20))))))
theorem E3spt (w : World) (hp : Bv cfg5 w) : CallPt cfg5 w 30 P8 E3s0 (.ret E3res) E3z21 := A3 (Cn orders_cfg5) (A2 (Cn orders_cfg5) hp 1000) (fn := Tryz.f30) (func_cfg5 Tryz.func30) (c := A1) (by kernel_rfl) (nt := 64) (by kernel_rfl) (by decide) (by decide) (by kernel_rfl) E3run (by simp) (by kernel_rfl) (rs := Tryz.f30.results.toList) rfl (by kernel_rfl)
noncomputable def E2cG : CallF := G5 E3T E3kb E3kt (call cfg5 1000)
theorem E2le : CallF.le E2cF E2cG := Oi (T := E3T) E3kb E3kt (Be orcs_cfg5 1000)
theorem E2run : Run cfg5 E2cG 59 Ru Jy (Au 0 P7 ff0) E2s0 .ret E2p1 E2z1 := (Af E2le (by decide) EF13q (by decide) E2t0)
theorem E2spt (w : World) (hp : Bv cfg5 w) : CallPt cfg5 w 13 P7 E2s0 (.ret E2res) E2z1 := A3 (Cn orders_cfg5) (Oh (T := E3T) E3kb E3kt (E3spt w hp) (A2 (Cn orders_cfg5) hp 1000)) (fn := Tryz.f13) (func_cfg5 Tryz.func13) (c := Jy) (by kernel_rfl) (nt := 59) (by kernel_rfl) (by decide) (by decide) (by kernel_rfl) E2run (by simp) (by kernel_rfl) (rs := Tryz.f13.results.toList) rfl (by kernel_rfl)
noncomputable def E1cG : CallF := G5 E2T E2kb E2kt (call cfg5 1000)
theorem E1le : CallF.le E1cF E1cG := Oi (T := E2T) E2kb E2kt (Be orcs_cfg5 1000)
theorem E1run : Run cfg5 E1cG 18 Uf Lk (Au 0 E1args ff0) E1s0 .ret E1p1 E1z1 := (Af E1le (by decide) EF5q (by decide) E1t0)
theorem E1spt (w : World) (hp : Bv cfg5 w) : CallPt cfg5 w 5 E1args E1s0 (.ret E1res) E1z1 := A3 (Cn orders_cfg5) (Oh (T := E2T) E2kb E2kt (E2spt w hp) (A2 (Cn orders_cfg5) hp 1000)) (fn := Tryz.f5) (func_cfg5 Tryz.func5) (c := Lk) (by kernel_rfl) (nt := 18) (by kernel_rfl) (by decide) (by decide) (by kernel_rfl) E1run (by simp) (by kernel_rfl) (rs := Tryz.f5.results.toList) rfl (by kernel_rfl)
end Go.DM.FM.CN
