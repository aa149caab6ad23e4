/- The shipped description is read, checked and has its codec: these calls by hand. No condition. -/
import Derived.Test.YthcnipopdbgpdaaGreatDoorGlT
import Derived.Test.YthcnipopdbgpdaaGreatDoorFactTAA1
import Derived.Test.YthcnipopdbgpdaaGreatDoorFactTAB1
import Derived.Test.YthcnipopdbgpdaaGreatDoorFactTAB2
import Derived.Test.YthcnipopdbgpdaaGreatDoorFactTAC1
import Derived.Test.YthcnipopdbgpdaaGreatDoorFactTAC2
import Derived.Test.YthcnipopdbgpdaaGreatDoorFactTAK1
import Derived.Test.YthcnipopdbgpdaaGreatDoorFactTAK2
namespace Go.DM.FM.TA
open Go Go.Proofs
open Go.Proofs.YthcnipopdbgpdaaGreatDoor
set_option maxRecDepth 1000000
theorem Aq : regsOk cfg0 Afast Acode = true := by kernel_rfl
noncomputable def AcallG : CallF := call cfg0 1000
theorem Ale : CallF.le (fcall cfg0 orc 1000) AcallG := fcall_ok orcs_cfg0 1000
theorem Aq0 : regsOk cfg0 Afast (lp (bk (sr (sr Acode)))) = true := regs_lp (regs_bk (regs_sr (regs_sr Aq)))
theorem Arun : Run cfg0 AcallG 105 Alive Acode (setArgs 0 Aargs ff0) As0 .ret Ap9 Az9 := (rseq (c := Acode) (by kernel_rfl) (run_pc Ale (by decide) (regs_sl Aq) (by decide) At0) (rseq (c := sr (Acode)) (by kernel_rfl) (run_pc Ale (by decide) (regs_sl (regs_sr Aq)) (by decide) At1) (rblockN (c := sr (sr (Acode))) (id := 0) (by kernel_rfl) (by simp) (rloop (c := bk (sr (sr (Acode)))) (by kernel_rfl) (lp_ck Ale (by decide) Aq0 (by decide) At2 (lp_ck Ale (by decide) Aq0 (by decide) At3 (lp_ck Ale (by decide) Aq0 (by decide) At4 (lp_ck Ale (by decide) Aq0 (by decide) At5 (lp_ck Ale (by decide) Aq0 (by decide) At6 (lp_ck Ale (by decide) Aq0 (by decide) At7 (rlpc (c := bk (sr (sr (Acode)))) (by kernel_rfl) Ale (by decide) (regs_bk (regs_sr (regs_sr Aq))) (by decide) At8)))))))))))
theorem Apt (w : World) (hp : PrimOk cfg0 w) : CallPt cfg0 w 74 Aargs As0 (.ret Ares) Az9 :=
  callPt_run2 (drOk orders_cfg0) (call_good (drOk orders_cfg0) hp 1000) (fn := Tryz.f74) (func_cfg0 Tryz.func74) (c := Acode) (by kernel_rfl) (nt := 105) (by kernel_rfl) (by decide) (by decide) (by kernel_rfl) Arun (by simp) (by kernel_rfl) (rs := Tryz.f74.results.toList) rfl (by kernel_rfl)
noncomputable def FA : CallFact := ⟨74, Aargs, As0, Ares, Az9⟩
theorem Axf : retX (fcall1 cfg0 orc (callT FA (fcall cfg0 orc 1000)) 1000 33 [tx] σ0) = some Ax := by kernel_rfl
theorem Axpt : ∃ σ1, ∀ w, PrimOk cfg0 w → CallPt cfg0 w 33 [tx] σ0 (.ret Ax) σ1 := by
  obtain ⟨σ1, h⟩ := retX_inv Axf
  refine ⟨σ1, fun w hp k us hI hg hr => ?_⟩
  exact call1_good (drOk orders_cfg0) hp (callT_ok (T := FA) (Apt w hp) (call_good (drOk orders_cfg0) hp 1000)) 1000 33 [tx] σ0 (.ret Ax) σ1 k us (fcall1_ok orcs_cfg0 (callT_le (fcall_ok orcs_cfg0 1000)) 1000 _ _ _ _ h) hI hg hr
theorem prims1 : PrimsOk cfg1 YthcnipopdbgpdaaGreatDoor.Good := by
  obtain ⟨σ1, h⟩ := Axpt
  exact PrimsOk.add good_below prims globs0 (fun w hw => h w (prims w hw)) (by kernel_rfl) (by kernel_rfl)
theorem orcs_cfg1 : OrcOk cfg1 orc := orcs_cfg0.add _ _ _
theorem orders_cfg1 : cfg1.P.follows .mixedOrders = true := orders_cfg0
theorem func_cfg1 {f : FuncId} {fn : Func} (h : Tryz.prog.funcs[f]? = some fn) : cfg1.P.funcs[f]? = some fn := h
theorem Bq : regsOk cfg1 Bfast Bcode = true := by kernel_rfl
noncomputable def BcallG : CallF := call cfg1 1000
theorem Ble : CallF.le (fcall cfg1 orc 1000) BcallG := fcall_ok orcs_cfg1 1000
theorem Bq0 : regsOk cfg1 Bfast (lp (bk (sr (sl (sr (sr (sr (sr (sr Bcode))))))))) = true := regs_lp (regs_bk (regs_sr (regs_sl (regs_sr (regs_sr (regs_sr (regs_sr (regs_sr Bq))))))))
theorem Brun : Run cfg1 BcallG 51 Blive Bcode (setArgs 0 Bargs ff0) Bs0 .ret Bp20 Bz20 := (rseq (c := Bcode) (by kernel_rfl) (run_pc Ble (by decide) (regs_sl Bq) (by decide) Bt0) (rseq (c := sr (Bcode)) (by kernel_rfl) (run_pc Ble (by decide) (regs_sl (regs_sr Bq)) (by decide) Bt1) (rseq (c := sr (sr (Bcode))) (by kernel_rfl) (run_pc Ble (by decide) (regs_sl (regs_sr (regs_sr Bq))) (by decide) Bt2) (rseq (c := sr (sr (sr (Bcode)))) (by kernel_rfl) (run_pc Ble (by decide) (regs_sl (regs_sr (regs_sr (regs_sr Bq)))) (by decide) Bt3) (rseq (c := sr (sr (sr (sr (Bcode))))) (by kernel_rfl) (run_pc Ble (by decide) (regs_sl (regs_sr (regs_sr (regs_sr (regs_sr Bq))))) (by decide) Bt4) (rseq (c := sr (sr (sr (sr (sr (Bcode)))))) (by kernel_rfl) (rseq (c := sl (sr (sr (sr (sr (sr (Bcode))))))) (by kernel_rfl) (run_pc Ble (by decide) (regs_sl (regs_sl (regs_sr (regs_sr (regs_sr (regs_sr (regs_sr Bq))))))) (by decide) Bt5) (rblockX (c := sr (sl (sr (sr (sr (sr (sr (Bcode)))))))) (by kernel_rfl) (rloop (c := bk (sr (sl (sr (sr (sr (sr (sr (Bcode))))))))) (by kernel_rfl) (lp_ck Ble (by decide) Bq0 (by decide) Bt6 (lp_ck Ble (by decide) Bq0 (by decide) Bt7 (lp_ck Ble (by decide) Bq0 (by decide) Bt8 (lp_ck Ble (by decide) Bq0 (by decide) Bt9 (lp_ck Ble (by decide) Bq0 (by decide) Bt10 (lp_ck Ble (by decide) Bq0 (by decide) Bt11 (lp_ck Ble (by decide) Bq0 (by decide) Bt12 (lp_ck Ble (by decide) Bq0 (by decide) Bt13 (lp_ck Ble (by decide) Bq0 (by decide) Bt14 (lp_ck Ble (by decide) Bq0 (by decide) Bt15 (lp_ck Ble (by decide) Bq0 (by decide) Bt16 (lp_ck Ble (by decide) Bq0 (by decide) Bt17 (rlpc (c := bk (sr (sl (sr (sr (sr (sr (sr (Bcode))))))))) (by kernel_rfl) Ble (by decide) (regs_bk (regs_sr (regs_sl (regs_sr (regs_sr (regs_sr (regs_sr (regs_sr Bq)))))))) (by decide) Bt18)))))))))))))))) (run_pc Ble (by decide) (regs_sr (regs_sr (regs_sr (regs_sr (regs_sr (regs_sr Bq)))))) (by decide) Bt19)))))))
theorem Bpt (w : World) (hp : PrimOk cfg1 w) : CallPt cfg1 w 15 Bargs Bs0 (.ret Bres) Bz20 :=
  callPt_run2 (drOk orders_cfg1) (call_good (drOk orders_cfg1) hp 1000) (fn := Tryz.f15) (func_cfg1 Tryz.func15) (c := Bcode) (by kernel_rfl) (nt := 51) (by kernel_rfl) (by decide) (by decide) (by kernel_rfl) Brun (by simp) (by kernel_rfl) (rs := Tryz.f15.results.toList) rfl (by kernel_rfl)
theorem prims2 : PrimsOk cfg2 YthcnipopdbgpdaaGreatDoor.Good := PrimsOk.add good_below prims1 globs0 (fun w hw => Bpt w (prims1 w hw)) (by kernel_rfl) (by kernel_rfl)
theorem orcs_cfg2 : OrcOk cfg2 orc := orcs_cfg1.add _ _ _
theorem orders_cfg2 : cfg2.P.follows .mixedOrders = true := orders_cfg0
theorem func_cfg2 {f : FuncId} {fn : Func} (h : Tryz.prog.funcs[f]? = some fn) : cfg2.P.funcs[f]? = some fn := h
theorem Cq : regsOk cfg2 Cfast Ccode = true := by kernel_rfl
noncomputable def CcallG : CallF := call cfg2 1000
theorem Cle : CallF.le (fcall cfg2 orc 1000) CcallG := fcall_ok orcs_cfg2 1000
theorem Cq0 : regsOk cfg2 Cfast (lp (bk (sr (sl (sr (sr (sr (sr Ccode)))))))) = true := regs_lp (regs_bk (regs_sr (regs_sl (regs_sr (regs_sr (regs_sr (regs_sr Cq)))))))
theorem Crun : Run cfg2 CcallG 78 Clive Ccode (setArgs 0 Cargs ff0) Cs0 .ret Cp16 Cz16 := (rseq (c := Ccode) (by kernel_rfl) (run_pc Cle (by decide) (regs_sl Cq) (by decide) Ct0) (rseq (c := sr (Ccode)) (by kernel_rfl) (run_pc Cle (by decide) (regs_sl (regs_sr Cq)) (by decide) Ct1) (rseq (c := sr (sr (Ccode))) (by kernel_rfl) (run_pc Cle (by decide) (regs_sl (regs_sr (regs_sr Cq))) (by decide) Ct2) (rseq (c := sr (sr (sr (Ccode)))) (by kernel_rfl) (run_pc Cle (by decide) (regs_sl (regs_sr (regs_sr (regs_sr Cq)))) (by decide) Ct3) (rseq (c := sr (sr (sr (sr (Ccode))))) (by kernel_rfl) (rseq (c := sl (sr (sr (sr (sr (Ccode)))))) (by kernel_rfl) (run_pc Cle (by decide) (regs_sl (regs_sl (regs_sr (regs_sr (regs_sr (regs_sr Cq)))))) (by decide) Ct4) (rblockX (c := sr (sl (sr (sr (sr (sr (Ccode))))))) (by kernel_rfl) (rloop (c := bk (sr (sl (sr (sr (sr (sr (Ccode)))))))) (by kernel_rfl) (lp_ck Cle (by decide) Cq0 (by decide) Ct5 (lp_ck Cle (by decide) Cq0 (by decide) Ct6 (lp_ck Cle (by decide) Cq0 (by decide) Ct7 (lp_ck Cle (by decide) Cq0 (by decide) Ct8 (lp_ck Cle (by decide) Cq0 (by decide) Ct9 (rlpc (c := bk (sr (sl (sr (sr (sr (sr (Ccode)))))))) (by kernel_rfl) Cle (by decide) (regs_bk (regs_sr (regs_sl (regs_sr (regs_sr (regs_sr (regs_sr Cq))))))) (by decide) Ct10))))))))) (rseq (c := sr (sr (sr (sr (sr (Ccode)))))) (by kernel_rfl) (rseq (c := sl (sr (sr (sr (sr (sr (Ccode))))))) (by kernel_rfl) (run_pc Cle (by decide) (regs_sl (regs_sl (regs_sr (regs_sr (regs_sr (regs_sr (regs_sr Cq))))))) (by decide) Ct11) (rblockX (c := sr (sl (sr (sr (sr (sr (sr (Ccode)))))))) (by kernel_rfl) (rloop (c := bk (sr (sl (sr (sr (sr (sr (sr (Ccode))))))))) (by kernel_rfl) (lp_ck Cle (by decide) (regs_lp (regs_bk (regs_sr (regs_sl (regs_sr (regs_sr (regs_sr (regs_sr (regs_sr Cq))))))))) (by decide) Ct12 (lp_ck Cle (by decide) (regs_lp (regs_bk (regs_sr (regs_sl (regs_sr (regs_sr (regs_sr (regs_sr (regs_sr Cq))))))))) (by decide) Ct13 (rlpc (c := bk (sr (sl (sr (sr (sr (sr (sr (Ccode))))))))) (by kernel_rfl) Cle (by decide) (regs_bk (regs_sr (regs_sl (regs_sr (regs_sr (regs_sr (regs_sr (regs_sr Cq)))))))) (by decide) Ct14)))))) (run_pc Cle (by decide) (regs_sr (regs_sr (regs_sr (regs_sr (regs_sr (regs_sr Cq)))))) (by decide) Ct15)))))))
theorem Cpt (w : World) (hp : PrimOk cfg2 w) : CallPt cfg2 w 9 Cargs Cs0 (.ret Cres) Cz16 :=
  callPt_run2 (drOk orders_cfg2) (call_good (drOk orders_cfg2) hp 1000) (fn := Tryz.f9) (func_cfg2 Tryz.func9) (c := Ccode) (by kernel_rfl) (nt := 78) (by kernel_rfl) (by decide) (by decide) (by kernel_rfl) Crun (by simp) (by kernel_rfl) (rs := Tryz.f9.results.toList) rfl (by kernel_rfl)
theorem prims3 : PrimsOk cfg3 YthcnipopdbgpdaaGreatDoor.Good := PrimsOk.add good_below prims2 globs0 (fun w hw => Cpt w (prims2 w hw)) (by kernel_rfl) (by kernel_rfl)
theorem primsK : PrimsOk cfgK YthcnipopdbgpdaaGreatDoor.Good := PrimsOk.addG rfl orders_cfg0 prims3 200
theorem orcs_cfg3 : OrcOk cfg3 orc := orcs_cfg2.add _ _ _
theorem orcs_cfgK : OrcOk cfgK orc := by
  intro g a m fn c h1 h2 h3
  rw [regs_P (C := cfg3) (C' := cfgK) rfl rfl]
  exact orcs_cfg3 g a m fn c h1 h2 h3
theorem orders_cfgK : cfgK.P.follows .mixedOrders = true := orders_cfg0
theorem func_cfgK {f : FuncId} {fn : Func} (h : Tryz.prog.funcs[f]? = some fn) : cfgK.P.funcs[f]? = some fn := h
theorem Kq : regsOk cfgK Kfast Kcode = true := by kernel_rfl
noncomputable def KcallG : CallF := call cfgK 1000
theorem Kle : CallF.le (fcall cfgK orc 1000) KcallG := fcall_ok orcs_cfgK 1000
theorem Kq0 : regsOk cfgK Kfast (lp (bk (sr (sl (sr (sr (sr (sr (sr Kcode))))))))) = true := regs_lp (regs_bk (regs_sr (regs_sl (regs_sr (regs_sr (regs_sr (regs_sr (regs_sr Kq))))))))
theorem Krun : Run cfgK KcallG 89 Klive Kcode (setArgs 0 Kargs ff0) Ks0 .ret Kp17 Kz17 := (rseq (c := Kcode) (by kernel_rfl) (run_pc Kle (by decide) (regs_sl Kq) (by decide) Kt0) (rseq (c := sr (Kcode)) (by kernel_rfl) (run_pc Kle (by decide) (regs_sl (regs_sr Kq)) (by decide) Kt1) (rseq (c := sr (sr (Kcode))) (by kernel_rfl) (run_pc Kle (by decide) (regs_sl (regs_sr (regs_sr Kq))) (by decide) Kt2) (rseq (c := sr (sr (sr (Kcode)))) (by kernel_rfl) (run_pc Kle (by decide) (regs_sl (regs_sr (regs_sr (regs_sr Kq)))) (by decide) Kt3) (rseq (c := sr (sr (sr (sr (Kcode))))) (by kernel_rfl) (run_pc Kle (by decide) (regs_sl (regs_sr (regs_sr (regs_sr (regs_sr Kq))))) (by decide) Kt4) (rseq (c := sr (sr (sr (sr (sr (Kcode)))))) (by kernel_rfl) (rseq (c := sl (sr (sr (sr (sr (sr (Kcode))))))) (by kernel_rfl) (run_pc Kle (by decide) (regs_sl (regs_sl (regs_sr (regs_sr (regs_sr (regs_sr (regs_sr Kq))))))) (by decide) Kt5) (rblockX (c := sr (sl (sr (sr (sr (sr (sr (Kcode)))))))) (by kernel_rfl) (rloop (c := bk (sr (sl (sr (sr (sr (sr (sr (Kcode))))))))) (by kernel_rfl) (lp_ck Kle (by decide) Kq0 (by decide) Kt6 (lp_ck Kle (by decide) Kq0 (by decide) Kt7 (lp_ck Kle (by decide) Kq0 (by decide) Kt8 (lp_ck Kle (by decide) Kq0 (by decide) Kt9 (lp_ck Kle (by decide) Kq0 (by decide) Kt10 (lp_ck Kle (by decide) Kq0 (by decide) Kt11 (lp_ck Kle (by decide) Kq0 (by decide) Kt12 (lp_ck Kle (by decide) Kq0 (by decide) Kt13 (lp_ck Kle (by decide) Kq0 (by decide) Kt14 (rlpc (c := bk (sr (sl (sr (sr (sr (sr (sr (Kcode))))))))) (by kernel_rfl) Kle (by decide) (regs_bk (regs_sr (regs_sl (regs_sr (regs_sr (regs_sr (regs_sr (regs_sr Kq)))))))) (by decide) Kt15))))))))))))) (run_pc Kle (by decide) (regs_sr (regs_sr (regs_sr (regs_sr (regs_sr (regs_sr Kq)))))) (by decide) Kt16)))))))
theorem Kpt (w : World) (hp : PrimOk cfgK w) : CallPt cfgK w 10 Kargs Ks0 (.ret Kres) Kz17 :=
  callPt_run2 (drOk orders_cfgK) (call_good (drOk orders_cfgK) hp 1000) (fn := Tryz.f10) (func_cfgK Tryz.func10) (c := Kcode) (by kernel_rfl) (nt := 89) (by kernel_rfl) (by decide) (by decide) (by kernel_rfl) Krun (by simp) (by kernel_rfl) (rs := Tryz.f10.results.toList) rfl (by kernel_rfl)
theorem prims4 : PrimsOk cfg4 YthcnipopdbgpdaaGreatDoor.Good := PrimsOk.addH good_below prims3 globs0 (x := Kres) (σ1 := Kz17) Kb8k (fun w hw => Kpt w (primsK w hw)) (by kernel_rfl)
end Go.DM.FM.TA
