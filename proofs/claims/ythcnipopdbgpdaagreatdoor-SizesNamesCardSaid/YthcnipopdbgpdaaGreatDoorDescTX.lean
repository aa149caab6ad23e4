/- The shipped description is read, checked and has its codec: these calls by hand. No condition. -/
import Derived.Test.YthcnipopdbgpdaaGreatDoorGlT
import Derived.Test.YthcnipopdbgpdaaGreatDoorFactTXA1
import Derived.Test.YthcnipopdbgpdaaGreatDoorFactTXB1
import Derived.Test.YthcnipopdbgpdaaGreatDoorFactTXB2
import Derived.Test.YthcnipopdbgpdaaGreatDoorFactTXB3
import Derived.Test.YthcnipopdbgpdaaGreatDoorFactTXC1
import Derived.Test.YthcnipopdbgpdaaGreatDoorFactTXC2
import Derived.Test.YthcnipopdbgpdaaGreatDoorFactTXK1
import Derived.Test.YthcnipopdbgpdaaGreatDoorFactTXK2
namespace Go.DM.FM.TX
open Go Go.Proofs
open Go.Proofs.YthcnipopdbgpdaaGreatDoor
set_option maxRecDepth 1000000
theorem Aq : Ai cfg0 Afast Acode = true := by kernel_rfl
noncomputable def AcallG : CallF := call cfg0 1000
theorem Ale : CallF.le (A9 cfg0 orc 1000) AcallG := Be B6 1000
theorem Aq0 : Ai cfg0 Afast (lp (bk (sr (sr Acode)))) = true := Ag (Ac (Aa (Aa Aq)))
theorem Arun : Run cfg0 AcallG 105 Alive Acode (Au 0 Aargs ff0) As0 .ret Ap13 Az13 := (Av (c := Acode) (by kernel_rfl) (Af Ale (by decide) (Ab Aq) (by decide) At0) (Av (c := sr (Acode)) (by kernel_rfl) (Af Ale (by decide) (Ab (Aa Aq)) (by decide) At1) (H4 (c := sr (sr (Acode))) (id := 0) (by kernel_rfl) (by simp) (Dr (c := bk (sr (sr (Acode)))) (by kernel_rfl) (Ad Ale (by decide) Aq0 (by decide) At2 (Ad Ale (by decide) Aq0 (by decide) At3 (Ad Ale (by decide) Aq0 (by decide) At4 (Ad Ale (by decide) Aq0 (by decide) At5 (Ad Ale (by decide) Aq0 (by decide) At6 (Ad Ale (by decide) Aq0 (by decide) At7 (Ad Ale (by decide) Aq0 (by decide) At8 (Ad Ale (by decide) Aq0 (by decide) At9 (Ad Ale (by decide) Aq0 (by decide) At10 (Ad Ale (by decide) Aq0 (by decide) At11 (Gd (c := bk (sr (sr (Acode)))) (by kernel_rfl) Ale (by decide) (Ac (Aa (Aa Aq))) (by decide) At12)))))))))))))))
theorem Apt (w : World) (hp : Bv cfg0 w) : CallPt cfg0 w 74 Aargs As0 (.ret Ares) Az13 :=
  A3 (Cn Am) (A2 (Cn Am) hp 1000) (fn := Tryz.f74) (Ku Tryz.func74) (c := Acode) (by kernel_rfl) (nt := 105) (by kernel_rfl) (by decide) (by decide) (by kernel_rfl) Arun (by simp) (by kernel_rfl) (rs := Tryz.f74.results.toList) rfl (by kernel_rfl)
noncomputable def FA : Ck := ⟨74, Aargs, As0, Ares, Az13⟩
theorem Axf : retX (Mu cfg0 orc (K7 FA (A9 cfg0 orc 1000)) 1000 33 [tx] σ0) = some Ax := by kernel_rfl
theorem Axpt : ∃ σ1, ∀ w, Bv cfg0 w → CallPt cfg0 w 33 [tx] σ0 (.ret Ax) σ1 := by
  obtain ⟨σ1, h⟩ := M8 Axf
  refine ⟨σ1, fun w hp k us hI hg hr => ?_⟩
  exact Iu (Cn Am) hp (Ml (T := FA) (Apt w hp) (A2 (Cn Am) hp 1000)) 1000 33 [tx] σ0 (.ret Ax) σ1 k us (H3 B6 (M7 (Be B6 1000)) 1000 _ _ _ _ h) hI hg hr
theorem prims1 : PrimsOk cfg1 YthcnipopdbgpdaaGreatDoor.Good := by
  obtain ⟨σ1, h⟩ := Axpt
  exact PrimsOk.add Bw Og Eg (fun w hw => h w (Og w hw)) (by kernel_rfl) (by kernel_rfl)
theorem orcs_cfg1 : OrcOk cfg1 orc := B6.add _ _ _
theorem orders_cfg1 : cfg1.P.follows .mixedOrders = true := Am
theorem func_cfg1 {f : FuncId} {fn : Func} (h : Tryz.prog.funcs[f]? = some fn) : cfg1.P.funcs[f]? = some fn := h
theorem Bq : Ai cfg1 Bfast Bcode = true := by kernel_rfl
noncomputable def BcallG : CallF := call cfg1 1000
theorem Ble : CallF.le (A9 cfg1 orc 1000) BcallG := Be orcs_cfg1 1000
theorem Bq0 : Ai cfg1 Bfast (lp (bk (sr (sl (sr (sr (sr (sr (sr Bcode))))))))) = true := Ag (Ac (Aa (Ab (Aa (Aa (Aa (Aa (Aa Bq))))))))
theorem Brun : Run cfg1 BcallG 51 Blive Bcode (Au 0 Bargs ff0) Bs0 .ret Bp27 Bz27 := (Av (c := Bcode) (by kernel_rfl) (Af Ble (by decide) (Ab Bq) (by decide) Bt0) (Av (c := sr (Bcode)) (by kernel_rfl) (Af Ble (by decide) (Ab (Aa Bq)) (by decide) Bt1) (Av (c := sr (sr (Bcode))) (by kernel_rfl) (Af Ble (by decide) (Ab (Aa (Aa Bq))) (by decide) Bt2) (Av (c := sr (sr (sr (Bcode)))) (by kernel_rfl) (Af Ble (by decide) (Ab (Aa (Aa (Aa Bq)))) (by decide) Bt3) (Av (c := sr (sr (sr (sr (Bcode))))) (by kernel_rfl) (Af Ble (by decide) (Ab (Aa (Aa (Aa (Aa Bq))))) (by decide) Bt4) (Av (c := sr (sr (sr (sr (sr (Bcode)))))) (by kernel_rfl) (Av (c := sl (sr (sr (sr (sr (sr (Bcode))))))) (by kernel_rfl) (Af Ble (by decide) (Ab (Ab (Aa (Aa (Aa (Aa (Aa Bq))))))) (by decide) Bt5) (Cd (c := sr (sl (sr (sr (sr (sr (sr (Bcode)))))))) (by kernel_rfl) (Dr (c := bk (sr (sl (sr (sr (sr (sr (sr (Bcode))))))))) (by kernel_rfl) (Ad Ble (by decide) Bq0 (by decide) Bt6 (Ad Ble (by decide) Bq0 (by decide) Bt7 (Ad Ble (by decide) Bq0 (by decide) Bt8 (Ad Ble (by decide) Bq0 (by decide) Bt9 (Ad Ble (by decide) Bq0 (by decide) Bt10 (Ad Ble (by decide) Bq0 (by decide) Bt11 (Ad Ble (by decide) Bq0 (by decide) Bt12 (Ad Ble (by decide) Bq0 (by decide) Bt13 (Ad Ble (by decide) Bq0 (by decide) Bt14 (Ad Ble (by decide) Bq0 (by decide) Bt15 (Ad Ble (by decide) Bq0 (by decide) Bt16 (Ad Ble (by decide) Bq0 (by decide) Bt17 (Ad Ble (by decide) Bq0 (by decide) Bt18 (Ad Ble (by decide) Bq0 (by decide) Bt19 (Ad Ble (by decide) Bq0 (by decide) Bt20 (Ad Ble (by decide) Bq0 (by decide) Bt21 (Ad Ble (by decide) Bq0 (by decide) Bt22 (Ad Ble (by decide) Bq0 (by decide) Bt23 (Ad Ble (by decide) Bq0 (by decide) Bt24 (Gd (c := bk (sr (sl (sr (sr (sr (sr (sr (Bcode))))))))) (by kernel_rfl) Ble (by decide) (Ac (Aa (Ab (Aa (Aa (Aa (Aa (Aa Bq)))))))) (by decide) Bt25))))))))))))))))))))))) (Af Ble (by decide) (Aa (Aa (Aa (Aa (Aa (Aa Bq)))))) (by decide) Bt26)))))))
theorem Bpt (w : World) (hp : Bv cfg1 w) : CallPt cfg1 w 15 Bargs Bs0 (.ret Bres) Bz27 :=
  A3 (Cn orders_cfg1) (A2 (Cn orders_cfg1) hp 1000) (fn := Tryz.f15) (func_cfg1 Tryz.func15) (c := Bcode) (by kernel_rfl) (nt := 51) (by kernel_rfl) (by decide) (by decide) (by kernel_rfl) Brun (by simp) (by kernel_rfl) (rs := Tryz.f15.results.toList) rfl (by kernel_rfl)
theorem prims2 : PrimsOk cfg2 YthcnipopdbgpdaaGreatDoor.Good := PrimsOk.add Bw prims1 Eg (fun w hw => Bpt w (prims1 w hw)) (by kernel_rfl) (by kernel_rfl)
theorem orcs_cfg2 : OrcOk cfg2 orc := orcs_cfg1.add _ _ _
theorem orders_cfg2 : cfg2.P.follows .mixedOrders = true := Am
theorem func_cfg2 {f : FuncId} {fn : Func} (h : Tryz.prog.funcs[f]? = some fn) : cfg2.P.funcs[f]? = some fn := h
theorem Cq : Ai cfg2 Cfast Ccode = true := by kernel_rfl
noncomputable def CcallG : CallF := call cfg2 1000
theorem Cle : CallF.le (A9 cfg2 orc 1000) CcallG := Be orcs_cfg2 1000
theorem Cq0 : Ai cfg2 Cfast (lp (bk (sr (sl (sr (sr (sr (sr Ccode)))))))) = true := Ag (Ac (Aa (Ab (Aa (Aa (Aa (Aa Cq)))))))
theorem Cq1 : Ai cfg2 Cfast (lp (bk (sr (sl (sr (sr (sr (sr (sr Ccode))))))))) = true := Ag (Ac (Aa (Ab (Aa (Aa (Aa (Aa (Aa Cq))))))))
theorem Crun : Run cfg2 CcallG 78 Clive Ccode (Au 0 Cargs ff0) Cs0 .ret Cp24 Cz24 := (Av (c := Ccode) (by kernel_rfl) (Af Cle (by decide) (Ab Cq) (by decide) Ct0) (Av (c := sr (Ccode)) (by kernel_rfl) (Af Cle (by decide) (Ab (Aa Cq)) (by decide) Ct1) (Av (c := sr (sr (Ccode))) (by kernel_rfl) (Af Cle (by decide) (Ab (Aa (Aa Cq))) (by decide) Ct2) (Av (c := sr (sr (sr (Ccode)))) (by kernel_rfl) (Af Cle (by decide) (Ab (Aa (Aa (Aa Cq)))) (by decide) Ct3) (Av (c := sr (sr (sr (sr (Ccode))))) (by kernel_rfl) (Av (c := sl (sr (sr (sr (sr (Ccode)))))) (by kernel_rfl) (Af Cle (by decide) (Ab (Ab (Aa (Aa (Aa (Aa Cq)))))) (by decide) Ct4) (Cd (c := sr (sl (sr (sr (sr (sr (Ccode))))))) (by kernel_rfl) (Dr (c := bk (sr (sl (sr (sr (sr (sr (Ccode)))))))) (by kernel_rfl) (Ad Cle (by decide) Cq0 (by decide) Ct5 (Ad Cle (by decide) Cq0 (by decide) Ct6 (Ad Cle (by decide) Cq0 (by decide) Ct7 (Ad Cle (by decide) Cq0 (by decide) Ct8 (Ad Cle (by decide) Cq0 (by decide) Ct9 (Ad Cle (by decide) Cq0 (by decide) Ct10 (Ad Cle (by decide) Cq0 (by decide) Ct11 (Ad Cle (by decide) Cq0 (by decide) Ct12 (Ad Cle (by decide) Cq0 (by decide) Ct13 (Ad Cle (by decide) Cq0 (by decide) Ct14 (Ad Cle (by decide) Cq0 (by decide) Ct15 (Ad Cle (by decide) Cq0 (by decide) Ct16 (Gd (c := bk (sr (sl (sr (sr (sr (sr (Ccode)))))))) (by kernel_rfl) Cle (by decide) (Ac (Aa (Ab (Aa (Aa (Aa (Aa Cq))))))) (by decide) Ct17)))))))))))))))) (Av (c := sr (sr (sr (sr (sr (Ccode)))))) (by kernel_rfl) (Av (c := sl (sr (sr (sr (sr (sr (Ccode))))))) (by kernel_rfl) (Af Cle (by decide) (Ab (Ab (Aa (Aa (Aa (Aa (Aa Cq))))))) (by decide) Ct18) (Cd (c := sr (sl (sr (sr (sr (sr (sr (Ccode)))))))) (by kernel_rfl) (Dr (c := bk (sr (sl (sr (sr (sr (sr (sr (Ccode))))))))) (by kernel_rfl) (Ad Cle (by decide) Cq1 (by decide) Ct19 (Ad Cle (by decide) Cq1 (by decide) Ct20 (Ad Cle (by decide) Cq1 (by decide) Ct21 (Gd (c := bk (sr (sl (sr (sr (sr (sr (sr (Ccode))))))))) (by kernel_rfl) Cle (by decide) (Ac (Aa (Ab (Aa (Aa (Aa (Aa (Aa Cq)))))))) (by decide) Ct22))))))) (Af Cle (by decide) (Aa (Aa (Aa (Aa (Aa (Aa Cq)))))) (by decide) Ct23)))))))
theorem Cpt (w : World) (hp : Bv cfg2 w) : CallPt cfg2 w 9 Cargs Cs0 (.ret Cres) Cz24 :=
  A3 (Cn orders_cfg2) (A2 (Cn orders_cfg2) hp 1000) (fn := Tryz.f9) (func_cfg2 Tryz.func9) (c := Ccode) (by kernel_rfl) (nt := 78) (by kernel_rfl) (by decide) (by decide) (by kernel_rfl) Crun (by simp) (by kernel_rfl) (rs := Tryz.f9.results.toList) rfl (by kernel_rfl)
theorem prims3 : PrimsOk cfg3 YthcnipopdbgpdaaGreatDoor.Good := PrimsOk.add Bw prims2 Eg (fun w hw => Cpt w (prims2 w hw)) (by kernel_rfl) (by kernel_rfl)
theorem primsK : PrimsOk cfgK YthcnipopdbgpdaaGreatDoor.Good := PrimsOk.addG rfl Am prims3 200
theorem orcs_cfg3 : OrcOk cfg3 orc := orcs_cfg2.add _ _ _
theorem orcs_cfgK : OrcOk cfgK orc := by
  intro g a m fn c h1 h2 h3
  rw [P0 (C := cfg3) (C' := cfgK) rfl rfl]
  exact orcs_cfg3 g a m fn c h1 h2 h3
theorem orders_cfgK : cfgK.P.follows .mixedOrders = true := Am
theorem func_cfgK {f : FuncId} {fn : Func} (h : Tryz.prog.funcs[f]? = some fn) : cfgK.P.funcs[f]? = some fn := h
theorem Kq : Ai cfgK Kfast Kcode = true := by kernel_rfl
noncomputable def KcallG : CallF := call cfgK 1000
theorem Kle : CallF.le (A9 cfgK orc 1000) KcallG := Be orcs_cfgK 1000
theorem Kq0 : Ai cfgK Kfast (lp (bk (sr (sl (sr (sr (sr (sr (sr Kcode))))))))) = true := Ag (Ac (Aa (Ab (Aa (Aa (Aa (Aa (Aa Kq))))))))
theorem Krun : Run cfgK KcallG 89 Klive Kcode (Au 0 Kargs ff0) Ks0 .ret Kp22 Kz22 := (Av (c := Kcode) (by kernel_rfl) (Af Kle (by decide) (Ab Kq) (by decide) Kt0) (Av (c := sr (Kcode)) (by kernel_rfl) (Af Kle (by decide) (Ab (Aa Kq)) (by decide) Kt1) (Av (c := sr (sr (Kcode))) (by kernel_rfl) (Af Kle (by decide) (Ab (Aa (Aa Kq))) (by decide) Kt2) (Av (c := sr (sr (sr (Kcode)))) (by kernel_rfl) (Af Kle (by decide) (Ab (Aa (Aa (Aa Kq)))) (by decide) Kt3) (Av (c := sr (sr (sr (sr (Kcode))))) (by kernel_rfl) (Af Kle (by decide) (Ab (Aa (Aa (Aa (Aa Kq))))) (by decide) Kt4) (Av (c := sr (sr (sr (sr (sr (Kcode)))))) (by kernel_rfl) (Av (c := sl (sr (sr (sr (sr (sr (Kcode))))))) (by kernel_rfl) (Af Kle (by decide) (Ab (Ab (Aa (Aa (Aa (Aa (Aa Kq))))))) (by decide) Kt5) (Cd (c := sr (sl (sr (sr (sr (sr (sr (Kcode)))))))) (by kernel_rfl) (Dr (c := bk (sr (sl (sr (sr (sr (sr (sr (Kcode))))))))) (by kernel_rfl) (Ad Kle (by decide) Kq0 (by decide) Kt6 (Ad Kle (by decide) Kq0 (by decide) Kt7 (Ad Kle (by decide) Kq0 (by decide) Kt8 (Ad Kle (by decide) Kq0 (by decide) Kt9 (Ad Kle (by decide) Kq0 (by decide) Kt10 (Ad Kle (by decide) Kq0 (by decide) Kt11 (Ad Kle (by decide) Kq0 (by decide) Kt12 (Ad Kle (by decide) Kq0 (by decide) Kt13 (Ad Kle (by decide) Kq0 (by decide) Kt14 (Ad Kle (by decide) Kq0 (by decide) Kt15 (Ad Kle (by decide) Kq0 (by decide) Kt16 (Ad Kle (by decide) Kq0 (by decide) Kt17 (Ad Kle (by decide) Kq0 (by decide) Kt18 (Ad Kle (by decide) Kq0 (by decide) Kt19 (Gd (c := bk (sr (sl (sr (sr (sr (sr (sr (Kcode))))))))) (by kernel_rfl) Kle (by decide) (Ac (Aa (Ab (Aa (Aa (Aa (Aa (Aa Kq)))))))) (by decide) Kt20)))))))))))))))))) (Af Kle (by decide) (Aa (Aa (Aa (Aa (Aa (Aa Kq)))))) (by decide) Kt21)))))))
theorem Kpt (w : World) (hp : Bv cfgK w) : CallPt cfgK w 10 Kargs Ks0 (.ret Kres) Kz22 :=
  A3 (Cn orders_cfgK) (A2 (Cn orders_cfgK) hp 1000) (fn := Tryz.f10) (func_cfgK Tryz.func10) (c := Kcode) (by kernel_rfl) (nt := 89) (by kernel_rfl) (by decide) (by decide) (by kernel_rfl) Krun (by simp) (by kernel_rfl) (rs := Tryz.f10.results.toList) rfl (by kernel_rfl)
theorem prims4 : PrimsOk cfg4 YthcnipopdbgpdaaGreatDoor.Good := PrimsOk.addH Bw prims3 Eg (x := Kres) (σ1 := Kz22) Kb8k (fun w hw => Kpt w (primsK w hw)) (by kernel_rfl)
end Go.DM.FM.TX
