/- Pieces of a closed run: each is checked by reckoning. No condition. -/
import Derived.Test.YthcnipopdbgpdaaGreatDoorDataTX
namespace Go.DM.FM.TX
open Go Go.Proofs
set_option maxRecDepth 1000000
theorem Ct12 : Cck (lp (bk (sr (sl (sr (sr (sr (sr (Ccode))))))))) 5 [1, 4, 5, 18, 19, 20] ([8020, 8225, 8473, 8747, 8915, 9115, 9358, 9627, 9805, 10015, 10268, 10547, 10725, 10935, 11188, 11469, 11673, 11909, 12188, 12491, 12669] ++ Cb0k) [2192] Cp12 Cz12 = some (Cp13, Cz13) := by kernel_rfl
theorem Ct13 : Cck (lp (bk (sr (sl (sr (sr (sr (sr (Ccode))))))))) 7 [1, 4, 5, 18, 19, 20] Cb1k [2615] Cp13 Cz13 = some (Cp14, Cz14) := by kernel_rfl
theorem Ct14 : Cck (lp (bk (sr (sl (sr (sr (sr (sr (Ccode))))))))) 15 [1, 4, 5, 18, 19, 20] ([14939, 15083, 15216, 15450, 15632, 15736, 15836, 15931, 16095, 16203, 16404, 16517, 16723, 16831, 17032] ++ Cb1k) [3024] Cp14 Cz14 = some (Cp15, Cz15) := by kernel_rfl
theorem Ct15 : Cck (lp (bk (sr (sl (sr (sr (sr (sr (Ccode))))))))) 13 [1, 4, 5, 18, 19, 20] Cb2k [3469] Cp15 Cz15 = some (Cp16, Cz16) := by kernel_rfl
theorem Ct16 : Cck (lp (bk (sr (sl (sr (sr (sr (sr (Ccode))))))))) 13 [1, 4, 5, 18, 19, 20] ([19285, 19403, 19614, 19732, 19943, 20071, 20292, 20425, 20663, 20832, 21001, 21164, 21293] ++ Cb2k) [3882] Cp16 Cz16 = some (Cp17, Cz17) := by kernel_rfl
theorem Ct17 : Cpc (bk (sr (sl (sr (sr (sr (sr (Ccode)))))))) [1, 4, 5] ([19285, 19403, 19614, 19732, 19943, 20071, 20292, 20425, 20663, 20832, 21001, 21164, 21293, 21408, 21475, 21513, 21556, 21621] ++ Cb2k) [3967] Cp17 Cz17 = some ((.exit 0), Cp18, Cz18) := by kernel_rfl
theorem Ct18 : Cpc (sl (sl (sr (sr (sr (sr (sr (Ccode)))))))) [1, 4, 5, 44, 45, 46] ([19285, 19403, 19614, 19732, 19943, 20071, 20292, 20425, 20663, 20832, 21001, 21164, 21293, 21408, 21475, 21513, 21556, 21621] ++ Cb2k) [3967] Cp18 Cz18 = some (.normal, Cp19, Cz19) := by kernel_rfl
theorem Ct19 : Cck (lp (bk (sr (sl (sr (sr (sr (sr (sr (Ccode)))))))))) 46 [1, 4, 5, 44, 45, 46] ([19285, 19403, 19614, 19732, 19943, 20071, 20292, 20425, 20663, 20832, 21001, 21164, 21293, 21408, 21475, 21513, 21556, 21621] ++ Cb2k) [3967] Cp19 Cz19 = some (Cp20, Cz20) := by kernel_rfl
theorem Ct20 : Cck (lp (bk (sr (sl (sr (sr (sr (sr (sr (Ccode)))))))))) 23 [1, 4, 5, 44, 45, 46] ([19285, 19403, 19614, 19732, 19943, 20071, 20292, 20425, 20663, 20832, 21001, 21164, 21293, 21408, 21475, 21513, 21556, 21621] ++ Cb2k) [3967] Cp20 Cz20 = some (Cp21, Cz21) := by kernel_rfl
theorem Ct21 : Cck (lp (bk (sr (sl (sr (sr (sr (sr (sr (Ccode)))))))))) 19 [1, 4, 5, 44, 45, 46] ([19285, 19403, 19614, 19732, 19943, 20071, 20292, 20425, 20663, 20832, 21001, 21164, 21293, 21408, 21475, 21513, 21556, 21621] ++ Cb2k) [3967] Cp21 Cz21 = some (Cp22, Cz22) := by kernel_rfl
theorem Ct22 : Cpc (bk (sr (sl (sr (sr (sr (sr (sr (Ccode))))))))) [4] Cb2k [] Cp22 Cz22 = some ((.exit 2), Cp23, Cz23) := by kernel_rfl
theorem Ct23 : Cpc (sr (sr (sr (sr (sr (sr (Ccode))))))) [2, 3] [] [] Cp23 Cz23 = some (.ret, Cp24, Ace) := by kernel_rfl
end Go.DM.FM.TX
