/- Pieces of a closed run: each is checked by reckoning. No condition. -/
import Derived.Test.YthcnipopdbgpdaaGreatDoorDataTR
namespace Go.DM.FM.TR
open Go Go.Proofs
set_option maxRecDepth 1000000
theorem Ct10 : Cck (lp (bk (sr (sl (sr (sr (sr (sr (Ccode))))))))) 19 [1, 4, 5, 18, 19, 20] Cb2k [2438] Cp10 Cz10 = some (Cp11, Cz11) := by kernel_rfl
theorem Ct11 : Cck (lp (bk (sr (sl (sr (sr (sr (sr (Ccode))))))))) 17 [1, 4, 5, 18, 19, 20] ([13483, 13599, 13715, 13831, 13953, 14075, 14197, 14319, 14456, 14590, 14695, 14829, 14965, 15080, 15204, 15315, 15423] ++ Cb2k) [2727] Cp11 Cz11 = some (Cp12, Cz12) := by kernel_rfl
theorem Ct12 : Cpc (bk (sr (sl (sr (sr (sr (sr (Ccode)))))))) [1, 4, 5] ([13483, 13599, 13715, 13831, 13953, 14075, 14197, 14319, 14456, 14590, 14695, 14829, 14965, 15080, 15204, 15315, 15423, 15509, 15587, 15712, 15832, 15955] ++ Cb2k) [2814] Cp12 Cz12 = some ((.exit 0), Cp13, Cz13) := by kernel_rfl
theorem Ct13 : Cpc (sl (sl (sr (sr (sr (sr (sr (Ccode)))))))) [1, 4, 5, 44, 45, 46] ([13483, 13599, 13715, 13831, 13953, 14075, 14197, 14319, 14456, 14590, 14695, 14829, 14965, 15080, 15204, 15315, 15423, 15509, 15587, 15712, 15832, 15955] ++ Cb2k) [2814] Cp13 Cz13 = some (.normal, Cp14, Cz14) := by kernel_rfl
theorem Ct14 : Cck (lp (bk (sr (sl (sr (sr (sr (sr (sr (Ccode)))))))))) 54 [1, 4, 5, 44, 45, 46] ([13483, 13599, 13715, 13831, 13953, 14075, 14197, 14319, 14456, 14590, 14695, 14829, 14965, 15080, 15204, 15315, 15423, 15509, 15587, 15712, 15832, 15955] ++ Cb2k) [2814] Cp14 Cz14 = some (Cp15, Cz15) := by kernel_rfl
theorem Ct15 : Cck (lp (bk (sr (sl (sr (sr (sr (sr (sr (Ccode)))))))))) 22 [1, 4, 5, 44, 45, 46] ([13483, 13599, 13715, 13831, 13953, 14075, 14197, 14319, 14456, 14590, 14695, 14829, 14965, 15080, 15204, 15315, 15423, 15509, 15587, 15712, 15832, 15955] ++ Cb2k) [2814] Cp15 Cz15 = some (Cp16, Cz16) := by kernel_rfl
theorem Ct16 : Cck (lp (bk (sr (sl (sr (sr (sr (sr (sr (Ccode)))))))))) 17 [1, 4, 5, 44, 45, 46] ([13483, 13599, 13715, 13831, 13953, 14075, 14197, 14319, 14456, 14590, 14695, 14829, 14965, 15080, 15204, 15315, 15423, 15509, 15587, 15712, 15832, 15955] ++ Cb2k) [2814] Cp16 Cz16 = some (Cp17, Cz17) := by kernel_rfl
theorem Ct17 : Cpc (bk (sr (sl (sr (sr (sr (sr (sr (Ccode))))))))) [4] Cb2k [] Cp17 Cz17 = some ((.exit 2), Cp18, Cz18) := by kernel_rfl
theorem Ct18 : Cpc (sr (sr (sr (sr (sr (sr (Ccode))))))) [2, 3] [] [] Cp18 Cz18 = some (.ret, Cp19, Cz19) := by kernel_rfl
end Go.DM.FM.TR
