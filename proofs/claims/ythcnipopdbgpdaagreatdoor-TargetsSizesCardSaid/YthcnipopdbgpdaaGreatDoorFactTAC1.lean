/- Pieces of a closed run: each is checked by reckoning. No condition. -/
import Derived.Test.YthcnipopdbgpdaaGreatDoorDataTA
namespace Go.DM.FM.TA
open Go Go.Proofs
set_option maxRecDepth 1000000
theorem Ct0 : Cpc (sl (Ccode)) [1] [0] [] (setArgs 0 Cargs ff0) Cs0 = some (.normal, Cp1, Cz1) := by kernel_rfl
theorem Ct1 : Cpc (sl (sr (Ccode))) [1, 4] [0, 1] [] Cp1 Cz1 = some (.normal, Cp2, Cz2) := by kernel_rfl
theorem Ct2 : Cpc (sl (sr (sr (Ccode)))) [1, 4] [0, 1] [] Cp2 Cz2 = some (.normal, Cp3, Cz3) := by kernel_rfl
theorem Ct3 : Cpc (sl (sr (sr (sr (Ccode))))) [1, 4, 5] [0, 1] [] Cp3 Cz3 = some (.normal, Cp4, Cz4) := by kernel_rfl
theorem Ct4 : Cpc (sl (sl (sr (sr (sr (sr (Ccode))))))) [1, 4, 5, 18, 19, 20] [0, 1] [] Cp4 Cz4 = some (.normal, Cp5, Cz5) := by kernel_rfl
theorem Ct5 : Cck (lp (bk (sr (sl (sr (sr (sr (sr (Ccode))))))))) 13 [1, 4, 5, 18, 19, 20] [0, 1, 127, 286, 450, 651, 812, 972, 1125, 1289, 1450, 1610, 1763, 1927, 2103] [428] Cp5 Cz5 = some (Cp6, Cz6) := by kernel_rfl
theorem Ct6 : Cck (lp (bk (sr (sl (sr (sr (sr (sr (Ccode))))))))) 9 [1, 4, 5, 18, 19, 20] Cb0k [725] Cp6 Cz6 = some (Cp7, Cz7) := by kernel_rfl
theorem Ct7 : Cck (lp (bk (sr (sl (sr (sr (sr (sr (Ccode))))))))) 12 [1, 4, 5, 18, 19, 20] ([4578, 4784, 4964, 5144, 5331, 5529, 5720, 5910, 6097, 6263, 6433, 6604] ++ Cb0k) [1121] Cp7 Cz7 = some (Cp8, Cz8) := by kernel_rfl
end Go.DM.FM.TA
