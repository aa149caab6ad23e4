/- Pieces of a closed run: each is checked by reckoning. No condition. -/
import Derived.Test.YthcnipopdbgpdaaGreatDoorDataTX
namespace Go.DM.FM.TX
open Go Go.Proofs
set_option maxRecDepth 1000000
theorem Ct0 : Cpc (sl (Ccode)) [1] [0] [] (setArgs 0 Cargs ff0) Cs0 = some (.normal, Cp1, Cz1) := by kernel_rfl
theorem Ct1 : Cpc (sl (sr (Ccode))) [1, 4] [0, 1] [] Cp1 Cz1 = some (.normal, Cp2, Cz2) := by kernel_rfl
theorem Ct2 : Cpc (sl (sr (sr (Ccode)))) [1, 4] [0, 1] [] Cp2 Cz2 = some (.normal, Cp3, Cz3) := by kernel_rfl
theorem Ct3 : Cpc (sl (sr (sr (sr (Ccode))))) [1, 4, 5] [0, 1] [] Cp3 Cz3 = some (.normal, Cp4, Cz4) := by kernel_rfl
theorem Ct4 : Cpc (sl (sl (sr (sr (sr (sr (Ccode))))))) [1, 4, 5, 18, 19, 20] [0, 1] [] Cp4 Cz4 = some (.normal, Cp5, Cz5) := by kernel_rfl
theorem Ct5 : Cck (lp (bk (sr (sl (sr (sr (sr (sr (Ccode))))))))) 7 [1, 4, 5, 18, 19, 20] [0, 1, 134, 268, 643, 900, 1157, 1501, 1758] [174] Cp5 Cz5 = some (Cp6, Cz6) := by kernel_rfl
theorem Ct6 : Cck (lp (bk (sr (sl (sr (sr (sr (sr (Ccode))))))))) 7 [1, 4, 5, 18, 19, 20] [0, 1, 134, 268, 643, 900, 1157, 1501, 1758, 2062, 2281, 2454, 2679, 2971, 3333, 3764] [493] Cp6 Cz6 = some (Cp7, Cz7) := by kernel_rfl
theorem Ct7 : Cck (lp (bk (sr (sl (sr (sr (sr (sr (Ccode))))))))) 6 [1, 4, 5, 18, 19, 20] [0, 1, 134, 268, 643, 900, 1157, 1501, 1758, 2062, 2281, 2454, 2679, 2971, 3333, 3764, 4026, 4357, 4619, 4950, 5281, 5681] [763] Cp7 Cz7 = some (Cp8, Cz8) := by kernel_rfl
theorem Ct8 : Cck (lp (bk (sr (sl (sr (sr (sr (sr (Ccode))))))))) 8 [1, 4, 5, 18, 19, 20] Cb0k [1139] Cp8 Cz8 = some (Cp9, Cz9) := by kernel_rfl
theorem Ct9 : Cck (lp (bk (sr (sl (sr (sr (sr (sr (Ccode))))))))) 6 [1, 4, 5, 18, 19, 20] ([8020, 8225, 8473, 8747, 8915, 9115] ++ Cb0k) [1433] Cp9 Cz9 = some (Cp10, Cz10) := by kernel_rfl
theorem Ct10 : Cck (lp (bk (sr (sl (sr (sr (sr (sr (Ccode))))))))) 5 [1, 4, 5, 18, 19, 20] ([8020, 8225, 8473, 8747, 8915, 9115, 9358, 9627, 9805, 10015, 10268] ++ Cb0k) [1694] Cp10 Cz10 = some (Cp11, Cz11) := by kernel_rfl
theorem Ct11 : Cck (lp (bk (sr (sl (sr (sr (sr (sr (Ccode))))))))) 5 [1, 4, 5, 18, 19, 20] ([8020, 8225, 8473, 8747, 8915, 9115, 9358, 9627, 9805, 10015, 10268, 10547, 10725, 10935, 11188, 11469] ++ Cb0k) [1931] Cp11 Cz11 = some (Cp12, Cz12) := by kernel_rfl
end Go.DM.FM.TX
