/- Pieces of a closed run: each is checked by reckoning. No condition. -/
import Derived.Test.YthcnipopdbgpdaaGreatDoorDataTX
namespace Go.DM.FM.TX
open Go Go.Proofs
set_option maxRecDepth 1000000
theorem Ct8 : Cck (lp (bk (sr (sl (sr (sr (sr (sr (Ccode))))))))) 8 [1, 4, 5, 18, 19, 20] Cb0k [1139] Cp8 Cz8 = some (Cp9, Cz9) := by kernel_rfl
theorem Ct9 : Cck (lp (bk (sr (sl (sr (sr (sr (sr (Ccode))))))))) 6 [1, 4, 5, 18, 19, 20] ([8020, 8225, 8473, 8747, 8915, 9115] ++ Cb0k) [1433] Cp9 Cz9 = some (Cp10, Cz10) := by kernel_rfl
theorem Ct10 : Cck (lp (bk (sr (sl (sr (sr (sr (sr (Ccode))))))))) 5 [1, 4, 5, 18, 19, 20] ([8020, 8225, 8473, 8747, 8915, 9115, 9358, 9627, 9805, 10015, 10268] ++ Cb0k) [1694] Cp10 Cz10 = some (Cp11, Cz11) := by kernel_rfl
theorem Ct11 : Cck (lp (bk (sr (sl (sr (sr (sr (sr (Ccode))))))))) 5 [1, 4, 5, 18, 19, 20] ([8020, 8225, 8473, 8747, 8915, 9115, 9358, 9627, 9805, 10015, 10268, 10547, 10725, 10935, 11188, 11469] ++ Cb0k) [1931] Cp11 Cz11 = some (Cp12, Cz12) := by kernel_rfl
theorem Ct12 : Cck (lp (bk (sr (sl (sr (sr (sr (sr (Ccode))))))))) 5 [1, 4, 5, 18, 19, 20] ([8020, 8225, 8473, 8747, 8915, 9115, 9358, 9627, 9805, 10015, 10268, 10547, 10725, 10935, 11188, 11469, 11673, 11909, 12188, 12491, 12669] ++ Cb0k) [2192] Cp12 Cz12 = some (Cp13, Cz13) := by kernel_rfl
theorem Ct13 : Cck (lp (bk (sr (sl (sr (sr (sr (sr (Ccode))))))))) 7 [1, 4, 5, 18, 19, 20] Cb1k [2615] Cp13 Cz13 = some (Cp14, Cz14) := by kernel_rfl
theorem Ct14 : Cck (lp (bk (sr (sl (sr (sr (sr (sr (Ccode))))))))) 15 [1, 4, 5, 18, 19, 20] ([14939, 15083, 15216, 15450, 15632, 15736, 15836, 15931, 16095, 16203, 16404, 16517, 16723, 16831, 17032] ++ Cb1k) [3024] Cp14 Cz14 = some (Cp15, Cz15) := by kernel_rfl
theorem Ct15 : Cck (lp (bk (sr (sl (sr (sr (sr (sr (Ccode))))))))) 13 [1, 4, 5, 18, 19, 20] Cb2k [3469] Cp15 Cz15 = some (Cp16, Cz16) := by kernel_rfl
end Go.DM.FM.TX
