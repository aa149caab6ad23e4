/- Pieces of a closed run: each is checked by reckoning. No condition. -/
import Derived.Test.YthcnipopdbgpdaaGreatDoorDataTR
namespace Go.DM.FM.TR
open Go Go.Proofs
set_option maxRecDepth 1000000
theorem Ct0 : Cpc (sl (Ccode)) [1] [0] [] (setArgs 0 Cargs ff0) Cs0 = some (.normal, Cp1, Cz1) := by kernel_rfl
theorem Ct1 : Cpc (sl (sr (Ccode))) [1, 4] [0, 1] [] Cp1 Cz1 = some (.normal, Cp2, Cz2) := by kernel_rfl
theorem Ct2 : Cpc (sl (sr (sr (Ccode)))) [1, 4] [0, 1] [] Cp2 Cz2 = some (.normal, Cp3, Cz3) := by kernel_rfl
theorem Ct3 : Cpc (sl (sr (sr (sr (Ccode))))) [1, 4, 5] [0, 1] [] Cp3 Cz3 = some (.normal, Cp4, Cz4) := by kernel_rfl
theorem Ct4 : Cpc (sl (sl (sr (sr (sr (sr (Ccode))))))) [1, 4, 5, 18, 19, 20] [0, 1] [] Cp4 Cz4 = some (.normal, Cp5, Cz5) := by kernel_rfl
theorem Ct5 : Cck (lp (bk (sr (sl (sr (sr (sr (sr (Ccode))))))))) 11 [1, 4, 5, 18, 19, 20] [0, 1, 227, 385, 556, 730, 923, 1117, 1316, 1510, 1709, 1903, 2099] [362] Cp5 Cz5 = some (Cp6, Cz6) := by kernel_rfl
theorem Ct6 : Cck (lp (bk (sr (sl (sr (sr (sr (sr (Ccode))))))))) 12 [1, 4, 5, 18, 19, 20] Cb0k [758] Cp6 Cz6 = some (Cp7, Cz7) := by kernel_rfl
theorem Ct7 : Cck (lp (bk (sr (sl (sr (sr (sr (sr (Ccode))))))))) 13 [1, 4, 5, 18, 19, 20] ([4392, 4565, 4733, 4901, 5071, 5241, 5411, 5582, 5759, 5936, 6118, 6300, 6482] ++ Cb0k) [1187] Cp7 Cz7 = some (Cp8, Cz8) := by kernel_rfl
theorem Ct8 : Cck (lp (bk (sr (sl (sr (sr (sr (sr (Ccode))))))))) 12 [1, 4, 5, 18, 19, 20] Cb1k [1583] Cp8 Cz8 = some (Cp9, Cz9) := by kernel_rfl
theorem Ct9 : Cck (lp (bk (sr (sl (sr (sr (sr (sr (Ccode))))))))) 12 [1, 4, 5, 18, 19, 20] ([8863, 9055, 9247, 9439, 9631, 9823, 10015, 10192, 10369, 10546, 10723, 10900] ++ Cb1k) [1979] Cp9 Cz9 = some (Cp10, Cz10) := by kernel_rfl
end Go.DM.FM.TR
