/- Pieces of a closed run: each is checked by reckoning. No condition. -/
import Derived.Test.YthcnipopdbgpdaaGreatDoorDataTR
namespace Go.DM.FM.TR
open Go Go.Proofs
set_option maxRecDepth 1000000
theorem Ct7 : Cck (lp (bk (sr (sl (sr (sr (sr (sr (Ccode))))))))) 13 [1, 4, 5, 18, 19, 20] ([4392, 4565, 4733, 4901, 5071, 5241, 5411, 5582, 5759, 5936, 6118, 6300, 6482] ++ Cb0k) [1187] Cp7 Cz7 = some (Cp8, Cz8) := by kernel_rfl
theorem Ct8 : Cck (lp (bk (sr (sl (sr (sr (sr (sr (Ccode))))))))) 12 [1, 4, 5, 18, 19, 20] Cb1k [1583] Cp8 Cz8 = some (Cp9, Cz9) := by kernel_rfl
theorem Ct9 : Cck (lp (bk (sr (sl (sr (sr (sr (sr (Ccode))))))))) 12 [1, 4, 5, 18, 19, 20] ([8863, 9055, 9247, 9439, 9631, 9823, 10015, 10192, 10369, 10546, 10723, 10900] ++ Cb1k) [1979] Cp9 Cz9 = some (Cp10, Cz10) := by kernel_rfl
theorem Ct10 : Cck (lp (bk (sr (sl (sr (sr (sr (sr (Ccode))))))))) 19 [1, 4, 5, 18, 19, 20] Cb2k [2438] Cp10 Cz10 = some (Cp11, Cz11) := by kernel_rfl
theorem Ct11 : Cck (lp (bk (sr (sl (sr (sr (sr (sr (Ccode))))))))) 17 [1, 4, 5, 18, 19, 20] ([13483, 13599, 13715, 13831, 13953, 14075, 14197, 14319, 14456, 14590, 14695, 14829, 14965, 15080, 15204, 15315, 15423] ++ Cb2k) [2727] Cp11 Cz11 = some (Cp12, Cz12) := by kernel_rfl
theorem Ct12 : Cpc (bk (sr (sl (sr (sr (sr (sr (Ccode)))))))) [1, 4, 5] ([13483, 13599, 13715, 13831, 13953, 14075, 14197, 14319, 14456, 14590, 14695, 14829, 14965, 15080, 15204, 15315, 15423, 15509, 15587, 15712, 15832, 15955] ++ Cb2k) [2814] Cp12 Cz12 = some ((.exit 0), Cp13, Cz13) := by kernel_rfl
end Go.DM.FM.TR
