/- Pieces of a closed run: each is checked by reckoning. No condition. -/
import Derived.Test.YtjcpllbpkdfakaaGreatDoorDataC
namespace Go.DM.FM
open Go Go.Proofs
set_option maxRecDepth 1000000
theorem Ct6 : ck cfg2 (fcall cfg2 orc 1000) 1000 (comp cfg2 78 Clive Cfast (lp (bk (sr (sl (sr (sr (sr (sr (Ccode)))))))))) 12 [1, 4, 5, 18, 19, 20] [0, 1, 227, 385, 556, 730, 923, 1117, 1316, 1510, 1709, 1903, 2099, 2277, 2455, 2633, 2806, 2984, 3162, 3341, 3520, 3699, 3878, 4051, 4219] [758] Cp6 Cz6 = some (Cp7, Cz7) := by kernel_rfl
theorem Ct7 : ck cfg2 (fcall cfg2 orc 1000) 1000 (comp cfg2 78 Clive Cfast (lp (bk (sr (sl (sr (sr (sr (sr (Ccode)))))))))) 13 [1, 4, 5, 18, 19, 20] Cb0k [1187] Cp7 Cz7 = some (Cp8, Cz8) := by kernel_rfl
theorem Ct8 : ck cfg2 (fcall cfg2 orc 1000) 1000 (comp cfg2 78 Clive Cfast (lp (bk (sr (sl (sr (sr (sr (sr (Ccode)))))))))) 12 [1, 4, 5, 18, 19, 20] (Cb0k ++ [6659, 6841, 7023, 7200, 7374, 7554, 7734, 7914, 8095, 8287, 8479, 8671]) [1583] Cp8 Cz8 = some (Cp9, Cz9) := by kernel_rfl
theorem Ct9 : ck cfg2 (fcall cfg2 orc 1000) 1000 (comp cfg2 78 Clive Cfast (lp (bk (sr (sl (sr (sr (sr (sr (Ccode)))))))))) 12 [1, 4, 5, 18, 19, 20] (Cb0k ++ [6659, 6841, 7023, 7200, 7374, 7554, 7734, 7914, 8095, 8287, 8479, 8671, 8863, 9055, 9247, 9439, 9631, 9823, 10015, 10192, 10369, 10546, 10723, 10900]) [1979] Cp9 Cz9 = some (Cp10, Cz10) := by kernel_rfl
theorem Ct10 : ck cfg2 (fcall cfg2 orc 1000) 1000 (comp cfg2 78 Clive Cfast (lp (bk (sr (sl (sr (sr (sr (sr (Ccode)))))))))) 19 [1, 4, 5, 18, 19, 20] Cb1k [2438] Cp10 Cz10 = some (Cp11, Cz11) := by kernel_rfl
theorem Ct11 : ck cfg2 (fcall cfg2 orc 1000) 1000 (comp cfg2 78 Clive Cfast (lp (bk (sr (sl (sr (sr (sr (sr (Ccode)))))))))) 17 [1, 4, 5, 18, 19, 20] (Cb1k ++ [13483, 13599, 13715, 13831, 13953, 14075, 14197, 14319, 14456, 14590, 14695, 14829, 14965, 15080, 15204, 15315, 15423]) [2727] Cp11 Cz11 = some (Cp12, Cz12) := by kernel_rfl
end Go.DM.FM
