/- Pieces of a closed run: each is checked by reckoning. No condition. -/
import Derived.Test.YtjcpllbpkdfakaaGreatDoorDataC
namespace Go.DM.FM
open Go Go.Proofs
set_option maxRecDepth 1000000
theorem Ct12 : pc cfg2 (fcall cfg2 orc 1000) 1000 (comp cfg2 78 Clive Cfast (bk (sr (sl (sr (sr (sr (sr (Ccode))))))))) [1, 4, 5] (Cb1k ++ [13483, 13599, 13715, 13831, 13953, 14075, 14197, 14319, 14456, 14590, 14695, 14829, 14965, 15080, 15204, 15315, 15423, 15509, 15587, 15712, 15832, 15955]) [2814] Cp12 Cz12 = some ((.exit 0), Cp13, Cz13) := by kernel_rfl
theorem Ct13 : pc cfg2 (fcall cfg2 orc 1000) 1000 (comp cfg2 78 Clive Cfast (sl (sl (sr (sr (sr (sr (sr (Ccode))))))))) [1, 4, 5, 44, 45, 46] (Cb1k ++ [13483, 13599, 13715, 13831, 13953, 14075, 14197, 14319, 14456, 14590, 14695, 14829, 14965, 15080, 15204, 15315, 15423, 15509, 15587, 15712, 15832, 15955]) [2814] Cp13 Cz13 = some (.normal, Cp14, Cz14) := by kernel_rfl
theorem Ct14 : ck cfg2 (fcall cfg2 orc 1000) 1000 (comp cfg2 78 Clive Cfast (lp (bk (sr (sl (sr (sr (sr (sr (sr (Ccode))))))))))) 54 [1, 4, 5, 44, 45, 46] (Cb1k ++ [13483, 13599, 13715, 13831, 13953, 14075, 14197, 14319, 14456, 14590, 14695, 14829, 14965, 15080, 15204, 15315, 15423, 15509, 15587, 15712, 15832, 15955]) [2814] Cp14 Cz14 = some (Cp15, Cz15) := by kernel_rfl
theorem Ct15 : ck cfg2 (fcall cfg2 orc 1000) 1000 (comp cfg2 78 Clive Cfast (lp (bk (sr (sl (sr (sr (sr (sr (sr (Ccode))))))))))) 22 [1, 4, 5, 44, 45, 46] (Cb1k ++ [13483, 13599, 13715, 13831, 13953, 14075, 14197, 14319, 14456, 14590, 14695, 14829, 14965, 15080, 15204, 15315, 15423, 15509, 15587, 15712, 15832, 15955]) [2814] Cp15 Cz15 = some (Cp16, Cz16) := by kernel_rfl
theorem Ct16 : ck cfg2 (fcall cfg2 orc 1000) 1000 (comp cfg2 78 Clive Cfast (lp (bk (sr (sl (sr (sr (sr (sr (sr (Ccode))))))))))) 17 [1, 4, 5, 44, 45, 46] (Cb1k ++ [13483, 13599, 13715, 13831, 13953, 14075, 14197, 14319, 14456, 14590, 14695, 14829, 14965, 15080, 15204, 15315, 15423, 15509, 15587, 15712, 15832, 15955]) [2814] Cp16 Cz16 = some (Cp17, Cz17) := by kernel_rfl
theorem Ct17 : pc cfg2 (fcall cfg2 orc 1000) 1000 (comp cfg2 78 Clive Cfast (bk (sr (sl (sr (sr (sr (sr (sr (Ccode)))))))))) [4] Cb1k [] Cp17 Cz17 = some ((.exit 2), Cp18, Cz18) := by kernel_rfl
end Go.DM.FM
