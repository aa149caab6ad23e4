/- Pieces of a closed run: each is checked by reckoning. No condition. -/
import Derived.Test.YthcnipopdbgpdaaGreatDoorDataTA
namespace Go.DM.FM.TA
open Go Go.Proofs
set_option maxRecDepth 1000000
theorem Kt9 : Kck (lp (bk (sr (sl (sr (sr (sr (sr (sr (Kcode)))))))))) 8 [1, 6, 9, 45, 46, 47] Kb3k [15, 1097, 1130, 1131] Kp9 Kz9 = some (Kp10, Kz10) := by kernel_rfl
theorem Kt10 : Kck (lp (bk (sr (sl (sr (sr (sr (sr (sr (Kcode)))))))))) 7 [1, 6, 9, 45, 46, 47] Kb4k [15, 1349, 1382, 1383] Kp10 Kz10 = some (Kp11, Kz11) := by kernel_rfl
theorem Kt11 : Kck (lp (bk (sr (sl (sr (sr (sr (sr (sr (Kcode)))))))))) 7 [1, 6, 9, 45, 46, 47] Kb5k [15, 1601, 1634, 1635] Kp11 Kz11 = some (Kp12, Kz12) := by kernel_rfl
theorem Kt12 : Kck (lp (bk (sr (sl (sr (sr (sr (sr (sr (Kcode)))))))))) 8 [1, 6, 9, 45, 46, 47] ([3724, 3727, 3729, 3791, 3794, 3852, 3855, 3915, 3918, 3980, 3983, 4045, 4048, 4110, 4113, 4175, 4178, 1] ++ Kb5k) [15, 1889, 1922, 1923] Kp12 Kz12 = some (Kp13, Kz13) := by kernel_rfl
theorem Kt13 : Kck (lp (bk (sr (sl (sr (sr (sr (sr (sr (Kcode)))))))))) 8 [1, 6, 9, 45, 46, 47] Kb6k [15, 2177, 2210, 2211] Kp13 Kz13 = some (Kp14, Kz14) := by kernel_rfl
theorem Kt14 : Kck (lp (bk (sr (sl (sr (sr (sr (sr (sr (Kcode)))))))))) 10 [1, 6, 9, 45, 46, 47] ([4760, 4763, 4830, 4833, 4835, 4901, 4904, 4906, 4968, 4971, 5034, 5037, 5100, 5103, 5165, 5168, 5230, 5233, 5343, 5346, 1] ++ Kb6k) [15, 2539, 2572, 2573] Kp14 Kz14 = some (Kp15, Kz15) := by kernel_rfl
theorem Kt15 : Kpc (bk (sr (sl (sr (sr (sr (sr (sr (Kcode))))))))) [6, 9] Kb7k [15, 2575, 2608, 2609] Kp15 Kz15 = some ((.exit 2), Kp16, Kz16) := by kernel_rfl
theorem Kt16 : Kpc (sr (sr (sr (sr (sr (sr (Kcode))))))) [2, 3] Kb8k [15, 2575, 2608] Kp16 Kz16 = some (.ret, Kp17, Kz17) := by kernel_rfl
end Go.DM.FM.TA
