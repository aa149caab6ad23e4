/- Pieces of a closed run: each is checked by reckoning. No condition. -/
import Derived.Test.YthcnipopdbgpdaaGreatDoorDataTX
namespace Go.DM.FM.TX
open Go Go.Proofs
set_option maxRecDepth 1000000
theorem Kt8 : Kck (lp (bk (sr (sl (sr (sr (sr (sr (sr (Kcode)))))))))) 6 [1, 6, 9, 45, 46, 47] Kb1k [13, 839, 896, 897] Kp8 Kz8 = some (Kp9, Kz9) := by kernel_rfl
theorem Kt9 : Kck (lp (bk (sr (sl (sr (sr (sr (sr (sr (Kcode)))))))))) 6 [1, 6, 9, 45, 46, 47] ([2021, 2024, 2026, 2129, 2132, 2134, 2223, 2226, 2228, 2230, 2322, 2325, 2327, 2444, 2447, 2449, 2451, 2573, 2576, 2578, 1] ++ Kb1k) [13, 1135, 1200, 1201] Kp9 Kz9 = some (Kp10, Kz10) := by kernel_rfl
theorem Kt10 : Kck (lp (bk (sr (sl (sr (sr (sr (sr (sr (Kcode)))))))))) 6 [1, 6, 9, 45, 46, 47] Kb2k [13, 1447, 1488, 1489] Kp10 Kz10 = some (Kp11, Kz11) := by kernel_rfl
theorem Kt11 : Kck (lp (bk (sr (sl (sr (sr (sr (sr (sr (Kcode)))))))))) 5 [1, 6, 9, 45, 46, 47] ([3340, 3343, 3345, 3347, 3469, 3472, 3474, 3567, 3570, 3572, 3574, 3666, 3669, 3671, 3788, 3791, 3793, 3795, 1] ++ Kb2k) [13, 1699, 1756, 1757] Kp11 Kz11 = some (Kp12, Kz12) := by kernel_rfl
theorem Kt12 : Kck (lp (bk (sr (sl (sr (sr (sr (sr (sr (Kcode)))))))))) 5 [1, 6, 9, 45, 46, 47] Kb3k [13, 1967, 2032, 2033] Kp12 Kz12 = some (Kp13, Kz13) := by kernel_rfl
theorem Kt13 : Kck (lp (bk (sr (sl (sr (sr (sr (sr (sr (Kcode)))))))))) 6 [1, 6, 9, 45, 46, 47] ([4473, 4476, 4478, 4480, 4584, 4587, 4589, 4718, 4721, 4723, 4725, 4859, 4862, 4864, 4959, 4962, 4964, 4966, 5058, 5061, 5063, 1] ++ Kb3k) [13, 2311, 2352, 2353] Kp13 Kz13 = some (Kp14, Kz14) := by kernel_rfl
theorem Kt14 : Kck (lp (bk (sr (sl (sr (sr (sr (sr (sr (Kcode)))))))))) 5 [1, 6, 9, 45, 46, 47] Kb4k [13, 2603, 2660, 2661] Kp14 Kz14 = some (Kp15, Kz15) := by kernel_rfl
end Go.DM.FM.TX
