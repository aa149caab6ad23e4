/- Pieces of a closed run: each is checked by reckoning. No condition. -/
import Derived.Test.YthcnipopdbgpdaaGreatDoorDataTX
namespace Go.DM.FM.TX
open Go Go.Proofs
set_option maxRecDepth 1000000
theorem Kt11 : Kck (lp (bk (sr (sl (sr (sr (sr (sr (sr (Kcode)))))))))) 5 [1, 6, 9, 45, 46, 47] ([3340, 3343, 3345, 3347, 3469, 3472, 3474, 3567, 3570, 3572, 3574, 3666, 3669, 3671, 3788, 3791, 3793, 3795, 1] ++ Kb2k) [13, 1699, 1756, 1757] Kp11 Kz11 = some (Kp12, Kz12) := by kernel_rfl
theorem Kt12 : Kck (lp (bk (sr (sl (sr (sr (sr (sr (sr (Kcode)))))))))) 5 [1, 6, 9, 45, 46, 47] Kb3k [13, 1967, 2032, 2033] Kp12 Kz12 = some (Kp13, Kz13) := by kernel_rfl
theorem Kt13 : Kck (lp (bk (sr (sl (sr (sr (sr (sr (sr (Kcode)))))))))) 6 [1, 6, 9, 45, 46, 47] ([4473, 4476, 4478, 4480, 4584, 4587, 4589, 4718, 4721, 4723, 4725, 4859, 4862, 4864, 4959, 4962, 4964, 4966, 5058, 5061, 5063, 1] ++ Kb3k) [13, 2311, 2352, 2353] Kp13 Kz13 = some (Kp14, Kz14) := by kernel_rfl
theorem Kt14 : Kck (lp (bk (sr (sl (sr (sr (sr (sr (sr (Kcode)))))))))) 5 [1, 6, 9, 45, 46, 47] Kb4k [13, 2603, 2660, 2661] Kp14 Kz14 = some (Kp15, Kz15) := by kernel_rfl
theorem Kt15 : Kck (lp (bk (sr (sl (sr (sr (sr (sr (sr (Kcode)))))))))) 9 [1, 6, 9, 45, 46, 47] ([5785, 5788, 5790, 5922, 5925, 5927, 5988, 5991, 6040, 6043, 6115, 6118, 6177, 6180, 6241, 6244, 6316, 6319, 1] ++ Kb4k) [13, 2953, 2970, 2971] Kp15 Kz15 = some (Kp16, Kz16) := by kernel_rfl
theorem Kt16 : Kck (lp (bk (sr (sl (sr (sr (sr (sr (sr (Kcode)))))))))) 7 [1, 6, 9, 45, 46, 47] Kb5k [13, 3181, 3230, 3231] Kp16 Kz16 = some (Kp17, Kz17) := by kernel_rfl
theorem Kt17 : Kck (lp (bk (sr (sl (sr (sr (sr (sr (sr (Kcode)))))))))) 8 [1, 6, 9, 45, 46, 47] ([6820, 6823, 6900, 6903, 6948, 6951, 7028, 7031, 7076, 7079, 7156, 7159, 7204, 7207, 7284, 7287, 1] ++ Kb5k) [13, 3469, 3518, 3519] Kp17 Kz17 = some (Kp18, Kz18) := by kernel_rfl
theorem Kt18 : Kck (lp (bk (sr (sl (sr (sr (sr (sr (sr (Kcode)))))))))) 8 [1, 6, 9, 45, 46, 47] Kb6k [13, 3757, 3806, 3807] Kp18 Kz18 = some (Kp19, Kz19) := by kernel_rfl
theorem Kt19 : Kck (lp (bk (sr (sl (sr (sr (sr (sr (sr (Kcode)))))))))) 8 [1, 6, 9, 45, 46, 47] ([7844, 7847, 7924, 7927, 7972, 7975, 8052, 8055, 8100, 8103, 8180, 8183, 8256, 8259, 8261, 8337, 8340, 8342, 1] ++ Kb6k) [13, 4061, 4094, 4095] Kp19 Kz19 = some (Kp20, Kz20) := by kernel_rfl
theorem Kt20 : Kpc (bk (sr (sl (sr (sr (sr (sr (sr (Kcode))))))))) [6, 9] Kb7k [13, 4253, 4286, 4287] Kp20 Kz20 = some ((.exit 2), Kp21, Kz21) := by kernel_rfl
theorem Kt21 : Kpc (sr (sr (sr (sr (sr (sr (Kcode))))))) [2, 3] Kb8k [13, 4253, 4286] Kp21 Kz21 = some (.ret, Kp22, Uv) := by kernel_rfl
end Go.DM.FM.TX
