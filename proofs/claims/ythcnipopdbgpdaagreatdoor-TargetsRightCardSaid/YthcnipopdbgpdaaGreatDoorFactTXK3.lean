/- Pieces of a closed run: each is checked by reckoning. No condition. -/
import Derived.Test.YthcnipopdbgpdaaGreatDoorDataTX
namespace Go.DM.FM.TX
open Go Go.Proofs
set_option maxRecDepth 1000000
theorem Kt15 : Kck (lp (bk (sr (sl (sr (sr (sr (sr (sr (Kcode)))))))))) 9 [1, 6, 9, 45, 46, 47] ([5785, 5788, 5790, 5922, 5925, 5927, 5988, 5991, 6040, 6043, 6115, 6118, 6177, 6180, 6241, 6244, 6316, 6319, 1] ++ Kb4k) [13, 2953, 2970, 2971] Kp15 Kz15 = some (Kp16, Kz16) := by kernel_rfl
theorem Kt16 : Kck (lp (bk (sr (sl (sr (sr (sr (sr (sr (Kcode)))))))))) 7 [1, 6, 9, 45, 46, 47] Kb5k [13, 3181, 3230, 3231] Kp16 Kz16 = some (Kp17, Kz17) := by kernel_rfl
theorem Kt17 : Kck (lp (bk (sr (sl (sr (sr (sr (sr (sr (Kcode)))))))))) 8 [1, 6, 9, 45, 46, 47] ([6820, 6823, 6900, 6903, 6948, 6951, 7028, 7031, 7076, 7079, 7156, 7159, 7204, 7207, 7284, 7287, 1] ++ Kb5k) [13, 3469, 3518, 3519] Kp17 Kz17 = some (Kp18, Kz18) := by kernel_rfl
theorem Kt18 : Kck (lp (bk (sr (sl (sr (sr (sr (sr (sr (Kcode)))))))))) 8 [1, 6, 9, 45, 46, 47] Kb6k [13, 3757, 3806, 3807] Kp18 Kz18 = some (Kp19, Kz19) := by kernel_rfl
theorem Kt19 : Kck (lp (bk (sr (sl (sr (sr (sr (sr (sr (Kcode)))))))))) 8 [1, 6, 9, 45, 46, 47] ([7844, 7847, 7924, 7927, 7972, 7975, 8052, 8055, 8100, 8103, 8180, 8183, 8256, 8259, 8261, 8337, 8340, 8342, 1] ++ Kb6k) [13, 4061, 4094, 4095] Kp19 Kz19 = some (Kp20, Kz20) := by kernel_rfl
theorem Kt20 : Kpc (bk (sr (sl (sr (sr (sr (sr (sr (Kcode))))))))) [6, 9] Kb7k [13, 4253, 4286, 4287] Kp20 Kz20 = some ((.exit 2), Kp21, Kz21) := by kernel_rfl
theorem Kt21 : Kpc (sr (sr (sr (sr (sr (sr (Kcode))))))) [2, 3] Kb8k [13, 4253, 4286] Kp21 Kz21 = some (.ret, Kp22, Kz22) := by kernel_rfl
end Go.DM.FM.TX
