/- Pieces of a closed run: each is checked by reckoning. No condition. -/
import Derived.Test.YthcnipopdbgpdaaGreatDoorDataTR
namespace Go.DM.FM.TR
open Go Go.Proofs
set_option maxRecDepth 1000000
theorem Kt7 : Kck (lp (bk (sr (sl (sr (sr (sr (sr (sr (Kcode)))))))))) 7 [1, 6, 9, 45, 46, 47] Kb1k [28, 498, 531, 532] Kp7 Kz7 = some (Kp8, Kz8) := by kernel_rfl
theorem Kt8 : Kck (lp (bk (sr (sl (sr (sr (sr (sr (sr (Kcode)))))))))) 7 [1, 6, 9, 45, 46, 47] Kb2k [28, 750, 783, 784] Kp8 Kz8 = some (Kp9, Kz9) := by kernel_rfl
theorem Kt9 : Kck (lp (bk (sr (sl (sr (sr (sr (sr (sr (Kcode)))))))))) 7 [1, 6, 9, 45, 46, 47] Kb3k [28, 1002, 1035, 1036] Kp9 Kz9 = some (Kp10, Kz10) := by kernel_rfl
theorem Kt10 : Kck (lp (bk (sr (sl (sr (sr (sr (sr (sr (Kcode)))))))))) 8 [1, 6, 9, 45, 46, 47] Kb4k [28, 1290, 1323, 1324] Kp10 Kz10 = some (Kp11, Kz11) := by kernel_rfl
theorem Kt11 : Kck (lp (bk (sr (sl (sr (sr (sr (sr (sr (Kcode)))))))))) 8 [1, 6, 9, 45, 46, 47] Kb5k [28, 1578, 1611, 1612] Kp11 Kz11 = some (Kp12, Kz12) := by kernel_rfl
theorem Kt12 : Kck (lp (bk (sr (sl (sr (sr (sr (sr (sr (Kcode)))))))))) 8 [1, 6, 9, 45, 46, 47] Kb6k [28, 1866, 1899, 1900] Kp12 Kz12 = some (Kp13, Kz13) := by kernel_rfl
end Go.DM.FM.TR
