/- Pieces of a closed run: each is checked by reckoning. No condition. -/
import Derived.Test.YthcnipopdbgpdaaGreatDoorDataTR
namespace Go.DM.FM.TR
open Go Go.Proofs
set_option maxRecDepth 1000000
theorem Kt0 : Kpc (sl (Kcode)) [1] [0] [] (setArgs 0 Kargs ff0) Ks0 = some (.normal, Kp1, Kz1) := by kernel_rfl
theorem Kt1 : Kpc (sl (sr (Kcode))) [1] [0] [] Kp1 Kz1 = some (.normal, Kp2, Kz2) := by kernel_rfl
theorem Kt2 : Kpc (sl (sr (sr (Kcode)))) [1, 6] [0, 1] [] Kp2 Kz2 = some (.normal, Kp3, Kz3) := by kernel_rfl
theorem Kt3 : Kpc (sl (sr (sr (sr (Kcode))))) [1, 6] [0, 1] [28] Kp3 Kz3 = some (.normal, Kp4, Kz4) := by kernel_rfl
theorem Kt4 : Kpc (sl (sr (sr (sr (sr (Kcode)))))) [1, 6, 9] [0, 1] [28] Kp4 Kz4 = some (.normal, Kp5, Kz5) := by kernel_rfl
theorem Kt5 : Kpc (sl (sl (sr (sr (sr (sr (sr (Kcode)))))))) [1, 6, 9, 45, 46, 47] [0, 1] [28] Kp5 Kz5 = some (.normal, Kp6, Kz6) := by kernel_rfl
theorem Kt6 : Kck (lp (bk (sr (sl (sr (sr (sr (sr (sr (Kcode)))))))))) 7 [1, 6, 9, 45, 46, 47] Kb0k [28, 246, 279, 280] Kp6 Kz6 = some (Kp7, Kz7) := by kernel_rfl
theorem Kt7 : Kck (lp (bk (sr (sl (sr (sr (sr (sr (sr (Kcode)))))))))) 7 [1, 6, 9, 45, 46, 47] Kb1k [28, 498, 531, 532] Kp7 Kz7 = some (Kp8, Kz8) := by kernel_rfl
theorem Kt8 : Kck (lp (bk (sr (sl (sr (sr (sr (sr (sr (Kcode)))))))))) 7 [1, 6, 9, 45, 46, 47] Kb2k [28, 750, 783, 784] Kp8 Kz8 = some (Kp9, Kz9) := by kernel_rfl
theorem Kt9 : Kck (lp (bk (sr (sl (sr (sr (sr (sr (sr (Kcode)))))))))) 7 [1, 6, 9, 45, 46, 47] Kb3k [28, 1002, 1035, 1036] Kp9 Kz9 = some (Kp10, Kz10) := by kernel_rfl
end Go.DM.FM.TR
