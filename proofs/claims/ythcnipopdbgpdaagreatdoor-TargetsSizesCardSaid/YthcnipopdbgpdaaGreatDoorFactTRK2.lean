/- Pieces of a closed run: each is checked by reckoning. No condition. -/
import Derived.Test.YthcnipopdbgpdaaGreatDoorDataTR
namespace Go.DM.FM.TR
open Go Go.Proofs
set_option maxRecDepth 1000000
theorem Kt10 : Kck (lp (bk (sr (sl (sr (sr (sr (sr (sr (Kcode)))))))))) 8 [1, 6, 9, 45, 46, 47] Kb4k [28, 1290, 1323, 1324] Kp10 Kz10 = some (Kp11, Kz11) := by kernel_rfl
theorem Kt11 : Kck (lp (bk (sr (sl (sr (sr (sr (sr (sr (Kcode)))))))))) 8 [1, 6, 9, 45, 46, 47] Kb5k [28, 1578, 1611, 1612] Kp11 Kz11 = some (Kp12, Kz12) := by kernel_rfl
theorem Kt12 : Kck (lp (bk (sr (sl (sr (sr (sr (sr (sr (Kcode)))))))))) 8 [1, 6, 9, 45, 46, 47] Kb6k [28, 1866, 1899, 1900] Kp12 Kz12 = some (Kp13, Kz13) := by kernel_rfl
theorem Kt13 : Kck (lp (bk (sr (sl (sr (sr (sr (sr (sr (Kcode)))))))))) 8 [1, 6, 9, 45, 46, 47] Kb7k [28, 2154, 2187, 2188] Kp13 Kz13 = some (Kp14, Kz14) := by kernel_rfl
theorem Kt14 : Kck (lp (bk (sr (sl (sr (sr (sr (sr (sr (Kcode)))))))))) 10 [1, 6, 9, 45, 46, 47] Kb8k [28, 2504, 2521, 2522] Kp14 Kz14 = some (Kp15, Kz15) := by kernel_rfl
theorem Kt15 : Kck (lp (bk (sr (sl (sr (sr (sr (sr (sr (Kcode)))))))))) 12 [1, 6, 9, 45, 46, 47] Kb9k [28, 2746, 2763, 2764] Kp15 Kz15 = some (Kp16, Kz16) := by kernel_rfl
theorem Kt16 : Kck (lp (bk (sr (sl (sr (sr (sr (sr (sr (Kcode)))))))))) 12 [1, 6, 9, 45, 46, 47] Uu [28, 2986, 3003, 3004] Kp16 Kz16 = some (Kp17, Kz17) := by kernel_rfl
theorem Kt17 : Kpc (bk (sr (sl (sr (sr (sr (sr (sr (Kcode))))))))) [6, 9] ([7581, 7584, 7638, 7641, 7643, 7724, 7727, 7781, 7784, 7786, 7841, 7844, 7846, 7902, 7905, 7907, 1] ++ Uu) [28, 3128, 3145, 3146] Kp17 Kz17 = some ((.exit 2), Kp18, Kz18) := by kernel_rfl
theorem Kt18 : Kpc (sr (sr (sr (sr (sr (sr (Kcode))))))) [2, 3] Kb11k [28, 3128, 3145] Kp18 Kz18 = some (.ret, Kp19, Kz19) := by kernel_rfl
end Go.DM.FM.TR
