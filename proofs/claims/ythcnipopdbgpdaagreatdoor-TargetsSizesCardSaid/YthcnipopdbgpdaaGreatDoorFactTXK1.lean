/- Pieces of a closed run: each is checked by reckoning. No condition. -/
import Derived.Test.YthcnipopdbgpdaaGreatDoorDataTX
namespace Go.DM.FM.TX
open Go Go.Proofs
set_option maxRecDepth 1000000
theorem Kt0 : Kpc (sl (Kcode)) [1] [0] [] (setArgs 0 Kargs ff0) Ks0 = some (.normal, Kp1, Kz1) := by kernel_rfl
theorem Kt1 : Kpc (sl (sr (Kcode))) [1] [0] [] Kp1 Kz1 = some (.normal, Kp2, Kz2) := by kernel_rfl
theorem Kt2 : Kpc (sl (sr (sr (Kcode)))) [1, 6] [0, 1] [] Kp2 Kz2 = some (.normal, Kp3, Kz3) := by kernel_rfl
theorem Kt3 : Kpc (sl (sr (sr (sr (Kcode))))) [1, 6] [0, 1] [13] Kp3 Kz3 = some (.normal, Kp4, Kz4) := by kernel_rfl
theorem Kt4 : Kpc (sl (sr (sr (sr (sr (Kcode)))))) [1, 6, 9] [0, 1] [13] Kp4 Kz4 = some (.normal, Kp5, Kz5) := by kernel_rfl
theorem Kt5 : Kpc (sl (sl (sr (sr (sr (sr (sr (Kcode)))))))) [1, 6, 9, 45, 46, 47] [0, 1] [13] Kp5 Kz5 = some (.normal, Kp6, Kz6) := by kernel_rfl
theorem Kt6 : Kck (lp (bk (sr (sl (sr (sr (sr (sr (sr (Kcode)))))))))) 10 [1, 6, 9, 45, 46, 47] Kb0k [13, 275, 332, 333] Kp6 Kz6 = some (Kp7, Kz7) := by kernel_rfl
theorem Kt7 : Kck (lp (bk (sr (sl (sr (sr (sr (sr (sr (Kcode)))))))))) 5 [1, 6, 9, 45, 46, 47] ([975, 978, 980, 1061, 1064, 1066, 1169, 1172, 1174, 1253, 1256, 1258, 1361, 1364, 1366, 1] ++ Kb0k) [13, 551, 608, 609] Kp7 Kz7 = some (Kp8, Kz8) := by kernel_rfl
theorem Kt8 : Kck (lp (bk (sr (sl (sr (sr (sr (sr (sr (Kcode)))))))))) 6 [1, 6, 9, 45, 46, 47] Kb1k [13, 839, 896, 897] Kp8 Kz8 = some (Kp9, Kz9) := by kernel_rfl
theorem Kt9 : Kck (lp (bk (sr (sl (sr (sr (sr (sr (sr (Kcode)))))))))) 6 [1, 6, 9, 45, 46, 47] ([2021, 2024, 2026, 2129, 2132, 2134, 2223, 2226, 2228, 2230, 2322, 2325, 2327, 2444, 2447, 2449, 2451, 2573, 2576, 2578, 1] ++ Kb1k) [13, 1135, 1200, 1201] Kp9 Kz9 = some (Kp10, Kz10) := by kernel_rfl
theorem Kt10 : Kck (lp (bk (sr (sl (sr (sr (sr (sr (sr (Kcode)))))))))) 6 [1, 6, 9, 45, 46, 47] Kb2k [13, 1447, 1488, 1489] Kp10 Kz10 = some (Kp11, Kz11) := by kernel_rfl
end Go.DM.FM.TX
