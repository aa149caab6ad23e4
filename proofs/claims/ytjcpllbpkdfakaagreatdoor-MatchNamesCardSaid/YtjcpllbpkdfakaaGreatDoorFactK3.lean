/- Pieces of a closed run: each is checked by reckoning. No condition. -/
import Derived.Test.YtjcpllbpkdfakaaGreatDoorDataK
namespace Go.DM.FM
open Go Go.Proofs
set_option maxRecDepth 1000000
theorem Kt10 : ck cfgK (fcall cfgK orc 1000) 1000 (comp cfgK 89 Klive Kfast (lp (bk (sr (sl (sr (sr (sr (sr (sr (Kcode))))))))))) 8 [1, 6, 9, 45, 46, 47] Kb4k [28, 1290, 1323, 1324] Kp10 Kz10 = some (Kp11, Kz11) := by kernel_rfl
theorem Kt11 : ck cfgK (fcall cfgK orc 1000) 1000 (comp cfgK 89 Klive Kfast (lp (bk (sr (sl (sr (sr (sr (sr (sr (Kcode))))))))))) 8 [1, 6, 9, 45, 46, 47] Kb5k [28, 1578, 1611, 1612] Kp11 Kz11 = some (Kp12, Kz12) := by kernel_rfl
theorem Kt12 : ck cfgK (fcall cfgK orc 1000) 1000 (comp cfgK 89 Klive Kfast (lp (bk (sr (sl (sr (sr (sr (sr (sr (Kcode))))))))))) 8 [1, 6, 9, 45, 46, 47] Kb6k [28, 1866, 1899, 1900] Kp12 Kz12 = some (Kp13, Kz13) := by kernel_rfl
theorem Kt13 : ck cfgK (fcall cfgK orc 1000) 1000 (comp cfgK 89 Klive Kfast (lp (bk (sr (sl (sr (sr (sr (sr (sr (Kcode))))))))))) 8 [1, 6, 9, 45, 46, 47] Kb7k [28, 2154, 2187, 2188] Kp13 Kz13 = some (Kp14, Kz14) := by kernel_rfl
theorem Kt14 : ck cfgK (fcall cfgK orc 1000) 1000 (comp cfgK 89 Klive Kfast (lp (bk (sr (sl (sr (sr (sr (sr (sr (Kcode))))))))))) 10 [1, 6, 9, 45, 46, 47] Kb8k [28, 2504, 2521, 2522] Kp14 Kz14 = some (Kp15, Kz15) := by kernel_rfl
end Go.DM.FM
