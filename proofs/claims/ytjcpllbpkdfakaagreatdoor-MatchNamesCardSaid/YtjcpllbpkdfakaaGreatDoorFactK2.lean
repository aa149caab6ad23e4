/- Pieces of a closed run: each is checked by reckoning. No condition. -/
import Derived.Test.YtjcpllbpkdfakaaGreatDoorDataK
namespace Go.DM.FM
open Go Go.Proofs
set_option maxRecDepth 1000000
theorem Kt5 : pc cfgK (fcall cfgK orc 1000) 1000 (comp cfgK 89 Klive Kfast (sl (sl (sr (sr (sr (sr (sr (Kcode))))))))) [1, 6, 9, 45, 46, 47] [0, 1] [28] Kp5 Kz5 = some (.normal, Kp6, Kz6) := by kernel_rfl
theorem Kt6 : ck cfgK (fcall cfgK orc 1000) 1000 (comp cfgK 89 Klive Kfast (lp (bk (sr (sl (sr (sr (sr (sr (sr (Kcode))))))))))) 7 [1, 6, 9, 45, 46, 47] Kb0k [28, 246, 279, 280] Kp6 Kz6 = some (Kp7, Kz7) := by kernel_rfl
theorem Kt7 : ck cfgK (fcall cfgK orc 1000) 1000 (comp cfgK 89 Klive Kfast (lp (bk (sr (sl (sr (sr (sr (sr (sr (Kcode))))))))))) 7 [1, 6, 9, 45, 46, 47] Kb1k [28, 498, 531, 532] Kp7 Kz7 = some (Kp8, Kz8) := by kernel_rfl
theorem Kt8 : ck cfgK (fcall cfgK orc 1000) 1000 (comp cfgK 89 Klive Kfast (lp (bk (sr (sl (sr (sr (sr (sr (sr (Kcode))))))))))) 7 [1, 6, 9, 45, 46, 47] Kb2k [28, 750, 783, 784] Kp8 Kz8 = some (Kp9, Kz9) := by kernel_rfl
theorem Kt9 : ck cfgK (fcall cfgK orc 1000) 1000 (comp cfgK 89 Klive Kfast (lp (bk (sr (sl (sr (sr (sr (sr (sr (Kcode))))))))))) 7 [1, 6, 9, 45, 46, 47] Kb3k [28, 1002, 1035, 1036] Kp9 Kz9 = some (Kp10, Kz10) := by kernel_rfl
end Go.DM.FM
