/- Pieces of a closed run: each is checked by reckoning. No condition. -/
import Derived.Test.YtjcpllbpkdfakaaGreatDoorDataK
namespace Go.DM.FM
open Go Go.Proofs
set_option maxRecDepth 1000000
theorem Kt0 : pc cfgK (fcall cfgK orc 1000) 1000 (comp cfgK 89 Klive Kfast (sl (Kcode))) [1] [0] [] (setArgs 0 Kargs ff0) Ks0 = some (.normal, Kp1, Kz1) := by kernel_rfl
theorem Kt1 : pc cfgK (fcall cfgK orc 1000) 1000 (comp cfgK 89 Klive Kfast (sl (sr (Kcode)))) [1] [0] [] Kp1 Kz1 = some (.normal, Kp2, Kz2) := by kernel_rfl
theorem Kt2 : pc cfgK (fcall cfgK orc 1000) 1000 (comp cfgK 89 Klive Kfast (sl (sr (sr (Kcode))))) [1, 6] [0, 1] [] Kp2 Kz2 = some (.normal, Kp3, Kz3) := by kernel_rfl
theorem Kt3 : pc cfgK (fcall cfgK orc 1000) 1000 (comp cfgK 89 Klive Kfast (sl (sr (sr (sr (Kcode)))))) [1, 6] [0, 1] [28] Kp3 Kz3 = some (.normal, Kp4, Kz4) := by kernel_rfl
theorem Kt4 : pc cfgK (fcall cfgK orc 1000) 1000 (comp cfgK 89 Klive Kfast (sl (sr (sr (sr (sr (Kcode))))))) [1, 6, 9] [0, 1] [28] Kp4 Kz4 = some (.normal, Kp5, Kz5) := by kernel_rfl
end Go.DM.FM
