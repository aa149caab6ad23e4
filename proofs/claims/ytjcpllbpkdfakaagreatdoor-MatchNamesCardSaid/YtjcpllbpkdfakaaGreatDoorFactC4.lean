/- Pieces of a closed run: each is checked by reckoning. No condition. -/
import Derived.Test.YtjcpllbpkdfakaaGreatDoorDataC
namespace Go.DM.FM
open Go Go.Proofs
set_option maxRecDepth 1000000
theorem Ct18 : pc cfg2 (fcall cfg2 orc 1000) 1000 (comp cfg2 78 Clive Cfast (sr (sr (sr (sr (sr (sr (Ccode)))))))) [2, 3] Cb1k [] Cp18 Cz18 = some (.ret, Cp19, Cz19) := by kernel_rfl
end Go.DM.FM
