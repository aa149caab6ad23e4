/- Pieces of a closed run: each is checked by reckoning. No condition. -/
import Derived.Test.YtjcpllbpkdfakaaGreatDoorDataA
namespace Go.DM.FM
open Go Go.Proofs
set_option maxRecDepth 1000000
theorem At7 : ck cfg0 (fcall cfg0 orc 1000) 1000 (comp cfg0 105 Alive Afast (lp (bk (sr (sr (Acode)))))) 18 [0, 1, 5] [3, 2, 1, 0] [3259] Ap7 Az7 = some (Ap8, Az8) := by kernel_rfl
theorem At8 : ck cfg0 (fcall cfg0 orc 1000) 1000 (comp cfg0 105 Alive Afast (lp (bk (sr (sr (Acode)))))) 16 [0, 1, 5] [3, 2, 1, 0] [3819] Ap8 Az8 = some (Ap9, Az9) := by kernel_rfl
theorem At9 : ck cfg0 (fcall cfg0 orc 1000) 1000 (comp cfg0 105 Alive Afast (lp (bk (sr (sr (Acode)))))) 33 [0, 1, 5] [3, 2, 1, 0] [4283] Ap9 Az9 = some (Ap10, Az10) := by kernel_rfl
theorem At10 : pc cfg0 (fcall cfg0 orc 1000) 1000 (comp cfg0 105 Alive Afast (bk (sr (sr (Acode))))) [4] [3, 2, 1, 0] [4418] Ap10 Az10 = some (.ret, Ap11, Az11) := by kernel_rfl
end Go.DM.FM
