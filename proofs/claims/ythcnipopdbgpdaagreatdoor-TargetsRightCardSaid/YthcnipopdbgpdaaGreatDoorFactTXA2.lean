/- Pieces of a closed run: each is checked by reckoning. No condition. -/
import Derived.Test.YthcnipopdbgpdaaGreatDoorDataTX
namespace Go.DM.FM.TX
open Go Go.Proofs
set_option maxRecDepth 1000000
theorem At7 : Ack (lp (bk (sr (sr (Acode))))) 11 [0, 1, 5] [3, 2, 1, 0] [3307] Ap7 Az7 = some (Ap8, Az8) := by kernel_rfl
theorem At8 : Ack (lp (bk (sr (sr (Acode))))) 9 [0, 1, 5] [3, 2, 1, 0] [3804] Ap8 Az8 = some (Ap9, Az9) := by kernel_rfl
theorem At9 : Ack (lp (bk (sr (sr (Acode))))) 18 [0, 1, 5] [3, 2, 1, 0] [4319] Ap9 Az9 = some (Ap10, Az10) := by kernel_rfl
theorem At10 : Ack (lp (bk (sr (sr (Acode))))) 15 [0, 1, 5] [3, 2, 1, 0] [4824] Ap10 Az10 = some (Ap11, Az11) := by kernel_rfl
theorem At11 : Ack (lp (bk (sr (sr (Acode))))) 46 [0, 1, 5] [3, 2, 1, 0] [5294] Ap11 Az11 = some (Ap12, Az12) := by kernel_rfl
theorem At12 : Apc (bk (sr (sr (Acode)))) [4] [3, 2, 1, 0] [5294] Ap12 Az12 = some (.ret, Ap13, Az13) := by kernel_rfl
end Go.DM.FM.TX
