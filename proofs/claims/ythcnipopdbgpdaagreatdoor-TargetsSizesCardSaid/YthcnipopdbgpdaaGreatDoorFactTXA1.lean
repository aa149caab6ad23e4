/- Pieces of a closed run: each is checked by reckoning. No condition. -/
import Derived.Test.YthcnipopdbgpdaaGreatDoorDataTX
namespace Go.DM.FM.TX
open Go Go.Proofs
set_option maxRecDepth 1000000
theorem At0 : Apc (sl (Acode)) [0, 1] [3, 2, 1, 0] [] (setArgs 0 Aargs ff0) As0 = some (.normal, Ap1, Az1) := by kernel_rfl
theorem At1 : Apc (sl (sr (Acode))) [0, 1, 5] [3, 2, 1, 0] [] Ap1 Az1 = some (.normal, Ap2, Az2) := by kernel_rfl
theorem At2 : Ack (lp (bk (sr (sr (Acode))))) 34 [0, 1, 5] [3, 2, 1, 0] [577] Ap2 Az2 = some (Ap3, Az3) := by kernel_rfl
theorem At3 : Ack (lp (bk (sr (sr (Acode))))) 8 [0, 1, 5] [3, 2, 1, 0] [1191] Ap3 Az3 = some (Ap4, Az4) := by kernel_rfl
theorem At4 : Ack (lp (bk (sr (sr (Acode))))) 6 [0, 1, 5] [3, 2, 1, 0] [1782] Ap4 Az4 = some (Ap5, Az5) := by kernel_rfl
theorem At5 : Ack (lp (bk (sr (sr (Acode))))) 8 [0, 1, 5] [3, 2, 1, 0] [2330] Ap5 Az5 = some (Ap6, Az6) := by kernel_rfl
theorem At6 : Ack (lp (bk (sr (sr (Acode))))) 12 [0, 1, 5] [3, 2, 1, 0] [2820] Ap6 Az6 = some (Ap7, Az7) := by kernel_rfl
theorem At7 : Ack (lp (bk (sr (sr (Acode))))) 11 [0, 1, 5] [3, 2, 1, 0] [3307] Ap7 Az7 = some (Ap8, Az8) := by kernel_rfl
theorem At8 : Ack (lp (bk (sr (sr (Acode))))) 9 [0, 1, 5] [3, 2, 1, 0] [3804] Ap8 Az8 = some (Ap9, Az9) := by kernel_rfl
theorem At9 : Ack (lp (bk (sr (sr (Acode))))) 18 [0, 1, 5] [3, 2, 1, 0] [4319] Ap9 Az9 = some (Ap10, Az10) := by kernel_rfl
theorem At10 : Ack (lp (bk (sr (sr (Acode))))) 15 [0, 1, 5] [3, 2, 1, 0] [4824] Ap10 Az10 = some (Ap11, Az11) := by kernel_rfl
theorem At11 : Ack (lp (bk (sr (sr (Acode))))) 46 [0, 1, 5] [3, 2, 1, 0] [5294] Ap11 Az11 = some (Ap12, Az12) := by kernel_rfl
theorem At12 : Apc (bk (sr (sr (Acode)))) [4] [3, 2, 1, 0] [5294] Ap12 Az12 = some (.ret, Ap13, W4) := by kernel_rfl
end Go.DM.FM.TX
