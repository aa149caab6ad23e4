/- Pieces of a closed run: each is checked by reckoning. No condition. -/
import Derived.Test.YthcnipopdbgpdaaGreatDoorDataTR
namespace Go.DM.FM.TR
open Go Go.Proofs
set_option maxRecDepth 1000000
theorem At0 : Apc (sl (Acode)) [0, 1] [3, 2, 1, 0] [] (setArgs 0 Aargs ff0) As0 = some (.normal, Ap1, Az1) := by kernel_rfl
theorem At1 : Apc (sl (sr (Acode))) [0, 1, 5] [3, 2, 1, 0] [] Ap1 Az1 = some (.normal, Ap2, Az2) := by kernel_rfl
theorem At2 : Ack (lp (bk (sr (sr (Acode))))) 63 [0, 1, 5] [3, 2, 1, 0] [522] Ap2 Az2 = some (Ap3, Az3) := by kernel_rfl
theorem At3 : Ack (lp (bk (sr (sr (Acode))))) 13 [0, 1, 5] [3, 2, 1, 0] [1068] Ap3 Az3 = some (Ap4, Az4) := by kernel_rfl
theorem At4 : Ack (lp (bk (sr (sr (Acode))))) 15 [0, 1, 5] [3, 2, 1, 0] [1620] Ap4 Az4 = some (Ap5, Az5) := by kernel_rfl
theorem At5 : Ack (lp (bk (sr (sr (Acode))))) 14 [0, 1, 5] [3, 2, 1, 0] [2188] Ap5 Az5 = some (Ap6, Az6) := by kernel_rfl
theorem At6 : Ack (lp (bk (sr (sr (Acode))))) 13 [0, 1, 5] [3, 2, 1, 0] [2730] Ap6 Az6 = some (Ap7, Az7) := by kernel_rfl
theorem At7 : Ack (lp (bk (sr (sr (Acode))))) 18 [0, 1, 5] [3, 2, 1, 0] [3259] Ap7 Az7 = some (Ap8, Az8) := by kernel_rfl
theorem At8 : Ack (lp (bk (sr (sr (Acode))))) 16 [0, 1, 5] [3, 2, 1, 0] [3819] Ap8 Az8 = some (Ap9, Az9) := by kernel_rfl
theorem At9 : Ack (lp (bk (sr (sr (Acode))))) 33 [0, 1, 5] [3, 2, 1, 0] [4283] Ap9 Az9 = some (Ap10, Az10) := by kernel_rfl
theorem At10 : Apc (bk (sr (sr (Acode)))) [4] [3, 2, 1, 0] [4418] Ap10 Az10 = some (.ret, Ap11, Az11) := by kernel_rfl
end Go.DM.FM.TR
