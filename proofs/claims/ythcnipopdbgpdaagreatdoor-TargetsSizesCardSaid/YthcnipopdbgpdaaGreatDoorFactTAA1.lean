/- Pieces of a closed run: each is checked by reckoning. No condition. -/
import Derived.Test.YthcnipopdbgpdaaGreatDoorDataTA
namespace Go.DM.FM.TA
open Go Go.Proofs
set_option maxRecDepth 1000000
theorem At0 : Apc (sl (Acode)) [0, 1] [3, 2, 1, 0] [] (setArgs 0 Aargs ff0) As0 = some (.normal, Ap1, Az1) := by kernel_rfl
theorem At1 : Apc (sl (sr (Acode))) [0, 1, 5] [3, 2, 1, 0] [] Ap1 Az1 = some (.normal, Ap2, Az2) := by kernel_rfl
theorem At2 : Ack (lp (bk (sr (sr (Acode))))) 39 [0, 1, 5] [3, 2, 1, 0] [521] Ap2 Az2 = some (Ap3, Az3) := by kernel_rfl
theorem At3 : Ack (lp (bk (sr (sr (Acode))))) 9 [0, 1, 5] [3, 2, 1, 0] [1080] Ap3 Az3 = some (Ap4, Az4) := by kernel_rfl
theorem At4 : Ack (lp (bk (sr (sr (Acode))))) 13 [0, 1, 5] [3, 2, 1, 0] [1665] Ap4 Az4 = some (Ap5, Az5) := by kernel_rfl
theorem At5 : Ack (lp (bk (sr (sr (Acode))))) 16 [0, 1, 5] [3, 2, 1, 0] [2220] Ap5 Az5 = some (Ap6, Az6) := by kernel_rfl
theorem At6 : Ack (lp (bk (sr (sr (Acode))))) 17 [0, 1, 5] [3, 2, 1, 0] [2741] Ap6 Az6 = some (Ap7, Az7) := by kernel_rfl
theorem At7 : Ack (lp (bk (sr (sr (Acode))))) 28 [0, 1, 5] [3, 2, 1, 0] [3182] Ap7 Az7 = some (Ap8, Az8) := by kernel_rfl
theorem At8 : Apc (bk (sr (sr (Acode)))) [4] [3, 2, 1, 0] [3349] Ap8 Az8 = some (.ret, Ap9, Az9) := by kernel_rfl
end Go.DM.FM.TA
