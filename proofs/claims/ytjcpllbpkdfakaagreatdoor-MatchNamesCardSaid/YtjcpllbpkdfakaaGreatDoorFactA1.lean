/- Pieces of a closed run: each is checked by reckoning. No condition. -/
import Derived.Test.YtjcpllbpkdfakaaGreatDoorDataA
namespace Go.DM.FM
open Go Go.Proofs
set_option maxRecDepth 1000000
theorem At0 : pc cfg0 (fcall cfg0 orc 1000) 1000 (comp cfg0 105 Alive Afast (sl (Acode))) [0, 1] [3, 2, 1, 0] [] (setArgs 0 Aargs ff0) As0 = some (.normal, Ap1, Az1) := by kernel_rfl
theorem At1 : pc cfg0 (fcall cfg0 orc 1000) 1000 (comp cfg0 105 Alive Afast (sl (sr (Acode)))) [0, 1, 5] [3, 2, 1, 0] [] Ap1 Az1 = some (.normal, Ap2, Az2) := by kernel_rfl
theorem At2 : ck cfg0 (fcall cfg0 orc 1000) 1000 (comp cfg0 105 Alive Afast (lp (bk (sr (sr (Acode)))))) 63 [0, 1, 5] [3, 2, 1, 0] [522] Ap2 Az2 = some (Ap3, Az3) := by kernel_rfl
theorem At3 : ck cfg0 (fcall cfg0 orc 1000) 1000 (comp cfg0 105 Alive Afast (lp (bk (sr (sr (Acode)))))) 13 [0, 1, 5] [3, 2, 1, 0] [1068] Ap3 Az3 = some (Ap4, Az4) := by kernel_rfl
theorem At4 : ck cfg0 (fcall cfg0 orc 1000) 1000 (comp cfg0 105 Alive Afast (lp (bk (sr (sr (Acode)))))) 15 [0, 1, 5] [3, 2, 1, 0] [1620] Ap4 Az4 = some (Ap5, Az5) := by kernel_rfl
theorem At5 : ck cfg0 (fcall cfg0 orc 1000) 1000 (comp cfg0 105 Alive Afast (lp (bk (sr (sr (Acode)))))) 14 [0, 1, 5] [3, 2, 1, 0] [2188] Ap5 Az5 = some (Ap6, Az6) := by kernel_rfl
theorem At6 : ck cfg0 (fcall cfg0 orc 1000) 1000 (comp cfg0 105 Alive Afast (lp (bk (sr (sr (Acode)))))) 13 [0, 1, 5] [3, 2, 1, 0] [2730] Ap6 Az6 = some (Ap7, Az7) := by kernel_rfl
end Go.DM.FM
