/- Pieces of a closed run: each is checked by reckoning. No condition. -/
import Derived.Test.YthcnipopdbgpdaaGreatDoorDataTR
namespace Go.DM.FM.TR
open Go Go.Proofs
set_option maxRecDepth 1000000
theorem Bt18 : Bck (lp (bk (sr (sl (sr (sr (sr (sr (sr (Bcode)))))))))) 6 [2, 8, 29, 30, 31] [0, 1, 25433] [1, 33, 63, 1197, 1184, 1192, 1196] Bp18 Bz18 = some (Bp19, Bz19) := by kernel_rfl
theorem Bt19 : Bck (lp (bk (sr (sl (sr (sr (sr (sr (sr (Bcode)))))))))) 5 [2, 8, 29, 30, 31] [0, 1, 27272] [1, 33, 63, 1260, 1250, 1255, 1259] Bp19 Bz19 = some (Bp20, Bz20) := by kernel_rfl
theorem Bt20 : Bck (lp (bk (sr (sl (sr (sr (sr (sr (sr (Bcode)))))))))) 5 [2, 8, 29, 30, 31] [0, 1, 29067] [1, 33, 63, 1326, 1313, 1318, 1325] Bp20 Bz20 = some (Bp21, Bz21) := by kernel_rfl
theorem Bt21 : Bck (lp (bk (sr (sl (sr (sr (sr (sr (sr (Bcode)))))))))) 5 [2, 8, 29, 30, 31] [0, 1, 31089] [1, 33, 63, 1406, 1393, 1399, 1405] Bp21 Bz21 = some (Bp22, Bz22) := by kernel_rfl
theorem Bt22 : Bck (lp (bk (sr (sl (sr (sr (sr (sr (sr (Bcode)))))))))) 6 [2, 8, 29, 30, 31] [0, 1, 33160] [1, 33, 63, 1463, 1454, 1458, 1462] Bp22 Bz22 = some (Bp23, Bz23) := by kernel_rfl
theorem Bt23 : Bck (lp (bk (sr (sl (sr (sr (sr (sr (sr (Bcode)))))))))) 16 [2, 8, 29, 30, 31] [0, 1, 33955] [1, 33, 63, 1490, 1532, 1479, 1484, 1489] Bp23 Bz23 = some (Bp24, Bz24) := by kernel_rfl
theorem Bt24 : Bpc (bk (sr (sl (sr (sr (sr (sr (sr (Bcode))))))))) [2, 8] [0, 1, 33955] [1, 33, 63, 1490, 1532, 1565, 1566, 1557, 1581, 1588, 1479, 1484, 1489] Bp24 Bz24 = some ((.exit 0), Bp25, Bz25) := by kernel_rfl
theorem Bt25 : Bpc (sr (sr (sr (sr (sr (sr (Bcode))))))) [2, 3, 4] [0] [1, 33, 63, 1490, 1532, 1565, 1566, 1557, 1581, 1588] Bp25 Bz25 = some (.ret, Bp26, Bz26) := by kernel_rfl
end Go.DM.FM.TR
