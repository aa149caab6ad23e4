/- Pieces of a closed run: each is checked by reckoning. No condition. -/
import Derived.Test.YthcnipopdbgpdaaGreatDoorDataTX
namespace Go.DM.FM.TX
open Go Go.Proofs
set_option maxRecDepth 1000000
theorem Bt18 : Bck (lp (bk (sr (sl (sr (sr (sr (sr (sr (Bcode)))))))))) 6 [2, 8, 29, 30, 31] [0, 1, 26835] [2, 10, 14, 29, 1576, 1565, 1570, 1575] Bp18 Bz18 = some (Bp19, Bz19) := by kernel_rfl
theorem Bt19 : Bck (lp (bk (sr (sl (sr (sr (sr (sr (sr (Bcode)))))))))) 6 [2, 8, 29, 30, 31] [0, 1, 28635] [2, 10, 14, 29, 1643, 1631, 1636, 1642] Bp19 Bz19 = some (Bp20, Bz20) := by kernel_rfl
theorem Bt20 : Bck (lp (bk (sr (sl (sr (sr (sr (sr (sr (Bcode)))))))))) 6 [2, 8, 29, 30, 31] [0, 1, 30623] [2, 10, 14, 29, 1718, 1707, 1712, 1717] Bp20 Bz20 = some (Bp21, Bz21) := by kernel_rfl
theorem Bt21 : Bck (lp (bk (sr (sl (sr (sr (sr (sr (sr (Bcode)))))))))) 5 [2, 8, 29, 30, 31] [0, 1, 32294] [2, 10, 14, 29, 1777, 1767, 1769, 1776] Bp21 Bz21 = some (Bp22, Bz22) := by kernel_rfl
theorem Bt22 : Bck (lp (bk (sr (sl (sr (sr (sr (sr (sr (Bcode)))))))))) 5 [2, 8, 29, 30, 31] [0, 1, 34123] [2, 10, 14, 29, 1851, 1835, 1840, 1850] Bp22 Bz22 = some (Bp23, Bz23) := by kernel_rfl
theorem Bt23 : Bck (lp (bk (sr (sl (sr (sr (sr (sr (sr (Bcode)))))))))) 5 [2, 8, 29, 30, 31] [0, 1, 36028] [2, 10, 14, 29, 1913, 1904, 1909, 1912] Bp23 Bz23 = some (Bp24, Bz24) := by kernel_rfl
theorem Bt24 : Bck (lp (bk (sr (sl (sr (sr (sr (sr (sr (Bcode)))))))))) 14 [2, 8, 29, 30, 31] [0, 1, 37308] [2, 10, 14, 29, 1934, 1967, 1926, 1932, 1933] Bp24 Bz24 = some (Bp25, Bz25) := by kernel_rfl
theorem Bt25 : Bpc (bk (sr (sl (sr (sr (sr (sr (sr (Bcode))))))))) [2, 8] [0, 1, 37308] [2, 10, 14, 29, 1934, 1967, 1976, 1987, 1994, 1926, 1932, 1933] Bp25 Bz25 = some ((.exit 0), Bp26, Bz26) := by kernel_rfl
theorem Bt26 : Bpc (sr (sr (sr (sr (sr (sr (Bcode))))))) [2, 3, 4] [0] [2, 10, 14, 29, 1934, 1967, 1976, 1987, 1994] Bp26 Bz26 = some (.ret, Bp27, Acd) := by kernel_rfl
end Go.DM.FM.TX
