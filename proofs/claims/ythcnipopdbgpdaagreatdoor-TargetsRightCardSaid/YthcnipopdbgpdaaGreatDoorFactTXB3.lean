/- Pieces of a closed run: each is checked by reckoning. No condition. -/
import Derived.Test.YthcnipopdbgpdaaGreatDoorDataTX
namespace Go.DM.FM.TX
open Go Go.Proofs
set_option maxRecDepth 1000000
theorem Bt14 : Bck (lp (bk (sr (sl (sr (sr (sr (sr (sr (Bcode)))))))))) 6 [2, 8, 29, 30, 31] [0, 1, 19042] [2, 10, 14, 29, 1189, 1170, 1182, 1188] Bp14 Bz14 = some (Bp15, Bz15) := by kernel_rfl
theorem Bt15 : Bck (lp (bk (sr (sl (sr (sr (sr (sr (sr (Bcode)))))))))) 6 [2, 8, 29, 30, 31] [0, 1, 21084] [2, 10, 14, 29, 1305, 1288, 1299, 1304] Bp15 Bz15 = some (Bp16, Bz16) := by kernel_rfl
theorem Bt16 : Bck (lp (bk (sr (sl (sr (sr (sr (sr (sr (Bcode)))))))))) 4 [2, 8, 29, 30, 31] [0, 1, 23067] [2, 10, 14, 29, 1423, 1409, 1413, 1422] Bp16 Bz16 = some (Bp17, Bz17) := by kernel_rfl
theorem Bt17 : Bck (lp (bk (sr (sl (sr (sr (sr (sr (sr (Bcode)))))))))) 7 [2, 8, 29, 30, 31] [0, 1, 25140] [2, 10, 14, 29, 1511, 1501, 1506, 1510] Bp17 Bz17 = some (Bp18, Bz18) := by kernel_rfl
theorem Bt18 : Bck (lp (bk (sr (sl (sr (sr (sr (sr (sr (Bcode)))))))))) 6 [2, 8, 29, 30, 31] [0, 1, 26835] [2, 10, 14, 29, 1576, 1565, 1570, 1575] Bp18 Bz18 = some (Bp19, Bz19) := by kernel_rfl
theorem Bt19 : Bck (lp (bk (sr (sl (sr (sr (sr (sr (sr (Bcode)))))))))) 6 [2, 8, 29, 30, 31] [0, 1, 28635] [2, 10, 14, 29, 1643, 1631, 1636, 1642] Bp19 Bz19 = some (Bp20, Bz20) := by kernel_rfl
theorem Bt20 : Bck (lp (bk (sr (sl (sr (sr (sr (sr (sr (Bcode)))))))))) 6 [2, 8, 29, 30, 31] [0, 1, 30623] [2, 10, 14, 29, 1718, 1707, 1712, 1717] Bp20 Bz20 = some (Bp21, Bz21) := by kernel_rfl
end Go.DM.FM.TX
