/- Pieces of a closed run: each is checked by reckoning. No condition. -/
import Derived.Test.YthcnipopdbgpdaaGreatDoorDataTX
namespace Go.DM.FM.TX
open Go Go.Proofs
set_option maxRecDepth 1000000
theorem Bt9 : Bck (lp (bk (sr (sl (sr (sr (sr (sr (sr (Bcode)))))))))) 5 [2, 8, 29, 30, 31] [0, 1, 8505] [2, 10, 14, 29, 565, 530, 536, 564] Bp9 Bz9 = some (Bp10, Bz10) := by kernel_rfl
theorem Bt10 : Bck (lp (bk (sr (sl (sr (sr (sr (sr (sr (Bcode)))))))))) 4 [2, 8, 29, 30, 31] [0, 1, 10785] [2, 10, 14, 29, 697, 666, 672, 696] Bp10 Bz10 = some (Bp11, Bz11) := by kernel_rfl
theorem Bt11 : Bck (lp (bk (sr (sl (sr (sr (sr (sr (sr (Bcode)))))))))) 6 [2, 8, 29, 30, 31] [0, 1, 13083] [2, 10, 14, 29, 825, 810, 819, 824] Bp11 Bz11 = some (Bp12, Bz12) := by kernel_rfl
theorem Bt12 : Bck (lp (bk (sr (sl (sr (sr (sr (sr (sr (Bcode)))))))))) 7 [2, 8, 29, 30, 31] [0, 1, 15116] [2, 10, 14, 29, 951, 935, 946, 950] Bp12 Bz12 = some (Bp13, Bz13) := by kernel_rfl
theorem Bt13 : Bck (lp (bk (sr (sl (sr (sr (sr (sr (sr (Bcode)))))))))) 6 [2, 8, 29, 30, 31] [0, 1, 17029] [2, 10, 14, 29, 1065, 1050, 1058, 1064] Bp13 Bz13 = some (Bp14, Bz14) := by kernel_rfl
theorem Bt14 : Bck (lp (bk (sr (sl (sr (sr (sr (sr (sr (Bcode)))))))))) 6 [2, 8, 29, 30, 31] [0, 1, 19042] [2, 10, 14, 29, 1189, 1170, 1182, 1188] Bp14 Bz14 = some (Bp15, Bz15) := by kernel_rfl
theorem Bt15 : Bck (lp (bk (sr (sl (sr (sr (sr (sr (sr (Bcode)))))))))) 6 [2, 8, 29, 30, 31] [0, 1, 21084] [2, 10, 14, 29, 1305, 1288, 1299, 1304] Bp15 Bz15 = some (Bp16, Bz16) := by kernel_rfl
theorem Bt16 : Bck (lp (bk (sr (sl (sr (sr (sr (sr (sr (Bcode)))))))))) 4 [2, 8, 29, 30, 31] [0, 1, 23067] [2, 10, 14, 29, 1423, 1409, 1413, 1422] Bp16 Bz16 = some (Bp17, Bz17) := by kernel_rfl
theorem Bt17 : Bck (lp (bk (sr (sl (sr (sr (sr (sr (sr (Bcode)))))))))) 7 [2, 8, 29, 30, 31] [0, 1, 25140] [2, 10, 14, 29, 1511, 1501, 1506, 1510] Bp17 Bz17 = some (Bp18, Bz18) := by kernel_rfl
end Go.DM.FM.TX
