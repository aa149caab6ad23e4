/- Pieces of a closed run: each is checked by reckoning. No condition. -/
import Derived.Test.YthcnipopdbgpdaaGreatDoorDataTX
namespace Go.DM.FM.TX
open Go Go.Proofs
set_option maxRecDepth 1000000
theorem Bt7 : Bck (lp (bk (sr (sl (sr (sr (sr (sr (sr (Bcode)))))))))) 4 [2, 8, 29, 30, 31] [0, 1, 3580] [2, 10, 14, 29, 250, 217, 225, 249] Bp7 Bz7 = some (Bp8, Bz8) := by kernel_rfl
theorem Bt8 : Bck (lp (bk (sr (sl (sr (sr (sr (sr (sr (Bcode)))))))))) 6 [2, 8, 29, 30, 31] [0, 1, 5848] [2, 10, 14, 29, 410, 367, 376, 409] Bp8 Bz8 = some (Bp9, Bz9) := by kernel_rfl
theorem Bt9 : Bck (lp (bk (sr (sl (sr (sr (sr (sr (sr (Bcode)))))))))) 5 [2, 8, 29, 30, 31] [0, 1, 8505] [2, 10, 14, 29, 565, 530, 536, 564] Bp9 Bz9 = some (Bp10, Bz10) := by kernel_rfl
theorem Bt10 : Bck (lp (bk (sr (sl (sr (sr (sr (sr (sr (Bcode)))))))))) 4 [2, 8, 29, 30, 31] [0, 1, 10785] [2, 10, 14, 29, 697, 666, 672, 696] Bp10 Bz10 = some (Bp11, Bz11) := by kernel_rfl
theorem Bt11 : Bck (lp (bk (sr (sl (sr (sr (sr (sr (sr (Bcode)))))))))) 6 [2, 8, 29, 30, 31] [0, 1, 13083] [2, 10, 14, 29, 825, 810, 819, 824] Bp11 Bz11 = some (Bp12, Bz12) := by kernel_rfl
theorem Bt12 : Bck (lp (bk (sr (sl (sr (sr (sr (sr (sr (Bcode)))))))))) 7 [2, 8, 29, 30, 31] [0, 1, 15116] [2, 10, 14, 29, 951, 935, 946, 950] Bp12 Bz12 = some (Bp13, Bz13) := by kernel_rfl
theorem Bt13 : Bck (lp (bk (sr (sl (sr (sr (sr (sr (sr (Bcode)))))))))) 6 [2, 8, 29, 30, 31] [0, 1, 17029] [2, 10, 14, 29, 1065, 1050, 1058, 1064] Bp13 Bz13 = some (Bp14, Bz14) := by kernel_rfl
end Go.DM.FM.TX
