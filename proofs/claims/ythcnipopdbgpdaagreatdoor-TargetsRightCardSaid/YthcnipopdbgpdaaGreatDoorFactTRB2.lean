/- Pieces of a closed run: each is checked by reckoning. No condition. -/
import Derived.Test.YthcnipopdbgpdaaGreatDoorDataTR
namespace Go.DM.FM.TR
open Go Go.Proofs
set_option maxRecDepth 1000000
theorem Bt7 : Bck (lp (bk (sr (sl (sr (sr (sr (sr (sr (Bcode)))))))))) 29 [2, 8, 29, 30, 31] [0, 1, 3511] [1, 33, 63, 138, 122, 130, 137] Bp7 Bz7 = some (Bp8, Bz8) := by kernel_rfl
theorem Bt8 : Bck (lp (bk (sr (sl (sr (sr (sr (sr (sr (Bcode)))))))))) 7 [2, 8, 29, 30, 31] [0, 1, 5546] [1, 33, 63, 266, 254, 259, 265] Bp8 Bz8 = some (Bp9, Bz9) := by kernel_rfl
theorem Bt9 : Bck (lp (bk (sr (sl (sr (sr (sr (sr (sr (Bcode)))))))))) 8 [2, 8, 29, 30, 31] [0, 1, 7640] [1, 33, 63, 388, 375, 381, 387] Bp9 Bz9 = some (Bp10, Bz10) := by kernel_rfl
theorem Bt10 : Bck (lp (bk (sr (sl (sr (sr (sr (sr (sr (Bcode)))))))))) 8 [2, 8, 29, 30, 31] [0, 1, 9740] [1, 33, 63, 497, 486, 492, 496] Bp10 Bz10 = some (Bp11, Bz11) := by kernel_rfl
theorem Bt11 : Bck (lp (bk (sr (sl (sr (sr (sr (sr (sr (Bcode)))))))))) 7 [2, 8, 29, 30, 31] [0, 1, 11663] [1, 33, 63, 598, 586, 592, 597] Bp11 Bz11 = some (Bp12, Bz12) := by kernel_rfl
theorem Bt12 : Bck (lp (bk (sr (sl (sr (sr (sr (sr (sr (Bcode)))))))))) 7 [2, 8, 29, 30, 31] [0, 1, 13686] [1, 33, 63, 701, 688, 694, 700] Bp12 Bz12 = some (Bp13, Bz13) := by kernel_rfl
theorem Bt13 : Bck (lp (bk (sr (sl (sr (sr (sr (sr (sr (Bcode)))))))))) 6 [2, 8, 29, 30, 31] [0, 1, 15684] [1, 33, 63, 801, 787, 793, 800] Bp13 Bz13 = some (Bp14, Bz14) := by kernel_rfl
end Go.DM.FM.TR
