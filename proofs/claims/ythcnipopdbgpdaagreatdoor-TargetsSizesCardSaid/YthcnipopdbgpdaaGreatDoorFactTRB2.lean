/- Pieces of a closed run: each is checked by reckoning. No condition. -/
import Derived.Test.YthcnipopdbgpdaaGreatDoorDataTR
namespace Go.DM.FM.TR
open Go Go.Proofs
set_option maxRecDepth 1000000
theorem Bt9 : Bck (lp (bk (sr (sl (sr (sr (sr (sr (sr (Bcode)))))))))) 8 [2, 8, 29, 30, 31] [0, 1, 7640] [1, 33, 63, 388, 375, 381, 387] Bp9 Bz9 = some (Bp10, Bz10) := by kernel_rfl
theorem Bt10 : Bck (lp (bk (sr (sl (sr (sr (sr (sr (sr (Bcode)))))))))) 8 [2, 8, 29, 30, 31] [0, 1, 9740] [1, 33, 63, 497, 486, 492, 496] Bp10 Bz10 = some (Bp11, Bz11) := by kernel_rfl
theorem Bt11 : Bck (lp (bk (sr (sl (sr (sr (sr (sr (sr (Bcode)))))))))) 7 [2, 8, 29, 30, 31] [0, 1, 11663] [1, 33, 63, 598, 586, 592, 597] Bp11 Bz11 = some (Bp12, Bz12) := by kernel_rfl
theorem Bt12 : Bck (lp (bk (sr (sl (sr (sr (sr (sr (sr (Bcode)))))))))) 7 [2, 8, 29, 30, 31] [0, 1, 13686] [1, 33, 63, 701, 688, 694, 700] Bp12 Bz12 = some (Bp13, Bz13) := by kernel_rfl
theorem Bt13 : Bck (lp (bk (sr (sl (sr (sr (sr (sr (sr (Bcode)))))))))) 6 [2, 8, 29, 30, 31] [0, 1, 15684] [1, 33, 63, 801, 787, 793, 800] Bp13 Bz13 = some (Bp14, Bz14) := by kernel_rfl
theorem Bt14 : Bck (lp (bk (sr (sl (sr (sr (sr (sr (sr (Bcode)))))))))) 6 [2, 8, 29, 30, 31] [0, 1, 17748] [1, 33, 63, 903, 889, 895, 902] Bp14 Bz14 = some (Bp15, Bz15) := by kernel_rfl
theorem Bt15 : Bck (lp (bk (sr (sl (sr (sr (sr (sr (sr (Bcode)))))))))) 6 [2, 8, 29, 30, 31] [0, 1, 19684] [1, 33, 63, 990, 976, 982, 989] Bp15 Bz15 = some (Bp16, Bz16) := by kernel_rfl
theorem Bt16 : Bck (lp (bk (sr (sl (sr (sr (sr (sr (sr (Bcode)))))))))) 7 [2, 8, 29, 30, 31] [0, 1, 21562] [1, 33, 63, 1056, 1048, 1054, 1055] Bp16 Bz16 = some (Bp17, Bz17) := by kernel_rfl
theorem Bt17 : Bck (lp (bk (sr (sl (sr (sr (sr (sr (sr (Bcode)))))))))) 5 [2, 8, 29, 30, 31] [0, 1, 23355] [1, 33, 63, 1130, 1116, 1123, 1129] Bp17 Bz17 = some (Bp18, Bz18) := by kernel_rfl
end Go.DM.FM.TR
