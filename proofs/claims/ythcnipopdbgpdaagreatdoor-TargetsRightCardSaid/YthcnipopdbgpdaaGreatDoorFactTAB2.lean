/- Pieces of a closed run: each is checked by reckoning. No condition. -/
import Derived.Test.YthcnipopdbgpdaaGreatDoorDataTA
namespace Go.DM.FM.TA
open Go Go.Proofs
set_option maxRecDepth 1000000
theorem Bt7 : Bck (lp (bk (sr (sl (sr (sr (sr (sr (sr (Bcode)))))))))) 8 [2, 8, 29, 30, 31] [0, 1, 3942] [3, 7, 11, 27, 221, 211, 216, 220] Bp7 Bz7 = some (Bp8, Bz8) := by kernel_rfl
theorem Bt8 : Bck (lp (bk (sr (sl (sr (sr (sr (sr (sr (Bcode)))))))))) 6 [2, 8, 29, 30, 31] [0, 1, 5782] [3, 7, 11, 27, 353, 314, 319, 352] Bp8 Bz8 = some (Bp9, Bz9) := by kernel_rfl
theorem Bt9 : Bck (lp (bk (sr (sl (sr (sr (sr (sr (sr (Bcode)))))))))) 6 [2, 8, 29, 30, 31] [0, 1, 8188] [3, 7, 11, 27, 459, 448, 453, 458] Bp9 Bz9 = some (Bp10, Bz10) := by kernel_rfl
theorem Bt10 : Bck (lp (bk (sr (sl (sr (sr (sr (sr (sr (Bcode)))))))))) 7 [2, 8, 29, 30, 31] [0, 1, 10227] [3, 7, 11, 27, 564, 553, 557, 563] Bp10 Bz10 = some (Bp11, Bz11) := by kernel_rfl
theorem Bt11 : Bck (lp (bk (sr (sl (sr (sr (sr (sr (sr (Bcode)))))))))) 7 [2, 8, 29, 30, 31] [0, 1, 12223] [3, 7, 11, 27, 656, 646, 650, 655] Bp11 Bz11 = some (Bp12, Bz12) := by kernel_rfl
theorem Bt12 : Bck (lp (bk (sr (sl (sr (sr (sr (sr (sr (Bcode)))))))))) 7 [2, 8, 29, 30, 31] [0, 1, 14243] [3, 7, 11, 27, 746, 739, 741, 745] Bp12 Bz12 = some (Bp13, Bz13) := by kernel_rfl
theorem Bt13 : Bck (lp (bk (sr (sl (sr (sr (sr (sr (sr (Bcode)))))))))) 8 [2, 8, 29, 30, 31] [0, 1, 16227] [3, 7, 11, 27, 829, 820, 823, 828] Bp13 Bz13 = some (Bp14, Bz14) := by kernel_rfl
end Go.DM.FM.TA
