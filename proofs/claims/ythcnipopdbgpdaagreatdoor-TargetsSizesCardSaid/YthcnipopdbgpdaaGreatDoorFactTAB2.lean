/- Pieces of a closed run: each is checked by reckoning. No condition. -/
import Derived.Test.YthcnipopdbgpdaaGreatDoorDataTA
namespace Go.DM.FM.TA
open Go Go.Proofs
set_option maxRecDepth 1000000
theorem Bt10 : Bck (lp (bk (sr (sl (sr (sr (sr (sr (sr (Bcode)))))))))) 7 [2, 8, 29, 30, 31] [0, 1, 10227] [3, 7, 11, 27, 564, 553, 557, 563] Bp10 Bz10 = some (Bp11, Bz11) := by kernel_rfl
theorem Bt11 : Bck (lp (bk (sr (sl (sr (sr (sr (sr (sr (Bcode)))))))))) 7 [2, 8, 29, 30, 31] [0, 1, 12223] [3, 7, 11, 27, 656, 646, 650, 655] Bp11 Bz11 = some (Bp12, Bz12) := by kernel_rfl
theorem Bt12 : Bck (lp (bk (sr (sl (sr (sr (sr (sr (sr (Bcode)))))))))) 7 [2, 8, 29, 30, 31] [0, 1, 14243] [3, 7, 11, 27, 746, 739, 741, 745] Bp12 Bz12 = some (Bp13, Bz13) := by kernel_rfl
theorem Bt13 : Bck (lp (bk (sr (sl (sr (sr (sr (sr (sr (Bcode)))))))))) 8 [2, 8, 29, 30, 31] [0, 1, 16227] [3, 7, 11, 27, 829, 820, 823, 828] Bp13 Bz13 = some (Bp14, Bz14) := by kernel_rfl
theorem Bt14 : Bck (lp (bk (sr (sl (sr (sr (sr (sr (sr (Bcode)))))))))) 6 [2, 8, 29, 30, 31] [0, 1, 17925] [3, 7, 11, 27, 905, 891, 894, 904] Bp14 Bz14 = some (Bp15, Bz15) := by kernel_rfl
theorem Bt15 : Bck (lp (bk (sr (sl (sr (sr (sr (sr (sr (Bcode)))))))))) 7 [2, 8, 29, 30, 31] [0, 1, 19927] [3, 7, 11, 27, 975, 970, 973, 974] Bp15 Bz15 = some (Bp16, Bz16) := by kernel_rfl
theorem Bt16 : Bck (lp (bk (sr (sl (sr (sr (sr (sr (sr (Bcode)))))))))) 16 [2, 8, 29, 30, 31] [0, 1, 20787] [3, 7, 11, 27, 999, 1045, 992, 997, 998] Bp16 Bz16 = some (Bp17, Bz17) := by kernel_rfl
theorem Bt17 : Bck (lp (bk (sr (sl (sr (sr (sr (sr (sr (Bcode)))))))))) 33 [2, 8, 29, 30, 31] [0, 1, 20787] [3, 7, 11, 27, 999, 1071, 1099, 1084, 1105, 992, 997, 998] Bp17 Bz17 = some (Bp18, Bz18) := by kernel_rfl
theorem Bt18 : Bpc (bk (sr (sl (sr (sr (sr (sr (sr (Bcode))))))))) [2, 8] [0, 1, 20787] [3, 7, 11, 27, 999, 1071, 1099, 1084, 1110, 1117, 992, 997, 998] Bp18 Bz18 = some ((.exit 0), Bp19, Bz19) := by kernel_rfl
theorem Bt19 : Bpc (sr (sr (sr (sr (sr (sr (Bcode))))))) [2, 3, 4] [0] [3, 7, 11, 27, 999, 1071, 1099, 1084, 1110, 1117] Bp19 Bz19 = some (.ret, Bp20, Bz20) := by kernel_rfl
end Go.DM.FM.TA
