/- Pieces of a closed run: each is checked by reckoning. No condition. -/
import Derived.Test.YthcnipopdbgpdaaGreatDoorDataTR
namespace Go.DM.FM.TR
open Go Go.Proofs
set_option maxRecDepth 1000000
theorem Bt14 : Bck (lp (bk (sr (sl (sr (sr (sr (sr (sr (Bcode)))))))))) 6 [2, 8, 29, 30, 31] [0, 1, 17748] [1, 33, 63, 903, 889, 895, 902] Bp14 Bz14 = some (Bp15, Bz15) := by kernel_rfl
theorem Bt15 : Bck (lp (bk (sr (sl (sr (sr (sr (sr (sr (Bcode)))))))))) 6 [2, 8, 29, 30, 31] [0, 1, 19684] [1, 33, 63, 990, 976, 982, 989] Bp15 Bz15 = some (Bp16, Bz16) := by kernel_rfl
theorem Bt16 : Bck (lp (bk (sr (sl (sr (sr (sr (sr (sr (Bcode)))))))))) 7 [2, 8, 29, 30, 31] [0, 1, 21562] [1, 33, 63, 1056, 1048, 1054, 1055] Bp16 Bz16 = some (Bp17, Bz17) := by kernel_rfl
theorem Bt17 : Bck (lp (bk (sr (sl (sr (sr (sr (sr (sr (Bcode)))))))))) 5 [2, 8, 29, 30, 31] [0, 1, 23355] [1, 33, 63, 1130, 1116, 1123, 1129] Bp17 Bz17 = some (Bp18, Bz18) := by kernel_rfl
theorem Bt18 : Bck (lp (bk (sr (sl (sr (sr (sr (sr (sr (Bcode)))))))))) 6 [2, 8, 29, 30, 31] [0, 1, 25433] [1, 33, 63, 1197, 1184, 1192, 1196] Bp18 Bz18 = some (Bp19, Bz19) := by kernel_rfl
theorem Bt19 : Bck (lp (bk (sr (sl (sr (sr (sr (sr (sr (Bcode)))))))))) 5 [2, 8, 29, 30, 31] [0, 1, 27272] [1, 33, 63, 1260, 1250, 1255, 1259] Bp19 Bz19 = some (Bp20, Bz20) := by kernel_rfl
end Go.DM.FM.TR
