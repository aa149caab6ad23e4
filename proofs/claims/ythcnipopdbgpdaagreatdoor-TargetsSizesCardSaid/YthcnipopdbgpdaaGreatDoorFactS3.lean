/- Pieces of a closed run: each is checked by reckoning. No condition. -/
import Derived.Test.YthcnipopdbgpdaaGreatDoorDataS
namespace Go.DM.FM.CS
open Go Go.Proofs
set_option maxRecDepth 1000000
theorem E1t16 : ck cfg5 As 1000 (comp cfg5 82 Ab Ac (lp (bk (sr (sr (sr (sr (sr (bk (sl (sr (sr (lp (bk (sr (sl (sr (sr (Aa))))))))))))))))))) 7 [2, 3, 5, 12, 13, 14, 35, 36, 37] Hh [] Yu Yv = some (Yw, Yx) := by kernel_rfl
theorem E1t17 : ck cfg5 As 1000 (comp cfg5 82 Ab Ac (lp (bk (sr (sr (sr (sr (sr (bk (sl (sr (sr (lp (bk (sr (sl (sr (sr (Aa))))))))))))))))))) 7 [2, 3, 5, 12, 13, 14, 35, 36, 37] Hh [] Yw Yx = some (Yy, Yz) := by kernel_rfl
theorem E1t18 : ck cfg5 As 1000 (comp cfg5 82 Ab Ac (lp (bk (sr (sr (sr (sr (sr (bk (sl (sr (sr (lp (bk (sr (sl (sr (sr (Aa))))))))))))))))))) 7 [2, 3, 5, 12, 13, 14, 35, 36, 37] Hh [] Yy Yz = some (Y0, Y1) := by kernel_rfl
theorem E1t19 : ck cfg5 As 1000 (comp cfg5 82 Ab Ac (lp (bk (sr (sr (sr (sr (sr (bk (sl (sr (sr (lp (bk (sr (sl (sr (sr (Aa))))))))))))))))))) 8 [2, 3, 5, 12, 13, 14, 35, 36, 37] Hh [] Y0 Y1 = some (Y2, Y3) := by kernel_rfl
theorem E1t20 : ck cfg5 As 1000 (comp cfg5 82 Ab Ac (lp (bk (sr (sr (sr (sr (sr (bk (sl (sr (sr (lp (bk (sr (sl (sr (sr (Aa))))))))))))))))))) 9 [2, 3, 5, 12, 13, 14, 35, 36, 37] Hh [] Y2 Y3 = some (Y4, Y5) := by kernel_rfl
theorem E1t21 : ck cfg5 As 1000 (comp cfg5 82 Ab Ac (lp (bk (sr (sr (sr (sr (sr (bk (sl (sr (sr (lp (bk (sr (sl (sr (sr (Aa))))))))))))))))))) 10 [2, 3, 5, 12, 13, 14, 35, 36, 37] Hh [] Y4 Y5 = some (Y6, Y7) := by kernel_rfl
theorem E1t22 : ck cfg5 As 1000 (comp cfg5 82 Ab Ac (lp (bk (sr (sr (sr (sr (sr (bk (sl (sr (sr (lp (bk (sr (sl (sr (sr (Aa))))))))))))))))))) 9 [2, 3, 5, 12, 13, 14, 35, 36, 37] Hh [] Y6 Y7 = some (Y8, Y9) := by kernel_rfl
theorem E1t23 : pc cfg5 As 1000 (comp cfg5 82 Ab Ac (bk (sr (sr (sr (sr (sr (bk (sl (sr (sr (lp (bk (sr (sl (sr (sr (Aa)))))))))))))))))) [12, 13, 14] [] [] Y8 Y9 = some ((.exit 2), Za, Zb) := by kernel_rfl
end Go.DM.FM.CS
