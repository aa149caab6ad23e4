/- Pieces of a closed run: each is checked by reckoning. No condition. -/
import Derived.Test.YthcnipopdbgpdaaGreatDoorDataS
namespace Go.DM.FM.CS
open Go Go.Proofs
set_option maxRecDepth 1000000
theorem E1t8 : pc cfg5 As 1000 (comp cfg5 82 Ab Ac (sl (sr (sr (sr (bk (sl (sr (sr (lp (bk (sr (sl (sr (sr (Aa)))))))))))))))) [2, 3, 5, 12, 13, 14] Hh [] E1p8 E1z8 = some (.normal, E1p9, E1z9) := by kernel_rfl
theorem E1t9 : pc cfg5 As 1000 (comp cfg5 82 Ab Ac (sl (sr (sr (sr (sr (bk (sl (sr (sr (lp (bk (sr (sl (sr (sr (Aa))))))))))))))))) [2, 3, 5, 12, 13, 14, 35, 36, 37] Hh [] E1p9 E1z9 = some (.normal, Yi, Yj) := by kernel_rfl
theorem E1t10 : ck cfg5 As 1000 (comp cfg5 82 Ab Ac (lp (bk (sr (sr (sr (sr (sr (bk (sl (sr (sr (lp (bk (sr (sl (sr (sr (Aa))))))))))))))))))) 6 [2, 3, 5, 12, 13, 14, 35, 36, 37] Hh [] Yi Yj = some (Yk, Yl) := by kernel_rfl
theorem E1t11 : ck cfg5 As 1000 (comp cfg5 82 Ab Ac (lp (bk (sr (sr (sr (sr (sr (bk (sl (sr (sr (lp (bk (sr (sl (sr (sr (Aa))))))))))))))))))) 6 [2, 3, 5, 12, 13, 14, 35, 36, 37] Hh [] Yk Yl = some (Ym, Yn) := by kernel_rfl
theorem E1t12 : ck cfg5 As 1000 (comp cfg5 82 Ab Ac (lp (bk (sr (sr (sr (sr (sr (bk (sl (sr (sr (lp (bk (sr (sl (sr (sr (Aa))))))))))))))))))) 6 [2, 3, 5, 12, 13, 14, 35, 36, 37] Hh [] Ym Yn = some (Yo, Yp) := by kernel_rfl
theorem E1t13 : ck cfg5 As 1000 (comp cfg5 82 Ab Ac (lp (bk (sr (sr (sr (sr (sr (bk (sl (sr (sr (lp (bk (sr (sl (sr (sr (Aa))))))))))))))))))) 6 [2, 3, 5, 12, 13, 14, 35, 36, 37] Hh [] Yo Yp = some (Yq, Yr) := by kernel_rfl
theorem E1t14 : ck cfg5 As 1000 (comp cfg5 82 Ab Ac (lp (bk (sr (sr (sr (sr (sr (bk (sl (sr (sr (lp (bk (sr (sl (sr (sr (Aa))))))))))))))))))) 7 [2, 3, 5, 12, 13, 14, 35, 36, 37] Hh [] Yq Yr = some (Ys, Yt) := by kernel_rfl
theorem E1t15 : ck cfg5 As 1000 (comp cfg5 82 Ab Ac (lp (bk (sr (sr (sr (sr (sr (bk (sl (sr (sr (lp (bk (sr (sl (sr (sr (Aa))))))))))))))))))) 7 [2, 3, 5, 12, 13, 14, 35, 36, 37] Hh [] Ys Yt = some (Yu, Yv) := by kernel_rfl
end Go.DM.FM.CS
