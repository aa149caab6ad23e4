/- Pieces of a closed run: each is checked by reckoning. No condition. -/
import Derived.Test.YthcnipopdbgpdaaGreatDoorDataS
namespace Go.DM.FM.CS
open Go Go.Proofs
set_option maxRecDepth 1000000
theorem E1t32 : ck cfg5 As 1000 (comp cfg5 82 Ab Ac (lp (bk (sr (sr (sr (sr (sr (bk (sl (sr (sr (lp (bk (sr (sl (sr (sr (Aa))))))))))))))))))) 7 [2, 3, 5, 12, 13, 14, 35, 36, 37] Kj [] Zr Zs = some (Zt, Zu) := by kernel_rfl
theorem E1t33 : ck cfg5 As 1000 (comp cfg5 82 Ab Ac (lp (bk (sr (sr (sr (sr (sr (bk (sl (sr (sr (lp (bk (sr (sl (sr (sr (Aa))))))))))))))))))) 7 [2, 3, 5, 12, 13, 14, 35, 36, 37] Kj [] Zt Zu = some (Zv, Zw) := by kernel_rfl
theorem E1t34 : ck cfg5 As 1000 (comp cfg5 82 Ab Ac (lp (bk (sr (sr (sr (sr (sr (bk (sl (sr (sr (lp (bk (sr (sl (sr (sr (Aa))))))))))))))))))) 7 [2, 3, 5, 12, 13, 14, 35, 36, 37] Kj [] Zv Zw = some (Zx, Zy) := by kernel_rfl
theorem E1t35 : ck cfg5 As 1000 (comp cfg5 82 Ab Ac (lp (bk (sr (sr (sr (sr (sr (bk (sl (sr (sr (lp (bk (sr (sl (sr (sr (Aa))))))))))))))))))) 7 [2, 3, 5, 12, 13, 14, 35, 36, 37] Kj [] Zx Zy = some (Zz, Z0) := by kernel_rfl
theorem E1t36 : ck cfg5 As 1000 (comp cfg5 82 Ab Ac (lp (bk (sr (sr (sr (sr (sr (bk (sl (sr (sr (lp (bk (sr (sl (sr (sr (Aa))))))))))))))))))) 7 [2, 3, 5, 12, 13, 14, 35, 36, 37] Kj [] Zz Z0 = some (Z1, Z2) := by kernel_rfl
theorem E1t37 : ck cfg5 As 1000 (comp cfg5 82 Ab Ac (lp (bk (sr (sr (sr (sr (sr (bk (sl (sr (sr (lp (bk (sr (sl (sr (sr (Aa))))))))))))))))))) 7 [2, 3, 5, 12, 13, 14, 35, 36, 37] Kj [] Z1 Z2 = some (Z3, Z4) := by kernel_rfl
theorem E1t38 : ck cfg5 As 1000 (comp cfg5 82 Ab Ac (lp (bk (sr (sr (sr (sr (sr (bk (sl (sr (sr (lp (bk (sr (sl (sr (sr (Aa))))))))))))))))))) 7 [2, 3, 5, 12, 13, 14, 35, 36, 37] Kj [] Z3 Z4 = some (Z5, Z6) := by kernel_rfl
theorem E1t39 : ck cfg5 As 1000 (comp cfg5 82 Ab Ac (lp (bk (sr (sr (sr (sr (sr (bk (sl (sr (sr (lp (bk (sr (sl (sr (sr (Aa))))))))))))))))))) 8 [2, 3, 5, 12, 13, 14, 35, 36, 37] Kj [] Z5 Z6 = some (Z7, Z8) := by kernel_rfl
end Go.DM.FM.CS
