/- Pieces of a closed run: each is checked by reckoning. No condition. -/
import Derived.Test.YthcnipopdbgpdaaGreatDoorDataS
namespace Go.DM.FM.CS
open Go Go.Proofs
set_option maxRecDepth 1000000
theorem E1t55 : ck cfg5 As 1000 (comp cfg5 82 Ab Ac (lp (bk (sr (sr (sr (sr (sr (bk (sl (sr (sr (lp (bk (sr (sl (sr (sr (Aa))))))))))))))))))) 5 [2, 3, 5, 12, 13, 14, 35, 36, 37] Gk [] Aa2 Aa3 = some (Aa4, Aa5) := by kernel_rfl
theorem E1t56 : ck cfg5 As 1000 (comp cfg5 82 Ab Ac (lp (bk (sr (sr (sr (sr (sr (bk (sl (sr (sr (lp (bk (sr (sl (sr (sr (Aa))))))))))))))))))) 5 [2, 3, 5, 12, 13, 14, 35, 36, 37] Gk [] Aa4 Aa5 = some (Aa6, Aa7) := by kernel_rfl
theorem E1t57 : ck cfg5 As 1000 (comp cfg5 82 Ab Ac (lp (bk (sr (sr (sr (sr (sr (bk (sl (sr (sr (lp (bk (sr (sl (sr (sr (Aa))))))))))))))))))) 5 [2, 3, 5, 12, 13, 14, 35, 36, 37] Gk [] Aa6 Aa7 = some (Aa8, Aa9) := by kernel_rfl
theorem E1t58 : ck cfg5 As 1000 (comp cfg5 82 Ab Ac (lp (bk (sr (sr (sr (sr (sr (bk (sl (sr (sr (lp (bk (sr (sl (sr (sr (Aa))))))))))))))))))) 5 [2, 3, 5, 12, 13, 14, 35, 36, 37] Gk [] Aa8 Aa9 = some (Aba, Abb) := by kernel_rfl
theorem E1t59 : ck cfg5 As 1000 (comp cfg5 82 Ab Ac (lp (bk (sr (sr (sr (sr (sr (bk (sl (sr (sr (lp (bk (sr (sl (sr (sr (Aa))))))))))))))))))) 5 [2, 3, 5, 12, 13, 14, 35, 36, 37] Gk [] Aba Abb = some (Abc, Abd) := by kernel_rfl
theorem E1t60 : ck cfg5 As 1000 (comp cfg5 82 Ab Ac (lp (bk (sr (sr (sr (sr (sr (bk (sl (sr (sr (lp (bk (sr (sl (sr (sr (Aa))))))))))))))))))) 8 [2, 3, 5, 12, 13, 14, 35, 36, 37] Gk [] Abc Abd = some (Abe, Abf) := by kernel_rfl
theorem E1t61 : ck cfg5 As 1000 (comp cfg5 82 Ab Ac (lp (bk (sr (sr (sr (sr (sr (bk (sl (sr (sr (lp (bk (sr (sl (sr (sr (Aa))))))))))))))))))) 7 [2, 3, 5, 12, 13, 14, 35, 36, 37] Gk [] Abe Abf = some (Abg, Abh) := by kernel_rfl
end Go.DM.FM.CS
