/- Pieces of a closed run: each is checked by reckoning. No condition. -/
import Derived.Test.YthcnipopdbgpdaaGreatDoorDataS
namespace Go.DM.FM.CS
open Go Go.Proofs
set_option maxRecDepth 1000000
theorem E1t48 : pc cfg5 As 1000 (comp cfg5 82 Ab Ac (sl (sr (sr (sr (bk (sl (sr (sr (lp (bk (sr (sl (sr (sr (Aa)))))))))))))))) [2, 3, 5, 12, 13, 14] Gk [] Aao Aap = some (.normal, Aaq, Aar) := by kernel_rfl
theorem E1t49 : pc cfg5 As 1000 (comp cfg5 82 Ab Ac (sl (sr (sr (sr (sr (bk (sl (sr (sr (lp (bk (sr (sl (sr (sr (Aa))))))))))))))))) [2, 3, 5, 12, 13, 14, 35, 36, 37] Gk [] Aaq Aar = some (.normal, Aas, Aat) := by kernel_rfl
theorem E1t50 : ck cfg5 As 1000 (comp cfg5 82 Ab Ac (lp (bk (sr (sr (sr (sr (sr (bk (sl (sr (sr (lp (bk (sr (sl (sr (sr (Aa))))))))))))))))))) 8 [2, 3, 5, 12, 13, 14, 35, 36, 37] Gk [] Aas Aat = some (Aau, Aav) := by kernel_rfl
theorem E1t51 : ck cfg5 As 1000 (comp cfg5 82 Ab Ac (lp (bk (sr (sr (sr (sr (sr (bk (sl (sr (sr (lp (bk (sr (sl (sr (sr (Aa))))))))))))))))))) 5 [2, 3, 5, 12, 13, 14, 35, 36, 37] Gk [] Aau Aav = some (Aaw, Aax) := by kernel_rfl
theorem E1t52 : ck cfg5 As 1000 (comp cfg5 82 Ab Ac (lp (bk (sr (sr (sr (sr (sr (bk (sl (sr (sr (lp (bk (sr (sl (sr (sr (Aa))))))))))))))))))) 6 [2, 3, 5, 12, 13, 14, 35, 36, 37] Gk [] Aaw Aax = some (Aay, Aaz) := by kernel_rfl
theorem E1t53 : ck cfg5 As 1000 (comp cfg5 82 Ab Ac (lp (bk (sr (sr (sr (sr (sr (bk (sl (sr (sr (lp (bk (sr (sl (sr (sr (Aa))))))))))))))))))) 6 [2, 3, 5, 12, 13, 14, 35, 36, 37] Gk [] Aay Aaz = some (Aa0, Aa1) := by kernel_rfl
theorem E1t54 : ck cfg5 As 1000 (comp cfg5 82 Ab Ac (lp (bk (sr (sr (sr (sr (sr (bk (sl (sr (sr (lp (bk (sr (sl (sr (sr (Aa))))))))))))))))))) 5 [2, 3, 5, 12, 13, 14, 35, 36, 37] Gk [] Aa0 Aa1 = some (Aa2, Aa3) := by kernel_rfl
end Go.DM.FM.CS
