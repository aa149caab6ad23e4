/- Pieces of a closed run: each is checked by reckoning. No condition. -/
import Derived.Test.YthcnipopdbgpdaaGreatDoorDataS
namespace Go.DM.FM.CS
open Go Go.Proofs
set_option maxRecDepth 1000000
theorem E1t40 : ck cfg5 As 1000 (comp cfg5 82 Ab Ac (lp (bk (sr (sr (sr (sr (sr (bk (sl (sr (sr (lp (bk (sr (sl (sr (sr (Aa))))))))))))))))))) 8 [2, 3, 5, 12, 13, 14, 35, 36, 37] Kj [] Z7 Z8 = some (Z9, Aaa) := by kernel_rfl
theorem E1t41 : pc cfg5 As 1000 (comp cfg5 82 Ab Ac (bk (sr (sr (sr (sr (sr (bk (sl (sr (sr (lp (bk (sr (sl (sr (sr (Aa)))))))))))))))))) [12, 13, 14] [] [] Z9 Aaa = some ((.exit 2), Aab, Aac) := by kernel_rfl
theorem E1t42 : pc cfg5 As 1000 (comp cfg5 82 Ab Ac (sr (sr (sr (lp (bk (sr (sl (sr (sr (Aa))))))))))) [12, 13, 14] [] [] Aab Aac = some (.normal, Aad, Aae) := by kernel_rfl
theorem E1t43 : pc cfg5 As 1000 (comp cfg5 82 Ab Ac (sl (lp (bk (sr (sl (sr (sr (Aa))))))))) [12, 13, 14, 15] [] [] Aad Aae = some (.normal, Aaf, Aag) := by kernel_rfl
theorem E1t44 : pc cfg5 As 1000 (comp cfg5 82 Ab Ac (sl (sr (lp (bk (sr (sl (sr (sr (Aa)))))))))) [12, 13, 14] [] [] Aaf Aag = some (.normal, Aah, Aai) := by kernel_rfl
theorem E1t45 : pc cfg5 As 1000 (comp cfg5 82 Ab Ac (sl (bk (sl (sr (sr (lp (bk (sr (sl (sr (sr (Aa))))))))))))) [2, 12, 13, 14] [] [] Aah Aai = some (.normal, Aaj, Aak) := by kernel_rfl
theorem E1t46 : pc cfg5 As 1000 (comp cfg5 82 Ab Ac (sl (sr (bk (sl (sr (sr (lp (bk (sr (sl (sr (sr (Aa)))))))))))))) [2, 3, 12, 13, 14] [229159] [] Aaj Aak = some (.normal, Aam, Aan) := by kernel_rfl
theorem E1t47 : pc cfg5 As 1000 (comp cfg5 82 Ab Ac (sl (sr (sr (bk (sl (sr (sr (lp (bk (sr (sl (sr (sr (Aa))))))))))))))) [2, 3, 5, 6, 12, 13, 14] Gk [] Aam Aan = some (.normal, Aao, Aap) := by kernel_rfl
end Go.DM.FM.CS
