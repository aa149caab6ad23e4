/- Pieces of a closed run: each is checked by reckoning. No condition. -/
import Derived.Test.YthcnipopdbgpdaaGreatDoorDataS
namespace Go.DM.FM.CS
open Go Go.Proofs
set_option maxRecDepth 1000000
theorem E1t62 : ck cfg5 As 1000 (comp cfg5 82 Ab Ac (lp (bk (sr (sr (sr (sr (sr (bk (sl (sr (sr (lp (bk (sr (sl (sr (sr (Aa))))))))))))))))))) 8 [2, 3, 5, 12, 13, 14, 35, 36, 37] Gk [] Abg Abh = some (Abi, Abj) := by kernel_rfl
theorem E1t63 : ck cfg5 As 1000 (comp cfg5 82 Ab Ac (lp (bk (sr (sr (sr (sr (sr (bk (sl (sr (sr (lp (bk (sr (sl (sr (sr (Aa))))))))))))))))))) 8 [2, 3, 5, 12, 13, 14, 35, 36, 37] Gk [] Abi Abj = some (Abk, Abl) := by kernel_rfl
theorem E1t64 : ck cfg5 As 1000 (comp cfg5 82 Ab Ac (lp (bk (sr (sr (sr (sr (sr (bk (sl (sr (sr (lp (bk (sr (sl (sr (sr (Aa))))))))))))))))))) 7 [2, 3, 5, 12, 13, 14, 35, 36, 37] Gk [] Abk Abl = some (Abm, Abn) := by kernel_rfl
theorem E1t65 : pc cfg5 As 1000 (comp cfg5 82 Ab Ac (bk (sr (sr (sr (sr (sr (bk (sl (sr (sr (lp (bk (sr (sl (sr (sr (Aa)))))))))))))))))) [12, 13, 14] [] [] Abm Abn = some ((.exit 2), Abo, Abp) := by kernel_rfl
theorem E1t66 : pc cfg5 As 1000 (comp cfg5 82 Ab Ac (sr (sr (sr (lp (bk (sr (sl (sr (sr (Aa))))))))))) [12, 13, 14] [] [] Abo Abp = some (.normal, Abq, Abr) := by kernel_rfl
theorem E1t67 : pc cfg5 As 1000 (comp cfg5 82 Ab Ac (bk (sr (sl (sr (sr (Aa))))))) [] [] [] Abq Abr = some ((.exit 0), Abs, Abt) := by kernel_rfl
theorem E1t68 : pc cfg5 As 1000 (comp cfg5 82 Ab Ac (sr (sr (sr (Aa))))) [0] [] [] Abs Abt = some (.ret, Abu, Sk) := by kernel_rfl
end Go.DM.FM.CS
