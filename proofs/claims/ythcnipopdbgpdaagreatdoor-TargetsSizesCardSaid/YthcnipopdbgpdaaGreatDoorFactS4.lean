/- Pieces of a closed run: each is checked by reckoning. No condition. -/
import Derived.Test.YthcnipopdbgpdaaGreatDoorDataS
namespace Go.DM.FM.CS
open Go Go.Proofs
set_option maxRecDepth 1000000
theorem E1t24 : pc cfg5 As 1000 (comp cfg5 82 Ab Ac (sr (sr (sr (lp (bk (sr (sl (sr (sr (Aa))))))))))) [12, 13, 14] [] [] Za Zb = some (.normal, Zc, Zd) := by kernel_rfl
theorem E1t25 : pc cfg5 As 1000 (comp cfg5 82 Ab Ac (sl (lp (bk (sr (sl (sr (sr (Aa))))))))) [12, 13, 14, 15] [] [] Zc Zd = some (.normal, Ze, Zf) := by kernel_rfl
theorem E1t26 : pc cfg5 As 1000 (comp cfg5 82 Ab Ac (sl (sr (lp (bk (sr (sl (sr (sr (Aa)))))))))) [12, 13, 14] [] [] Ze Zf = some (.normal, Zg, Zh) := by kernel_rfl
theorem E1t27 : pc cfg5 As 1000 (comp cfg5 82 Ab Ac (sl (bk (sl (sr (sr (lp (bk (sr (sl (sr (sr (Aa))))))))))))) [2, 12, 13, 14] [] [] Zg Zh = some (.normal, Zi, Zj) := by kernel_rfl
theorem E1t28 : pc cfg5 As 1000 (comp cfg5 82 Ab Ac (sl (sr (bk (sl (sr (sr (lp (bk (sr (sl (sr (sr (Aa)))))))))))))) [2, 3, 12, 13, 14] [147715] [] Zi Zj = some (.normal, Zl, Zm) := by kernel_rfl
theorem E1t29 : pc cfg5 As 1000 (comp cfg5 82 Ab Ac (sl (sr (sr (bk (sl (sr (sr (lp (bk (sr (sl (sr (sr (Aa))))))))))))))) [2, 3, 5, 6, 12, 13, 14] Kj [] Zl Zm = some (.normal, Zn, Zo) := by kernel_rfl
theorem E1t30 : pc cfg5 As 1000 (comp cfg5 82 Ab Ac (sl (sr (sr (sr (bk (sl (sr (sr (lp (bk (sr (sl (sr (sr (Aa)))))))))))))))) [2, 3, 5, 12, 13, 14] Kj [] Zn Zo = some (.normal, Zp, Zq) := by kernel_rfl
theorem E1t31 : pc cfg5 As 1000 (comp cfg5 82 Ab Ac (sl (sr (sr (sr (sr (bk (sl (sr (sr (lp (bk (sr (sl (sr (sr (Aa))))))))))))))))) [2, 3, 5, 12, 13, 14, 35, 36, 37] Kj [] Zp Zq = some (.normal, Zr, Zs) := by kernel_rfl
end Go.DM.FM.CS
