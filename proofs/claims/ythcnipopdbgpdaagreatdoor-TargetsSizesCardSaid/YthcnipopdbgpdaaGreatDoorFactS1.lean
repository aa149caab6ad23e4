/- Pieces of a closed run: each is checked by reckoning. No condition. -/
import Derived.Test.YthcnipopdbgpdaaGreatDoorDataS
namespace Go.DM.FM.CS
open Go Go.Proofs
set_option maxRecDepth 1000000
theorem E1t0 : pc cfg5 As 1000 (comp cfg5 82 Ab Ac (sl (Aa))) [] [] [] (setArgs 0 Nk ff0) W3 = some (.normal, E1p1, E1z1) := by kernel_rfl
theorem E1t1 : pc cfg5 As 1000 (comp cfg5 82 Ab Ac (sl (sr (Aa)))) [] [] [] E1p1 E1z1 = some (.normal, E1p2, E1z2) := by kernel_rfl
theorem E1t2 : pc cfg5 As 1000 (comp cfg5 82 Ab Ac (sl (sl (sr (sr (Aa)))))) [12, 13, 14] [] [] E1p2 E1z2 = some (.normal, E1p3, E1z3) := by kernel_rfl
theorem E1t3 : pc cfg5 As 1000 (comp cfg5 82 Ab Ac (sl (lp (bk (sr (sl (sr (sr (Aa))))))))) [12, 13, 14, 15] [] [] E1p3 E1z3 = some (.normal, E1p4, E1z4) := by kernel_rfl
theorem E1t4 : pc cfg5 As 1000 (comp cfg5 82 Ab Ac (sl (sr (lp (bk (sr (sl (sr (sr (Aa)))))))))) [12, 13, 14] [] [] E1p4 E1z4 = some (.normal, E1p5, E1z5) := by kernel_rfl
theorem E1t5 : pc cfg5 As 1000 (comp cfg5 82 Ab Ac (sl (bk (sl (sr (sr (lp (bk (sr (sl (sr (sr (Aa))))))))))))) [2, 12, 13, 14] [] [] E1p5 E1z5 = some (.normal, E1p6, E1z6) := by kernel_rfl
theorem E1t6 : pc cfg5 As 1000 (comp cfg5 82 Ab Ac (sl (sr (bk (sl (sr (sr (lp (bk (sr (sl (sr (sr (Aa)))))))))))))) [2, 3, 12, 13, 14] [5] [] E1p6 E1z6 = some (.normal, E1p7, E1z7) := by kernel_rfl
theorem E1t7 : pc cfg5 As 1000 (comp cfg5 82 Ab Ac (sl (sr (sr (bk (sl (sr (sr (lp (bk (sr (sl (sr (sr (Aa))))))))))))))) [2, 3, 5, 6, 12, 13, 14] Hh [] E1p7 E1z7 = some (.normal, E1p8, E1z8) := by kernel_rfl
end Go.DM.FM.CS
