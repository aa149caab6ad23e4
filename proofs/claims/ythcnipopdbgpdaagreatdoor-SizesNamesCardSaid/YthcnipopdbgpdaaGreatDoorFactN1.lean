/- Pieces of a closed run: each is checked by reckoning. No condition. -/
import Derived.Test.YthcnipopdbgpdaaGreatDoorDataN
namespace Go.DM.FM.CN
open Go Go.Proofs
open TX
set_option maxRecDepth 1000000
theorem E3t0 : pc cfg5 I0 1000 (comp cfg5 64 B2 B3 (sl (A1))) [1] [4, 5] [] (Au 0 P8 ff0) E3s0 = some (.normal, E3p1, E3z1) := by kernel_rfl
theorem E3t1 : pc cfg5 I0 1000 (comp cfg5 64 B2 B3 (sl (sr (A1)))) [1, 4, 5] Eb0k [] E3p1 E3z1 = some (.normal, E3p2, E3z2) := by kernel_rfl
theorem E3t2 : pc cfg5 I0 1000 (comp cfg5 64 B2 B3 (sl (sr (sr (A1))))) [1, 4] Eb0k [] E3p2 E3z2 = some (.normal, E3p3, E3z3) := by kernel_rfl
theorem E3t3 : pc cfg5 I0 1000 (comp cfg5 64 B2 B3 (sl (sr (sr (sr (A1)))))) [1, 6] ([200690] ++ Eb0k) [0, 1] E3p3 E3z3 = some (.normal, E3p4, E3z4) := by kernel_rfl
theorem E3t4 : pc cfg5 I0 1000 (comp cfg5 64 B2 B3 (sl (sl (sr (sr (sr (sr (A1)))))))) [1, 6, 31, 32, 33] ([200690] ++ Eb0k) [0, 1] E3p4 E3z4 = some (.normal, E3p5, E3z5) := by kernel_rfl
theorem E3t5 : ck cfg5 I0 1000 (comp cfg5 64 B2 B3 (lp (bk (sr (sl (sr (sr (sr (sr (A1)))))))))) 9 [1, 6, 31, 32, 33] ([200690, 201231] ++ Eb0k) [0, 211, 1] E3p5 E3z5 = some (E3p6, E3z6) := by kernel_rfl
end Go.DM.FM.CN
