/- Pieces of a closed run: each is checked by reckoning. No condition. -/
import Derived.Test.YthcnipopdbgpdaaGreatDoorDataN
namespace Go.DM.FM.CN
open Go Go.Proofs
open TX
set_option maxRecDepth 1000000
theorem E3t6 : ck cfg5 I0 1000 (comp cfg5 64 B2 B3 (lp (bk (sr (sl (sr (sr (sr (sr (A1)))))))))) 6 [1, 6, 31, 32, 33] ([200690, 201743] ++ Eb0k) [0, 511, 1] E3p6 E3z6 = some (E3p7, E3z7) := by kernel_rfl
theorem E3t7 : ck cfg5 I0 1000 (comp cfg5 64 B2 B3 (lp (bk (sr (sl (sr (sr (sr (sr (A1)))))))))) 6 [1, 6, 31, 32, 33] ([200690, 202202] ++ Eb0k) [0, 787, 1] E3p7 E3z7 = some (E3p8, E3z8) := by kernel_rfl
theorem E3t8 : ck cfg5 I0 1000 (comp cfg5 64 B2 B3 (lp (bk (sr (sl (sr (sr (sr (sr (A1)))))))))) 6 [1, 6, 31, 32, 33] ([200690, 202705] ++ Eb0k) [0, 1071, 1] E3p8 E3z8 = some (E3p9, E3z9) := by kernel_rfl
theorem E3t9 : ck cfg5 I0 1000 (comp cfg5 64 B2 B3 (lp (bk (sr (sl (sr (sr (sr (sr (A1)))))))))) 6 [1, 6, 31, 32, 33] ([200690, 203203] ++ Eb0k) [0, 1371, 1] E3p9 E3z9 = some (E3p10, E3z10) := by kernel_rfl
theorem E3t10 : ck cfg5 I0 1000 (comp cfg5 64 B2 B3 (lp (bk (sr (sl (sr (sr (sr (sr (A1)))))))))) 6 [1, 6, 31, 32, 33] ([200690, 203755] ++ Eb0k) [0, 1671, 1] E3p10 E3z10 = some (E3p11, E3z11) := by kernel_rfl
theorem E3t11 : ck cfg5 I0 1000 (comp cfg5 64 B2 B3 (lp (bk (sr (sl (sr (sr (sr (sr (A1)))))))))) 6 [1, 6, 31, 32, 33] ([200690, 204273] ++ Eb0k) [0, 1979, 1] E3p11 E3z11 = some (E3p12, E3z12) := by kernel_rfl
end Go.DM.FM.CN
