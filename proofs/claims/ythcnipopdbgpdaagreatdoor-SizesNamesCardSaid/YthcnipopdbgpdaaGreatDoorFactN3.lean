/- Pieces of a closed run: each is checked by reckoning. No condition. -/
import Derived.Test.YthcnipopdbgpdaaGreatDoorDataN
namespace Go.DM.FM.CN
open Go Go.Proofs
open TX
set_option maxRecDepth 1000000
theorem E3t12 : ck cfg5 I0 1000 (comp cfg5 64 B2 B3 (lp (bk (sr (sl (sr (sr (sr (sr (A1)))))))))) 5 [1, 6, 31, 32, 33] ([200690, 204743] ++ Eb0k) [0, 2245, 1] E3p12 E3z12 = some (E3p13, E3z13) := by kernel_rfl
theorem E3t13 : ck cfg5 I0 1000 (comp cfg5 64 B2 B3 (lp (bk (sr (sl (sr (sr (sr (sr (A1)))))))))) 5 [1, 6, 31, 32, 33] ([200690, 205221] ++ Eb0k) [0, 2543, 1] E3p13 E3z13 = some (E3p14, E3z14) := by kernel_rfl
theorem E3t14 : ck cfg5 I0 1000 (comp cfg5 64 B2 B3 (lp (bk (sr (sl (sr (sr (sr (sr (A1)))))))))) 9 [1, 6, 31, 32, 33] ([200690, 205687] ++ Eb0k) [0, 2834, 1] E3p14 E3z14 = some (E3p15, E3z15) := by kernel_rfl
theorem E3t15 : ck cfg5 I0 1000 (comp cfg5 64 B2 B3 (lp (bk (sr (sl (sr (sr (sr (sr (A1)))))))))) 8 [1, 6, 31, 32, 33] ([200690, 206107] ++ Eb0k) [0, 3098, 1] E3p15 E3z15 = some (E3p16, E3z16) := by kernel_rfl
theorem E3t16 : ck cfg5 I0 1000 (comp cfg5 64 B2 B3 (lp (bk (sr (sl (sr (sr (sr (sr (A1)))))))))) 8 [1, 6, 31, 32, 33] ([200690, 206527] ++ Eb0k) [0, 3370, 1] E3p16 E3z16 = some (E3p17, E3z17) := by kernel_rfl
theorem E3t17 : ck cfg5 I0 1000 (comp cfg5 64 B2 B3 (lp (bk (sr (sl (sr (sr (sr (sr (A1)))))))))) 8 [1, 6, 31, 32, 33] ([200690, 206947] ++ Eb0k) [0, 3642, 1] E3p17 E3z17 = some (E3p18, E3z18) := by kernel_rfl
end Go.DM.FM.CN
