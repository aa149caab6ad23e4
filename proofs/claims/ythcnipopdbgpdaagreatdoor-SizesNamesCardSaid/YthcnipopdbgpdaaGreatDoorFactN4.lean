/- Pieces of a closed run: each is checked by reckoning. No condition. -/
import Derived.Test.YthcnipopdbgpdaaGreatDoorDataN
namespace Go.DM.FM.CN
open Go Go.Proofs
open TX
set_option maxRecDepth 1000000
theorem E3t18 : ck cfg5 I0 1000 (comp cfg5 64 B2 B3 (lp (bk (sr (sl (sr (sr (sr (sr (A1)))))))))) 9 [1, 6, 31, 32, 33] ([200690, 207444] ++ Eb0k) [0, 3956, 1] E3p18 E3z18 = some (E3p19, E3z19) := by kernel_rfl
theorem E3t19 : pc cfg5 I0 1000 (comp cfg5 64 B2 B3 (bk (sr (sl (sr (sr (sr (sr (A1))))))))) [6] ([200690, 207593] ++ Eb0k) [0, 4034, 1] E3p19 E3z19 = some ((.exit 0), E3p20, E3z20) := by kernel_rfl
theorem E3t20 : pc cfg5 I0 1000 (comp cfg5 64 B2 B3 (sr (sr (sr (sr (sr (A1))))))) [2, 3] ([200690, 207593] ++ Eb0k) [0, 4034, 1] E3p20 E3z20 = some (.ret, E3p21, E3z21) := by kernel_rfl
theorem E2t0 : pc cfg5 E2cF 1000 (comp cfg5 59 Ru Rv (Jy)) [0] [] [] (Au 0 P7 ff0) E2s0 = some (.ret, E2p1, E2z1) := by kernel_rfl
theorem E1t0 : pc cfg5 E1cF 1000 (comp cfg5 18 Uf Ug (Lk)) [0] [] [] (Au 0 E1args ff0) E1s0 = some (.ret, E1p1, E1z1) := by kernel_rfl
end Go.DM.FM.CN
