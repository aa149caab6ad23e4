/- Pieces of a closed run: each is checked by reckoning. No condition. -/
import Derived.Test.YthcnipopdbgpdaaGreatDoorDataR
namespace Go.DM.FM.CR
open Go Go.Proofs
set_option maxRecDepth 1000000
theorem E1t0 : pc cfg5 E1cF 1000 (comp cfg5 47 EF3live EF3fast (EF3code)) [0] [] [] (setArgs 0 E1args ff0) E1s0 = some (.ret, E1p1, E1z1) := by kernel_rfl
end Go.DM.FM.CR
