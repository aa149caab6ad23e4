/- Pieces of a closed run: each is checked by reckoning. No condition. -/
import Derived.Test.YthcnipopdbgpdaaGreatDoorDataTX
namespace Go.DM.FM.TX
open Go Go.Proofs
set_option maxRecDepth 1000000
theorem Bt0 : Bpc (sl (Bcode)) [0, 2] [0] [] (setArgs 0 Bargs ff0) Bs0 = some (.normal, Bp1, Bz1) := by kernel_rfl
theorem Bt1 : Bpc (sl (sr (Bcode))) [2, 5, 6, 7] [0] [] Bp1 Bz1 = some (.normal, Bp2, Bz2) := by kernel_rfl
theorem Bt2 : Bpc (sl (sr (sr (Bcode)))) [2, 5] [0] [] Bp2 Bz2 = some (.normal, Bp3, Bz3) := by kernel_rfl
theorem Bt3 : Bpc (sl (sr (sr (sr (Bcode))))) [2, 5] [0] [] Bp3 Bz3 = some (.normal, Bp4, Bz4) := by kernel_rfl
theorem Bt4 : Bpc (sl (sr (sr (sr (sr (Bcode)))))) [2, 5, 8] [0, 1] [] Bp4 Bz4 = some (.normal, Bp5, Bz5) := by kernel_rfl
theorem Bt5 : Bpc (sl (sl (sr (sr (sr (sr (sr (Bcode)))))))) [2, 8, 29, 30, 31] [0, 1] [] Bp5 Bz5 = some (.normal, Bp6, Bz6) := by kernel_rfl
theorem Bt6 : Bck (lp (bk (sr (sl (sr (sr (sr (sr (sr (Bcode)))))))))) 32 [2, 8, 29, 30, 31] [0, 1, 1590] [2, 10, 14, 29, 116, 88, 96, 115] Bp6 Bz6 = some (Bp7, Bz7) := by kernel_rfl
theorem Bt7 : Bck (lp (bk (sr (sl (sr (sr (sr (sr (sr (Bcode)))))))))) 4 [2, 8, 29, 30, 31] [0, 1, 3580] [2, 10, 14, 29, 250, 217, 225, 249] Bp7 Bz7 = some (Bp8, Bz8) := by kernel_rfl
theorem Bt8 : Bck (lp (bk (sr (sl (sr (sr (sr (sr (sr (Bcode)))))))))) 6 [2, 8, 29, 30, 31] [0, 1, 5848] [2, 10, 14, 29, 410, 367, 376, 409] Bp8 Bz8 = some (Bp9, Bz9) := by kernel_rfl
end Go.DM.FM.TX
