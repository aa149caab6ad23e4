/- Pieces of a closed run: each is checked by reckoning. No condition. -/
import Derived.Test.YthcnipopdbgpdaaGreatDoorDataTA
namespace Go.DM.FM.TA
open Go Go.Proofs
set_option maxRecDepth 1000000
theorem Bt0 : Bpc (sl (Bcode)) [0, 2] [0] [] (setArgs 0 Bargs ff0) Bs0 = some (.normal, Bp1, Bz1) := by kernel_rfl
theorem Bt1 : Bpc (sl (sr (Bcode))) [2, 5, 6, 7] [0] [] Bp1 Bz1 = some (.normal, Bp2, Bz2) := by kernel_rfl
theorem Bt2 : Bpc (sl (sr (sr (Bcode)))) [2, 5] [0] [] Bp2 Bz2 = some (.normal, Bp3, Bz3) := by kernel_rfl
theorem Bt3 : Bpc (sl (sr (sr (sr (Bcode))))) [2, 5] [0] [] Bp3 Bz3 = some (.normal, Bp4, Bz4) := by kernel_rfl
theorem Bt4 : Bpc (sl (sr (sr (sr (sr (Bcode)))))) [2, 5, 8] [0, 1] [] Bp4 Bz4 = some (.normal, Bp5, Bz5) := by kernel_rfl
theorem Bt5 : Bpc (sl (sl (sr (sr (sr (sr (sr (Bcode)))))))) [2, 8, 29, 30, 31] [0, 1] [] Bp5 Bz5 = some (.normal, Bp6, Bz6) := by kernel_rfl
theorem Bt6 : Bck (lp (bk (sr (sl (sr (sr (sr (sr (sr (Bcode)))))))))) 34 [2, 8, 29, 30, 31] [0, 1, 1938] [3, 7, 11, 27, 105, 96, 100, 104] Bp6 Bz6 = some (Bp7, Bz7) := by kernel_rfl
theorem Bt7 : Bck (lp (bk (sr (sl (sr (sr (sr (sr (sr (Bcode)))))))))) 8 [2, 8, 29, 30, 31] [0, 1, 3942] [3, 7, 11, 27, 221, 211, 216, 220] Bp7 Bz7 = some (Bp8, Bz8) := by kernel_rfl
theorem Bt8 : Bck (lp (bk (sr (sl (sr (sr (sr (sr (sr (Bcode)))))))))) 6 [2, 8, 29, 30, 31] [0, 1, 5782] [3, 7, 11, 27, 353, 314, 319, 352] Bp8 Bz8 = some (Bp9, Bz9) := by kernel_rfl
theorem Bt9 : Bck (lp (bk (sr (sl (sr (sr (sr (sr (sr (Bcode)))))))))) 6 [2, 8, 29, 30, 31] [0, 1, 8188] [3, 7, 11, 27, 459, 448, 453, 458] Bp9 Bz9 = some (Bp10, Bz10) := by kernel_rfl
end Go.DM.FM.TA
