/- Pieces of a closed run: each is checked by reckoning. No condition. -/
import Derived.Test.YthcnipopdbgpdaaGreatDoorDataTA
namespace Go.DM.FM.TA
open Go Go.Proofs
set_option maxRecDepth 1000000
theorem Ct8 : Cck (lp (bk (sr (sl (sr (sr (sr (sr (Ccode))))))))) 13 [1, 4, 5, 18, 19, 20] Cb1k [1550] Cp8 Cz8 = some (Cp9, Cz9) := by kernel_rfl
theorem Ct9 : Cck (lp (bk (sr (sl (sr (sr (sr (sr (Ccode))))))))) 14 [1, 4, 5, 18, 19, 20] ([8957, 9116, 9271, 9431, 9586, 9746, 9901, 10061, 10216, 10376, 10546, 10716, 10881, 11046] ++ Cb1k) [2012] Cp9 Cz9 = some (Cp10, Cz10) := by kernel_rfl
theorem Ct10 : Cpc (bk (sr (sl (sr (sr (sr (sr (Ccode)))))))) [1, 4, 5] Cb2k [2377] Cp10 Cz10 = some ((.exit 0), Cp11, Cz11) := by kernel_rfl
theorem Ct11 : Cpc (sl (sl (sr (sr (sr (sr (sr (Ccode)))))))) [1, 4, 5, 44, 45, 46] Cb2k [2377] Cp11 Cz11 = some (.normal, Cp12, Cz12) := by kernel_rfl
theorem Ct12 : Cck (lp (bk (sr (sl (sr (sr (sr (sr (sr (Ccode)))))))))) 45 [1, 4, 5, 44, 45, 46] Cb2k [2377] Cp12 Cz12 = some (Cp13, Cz13) := by kernel_rfl
theorem Ct13 : Cck (lp (bk (sr (sl (sr (sr (sr (sr (sr (Ccode)))))))))) 25 [1, 4, 5, 44, 45, 46] Cb2k [2377] Cp13 Cz13 = some (Cp14, Cz14) := by kernel_rfl
theorem Ct14 : Cpc (bk (sr (sl (sr (sr (sr (sr (sr (Ccode))))))))) [4] Cb2k [] Cp14 Cz14 = some ((.exit 2), Cp15, Cz15) := by kernel_rfl
theorem Ct15 : Cpc (sr (sr (sr (sr (sr (sr (Ccode))))))) [2, 3] [] [] Cp15 Cz15 = some (.ret, Cp16, Cz16) := by kernel_rfl
end Go.DM.FM.TA
