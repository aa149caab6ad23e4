/- Pieces of a closed run: each is checked by reckoning. No condition. -/
import Derived.Test.YtjcpllbpkdfakaaGreatDoorDataM
namespace Go.DM.FM
open Go Go.Proofs
set_option maxRecDepth 1000000
theorem E3t16 : ck cfg5 E3cF 1000 (comp cfg5 118 EF13live EF13fast (lp (bk (sr (sl (sr (sr (sr (sr (EF13code)))))))))) 9 [1, 6, 40, 41, 42] ([150863, 150965, 151048, 151149, 151251, 151350, 151433, 151534, 151637, 151740, 151843, 151946, 152049, 152152, 152255, 152358, 152443, 152544, 152592, 150797, 141837] ++ Eb3k) [0, 1, 2, 3, 3321, 3322] E3p16 E3z16 = some (E3p17, E3z17) := by kernel_rfl
theorem E3t17 : ck cfg5 E3cF 1000 (comp cfg5 118 EF13live EF13fast (lp (bk (sr (sl (sr (sr (sr (sr (EF13code)))))))))) 10 [1, 6, 40, 41, 42] Eb4k [0, 1, 2, 3, 3572, 3573] E3p17 E3z17 = some (E3p18, E3z18) := by kernel_rfl
theorem E3t18 : pc cfg5 E3cF 1000 (comp cfg5 118 EF13live EF13fast (bk (sr (sl (sr (sr (sr (sr (EF13code))))))))) [1, 6] ([153631, 153676, 153567, 141837] ++ Eb4k) [0, 1, 2, 3, 3598, 3599] E3p18 E3z18 = some ((.exit 0), E3p19, E3z19) := by kernel_rfl
theorem E3t19 : pc cfg5 E3cF 1000 (comp cfg5 118 EF13live EF13fast (sl (sl (sr (sr (sr (sr (sr (EF13code))))))))) [6, 93, 94, 95] ([153631, 153676, 153567, 141837] ++ Eb4k) [0, 1, 2, 3, 3598, 3599] E3p19 E3z19 = some (.normal, E3p20, E3z20) := by kernel_rfl
theorem E3t20 : ck cfg5 E3cF 1000 (comp cfg5 118 EF13live EF13fast (lp (bk (sr (sl (sr (sr (sr (sr (sr (EF13code))))))))))) 11 [6, 93, 94, 95] Eb5k [0, 1, 2, 3, 3598, 3599, 3758, 3622, 3635, 3648, 3656, 3665, 3676, 3689, 3702, 3717, 3727, 3735, 3742, 3750, 3757] E3p20 E3z20 = some (E3p21, E3z21) := by kernel_rfl
theorem E3t21 : pc cfg5 E3cF 1000 (comp cfg5 118 EF13live EF13fast (bk (sr (sl (sr (sr (sr (sr (sr (EF13code)))))))))) [6] Eb5k [0, 1, 2, 3, 3598, 3599, 3758, 3622, 3635, 3648, 3656, 3665, 3676, 3689, 3702, 3717, 3727, 3735, 3742, 3750, 3757] E3p21 E3z21 = some ((.exit 2), E3p22, E3z22) := by kernel_rfl
theorem E3t22 : pc cfg5 E3cF 1000 (comp cfg5 118 EF13live EF13fast (sr (sr (sr (sr (sr (sr (EF13code)))))))) [2, 3] Eb5k [0, 1, 2, 3, 3598, 3599, 3758, 3622, 3635, 3648, 3656, 3665, 3676, 3689, 3702, 3717, 3727, 3735, 3742, 3750, 3757] E3p22 E3z22 = some (.ret, E3p23, E3z23) := by kernel_rfl
theorem E2t0 : pc cfg5 E2cF 1000 (comp cfg5 86 EF6live EF6fast (EF6code)) [0] [] [] (setArgs 0 E2args ff0) E2s0 = some (.ret, E2p1, E2z1) := by kernel_rfl
theorem E1t0 : pc cfg5 E1cF 1000 (comp cfg5 6 EF4live EF4fast (EF4code)) [0] [] [] (setArgs 0 E1args ff0) E1s0 = some (.ret, E1p1, E1z1) := by kernel_rfl
end Go.DM.FM
