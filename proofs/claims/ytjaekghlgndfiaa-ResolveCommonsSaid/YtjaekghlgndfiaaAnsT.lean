/- Resolve's answer at objects that have one common block each, up to 60 objects. No condition. -/
import Derived.Test.YtjaekghlgndfiaaAnsA
import Derived.Test.YtjaekghlgndfiaaAnsB
import Derived.Test.YtjaekghlgndfiaaAnsC
import Derived.Test.YtjaekghlgndfiaaAnsD
import Derived.Test.YtjaekghlgndfiaaAnsE
import Derived.Test.YtjaekghlgndfiaaAnsF
namespace Go.DM.RC
open Go Go.Proofs
theorem answers (n : Nat) (h1 : 1 ≤ n) (h2 : n ≤ 60) (a s : Nat → Nat) : Answers n a s :=
  match n, h1, h2 with
  | 0, h, _ => by omega
  | 1, _, _ => t1 a s
  | 2, _, _ => t2 a s
  | 3, _, _ => t3 a s
  | 4, _, _ => t4 a s
  | 5, _, _ => t5 a s
  | 6, _, _ => t6 a s
  | 7, _, _ => t7 a s
  | 8, _, _ => t8 a s
  | 9, _, _ => t9 a s
  | 10, _, _ => t10 a s
  | 11, _, _ => t11 a s
  | 12, _, _ => t12 a s
  | 13, _, _ => t13 a s
  | 14, _, _ => t14 a s
  | 15, _, _ => t15 a s
  | 16, _, _ => t16 a s
  | 17, _, _ => t17 a s
  | 18, _, _ => t18 a s
  | 19, _, _ => t19 a s
  | 20, _, _ => t20 a s
  | 21, _, _ => t21 a s
  | 22, _, _ => t22 a s
  | 23, _, _ => t23 a s
  | 24, _, _ => t24 a s
  | 25, _, _ => t25 a s
  | 26, _, _ => t26 a s
  | 27, _, _ => t27 a s
  | 28, _, _ => t28 a s
  | 29, _, _ => t29 a s
  | 30, _, _ => t30 a s
  | 31, _, _ => t31 a s
  | 32, _, _ => t32 a s
  | 33, _, _ => t33 a s
  | 34, _, _ => t34 a s
  | 35, _, _ => t35 a s
  | 36, _, _ => t36 a s
  | 37, _, _ => t37 a s
  | 38, _, _ => t38 a s
  | 39, _, _ => t39 a s
  | 40, _, _ => t40 a s
  | 41, _, _ => t41 a s
  | 42, _, _ => t42 a s
  | 43, _, _ => t43 a s
  | 44, _, _ => t44 a s
  | 45, _, _ => t45 a s
  | 46, _, _ => t46 a s
  | 47, _, _ => t47 a s
  | 48, _, _ => t48 a s
  | 49, _, _ => t49 a s
  | 50, _, _ => t50 a s
  | 51, _, _ => t51 a s
  | 52, _, _ => t52 a s
  | 53, _, _ => t53 a s
  | 54, _, _ => t54 a s
  | 55, _, _ => t55 a s
  | 56, _, _ => t56 a s
  | 57, _, _ => t57 a s
  | 58, _, _ => t58 a s
  | 59, _, _ => t59 a s
  | 60, _, _ => t60 a s
  | m + 61, _, h => by omega
end Go.DM.RC
