/- Resolve's answer at objects that have one common block each: the numbers of objects in this text. No condition. -/
import Derived.Test.YtjaekghlgndfiaaStT
namespace Go.DM.RC
open Go Go.Proofs
set_option maxRecDepth 1000000
theorem t1 (a s : Nat → Nat) : Answers 1 a s := by unfold Answers; kernel_rfl
theorem t7 (a s : Nat → Nat) : Answers 7 a s := by unfold Answers; kernel_rfl
theorem t13 (a s : Nat → Nat) : Answers 13 a s := by unfold Answers; kernel_rfl
theorem t19 (a s : Nat → Nat) : Answers 19 a s := by unfold Answers; kernel_rfl
theorem t25 (a s : Nat → Nat) : Answers 25 a s := by unfold Answers; kernel_rfl
theorem t31 (a s : Nat → Nat) : Answers 31 a s := by unfold Answers; kernel_rfl
theorem t37 (a s : Nat → Nat) : Answers 37 a s := by unfold Answers; kernel_rfl
theorem t43 (a s : Nat → Nat) : Answers 43 a s := by unfold Answers; kernel_rfl
theorem t49 (a s : Nat → Nat) : Answers 49 a s := by unfold Answers; kernel_rfl
theorem t55 (a s : Nat → Nat) : Answers 55 a s := by unfold Answers; kernel_rfl
end Go.DM.RC
