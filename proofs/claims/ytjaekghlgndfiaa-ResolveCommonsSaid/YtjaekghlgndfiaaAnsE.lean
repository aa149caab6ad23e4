/- Resolve's answer at objects that have one common block each: the numbers of objects in this text. No condition. -/
import Derived.Test.YtjaekghlgndfiaaStT
namespace Go.DM.RC
open Go Go.Proofs
set_option maxRecDepth 1000000
theorem t5 (a s : Nat → Nat) : Answers 5 a s := by unfold Answers; kernel_rfl
theorem t11 (a s : Nat → Nat) : Answers 11 a s := by unfold Answers; kernel_rfl
theorem t17 (a s : Nat → Nat) : Answers 17 a s := by unfold Answers; kernel_rfl
theorem t23 (a s : Nat → Nat) : Answers 23 a s := by unfold Answers; kernel_rfl
theorem t29 (a s : Nat → Nat) : Answers 29 a s := by unfold Answers; kernel_rfl
theorem t35 (a s : Nat → Nat) : Answers 35 a s := by unfold Answers; kernel_rfl
theorem t41 (a s : Nat → Nat) : Answers 41 a s := by unfold Answers; kernel_rfl
theorem t47 (a s : Nat → Nat) : Answers 47 a s := by unfold Answers; kernel_rfl
theorem t53 (a s : Nat → Nat) : Answers 53 a s := by unfold Answers; kernel_rfl
theorem t59 (a s : Nat → Nat) : Answers 59 a s := by unfold Answers; kernel_rfl
end Go.DM.RC
