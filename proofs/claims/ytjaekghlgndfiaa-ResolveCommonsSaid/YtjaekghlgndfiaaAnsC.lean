/- Resolve's answer at objects that have one common block each: the numbers of objects in this text. No condition. -/
import Derived.Test.YtjaekghlgndfiaaStT
namespace Go.DM.RC
open Go Go.Proofs
set_option maxRecDepth 1000000
theorem t3 (a s : Nat → Nat) : Answers 3 a s := by unfold Answers; kernel_rfl
theorem t9 (a s : Nat → Nat) : Answers 9 a s := by unfold Answers; kernel_rfl
theorem t15 (a s : Nat → Nat) : Answers 15 a s := by unfold Answers; kernel_rfl
theorem t21 (a s : Nat → Nat) : Answers 21 a s := by unfold Answers; kernel_rfl
theorem t27 (a s : Nat → Nat) : Answers 27 a s := by unfold Answers; kernel_rfl
theorem t33 (a s : Nat → Nat) : Answers 33 a s := by unfold Answers; kernel_rfl
theorem t39 (a s : Nat → Nat) : Answers 39 a s := by unfold Answers; kernel_rfl
theorem t45 (a s : Nat → Nat) : Answers 45 a s := by unfold Answers; kernel_rfl
theorem t51 (a s : Nat → Nat) : Answers 51 a s := by unfold Answers; kernel_rfl
theorem t57 (a s : Nat → Nat) : Answers 57 a s := by unfold Answers; kernel_rfl
end Go.DM.RC
