/- Resolve's answer at objects that have one common block each: the numbers of objects in this text. No condition. -/
import Derived.Test.YtjaekghlgndfiaaStT
namespace Go.DM.RC
open Go Go.Proofs
set_option maxRecDepth 1000000
theorem t6 (a s : Nat → Nat) : Answers 6 a s := by unfold Answers; kernel_rfl
theorem t12 (a s : Nat → Nat) : Answers 12 a s := by unfold Answers; kernel_rfl
theorem t18 (a s : Nat → Nat) : Answers 18 a s := by unfold Answers; kernel_rfl
theorem t24 (a s : Nat → Nat) : Answers 24 a s := by unfold Answers; kernel_rfl
theorem t30 (a s : Nat → Nat) : Answers 30 a s := by unfold Answers; kernel_rfl
theorem t36 (a s : Nat → Nat) : Answers 36 a s := by unfold Answers; kernel_rfl
theorem t42 (a s : Nat → Nat) : Answers 42 a s := by unfold Answers; kernel_rfl
theorem t48 (a s : Nat → Nat) : Answers 48 a s := by unfold Answers; kernel_rfl
theorem t54 (a s : Nat → Nat) : Answers 54 a s := by unfold Answers; kernel_rfl
theorem t60 (a s : Nat → Nat) : Answers 60 a s := by unfold Answers; kernel_rfl
end Go.DM.RC
