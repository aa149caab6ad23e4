/- Resolve's answer at objects that have one common block each: the numbers of objects in this text. No condition. -/
import Derived.Test.YtjaekghlgndfiaaStT
namespace Go.DM.RC
open Go Go.Proofs
set_option maxRecDepth 1000000
theorem t4 (a s : Nat → Nat) : Answers 4 a s := by unfold Answers; kernel_rfl
theorem t10 (a s : Nat → Nat) : Answers 10 a s := by unfold Answers; kernel_rfl
theorem t16 (a s : Nat → Nat) : Answers 16 a s := by unfold Answers; kernel_rfl
theorem t22 (a s : Nat → Nat) : Answers 22 a s := by unfold Answers; kernel_rfl
theorem t28 (a s : Nat → Nat) : Answers 28 a s := by unfold Answers; kernel_rfl
theorem t34 (a s : Nat → Nat) : Answers 34 a s := by unfold Answers; kernel_rfl
theorem t40 (a s : Nat → Nat) : Answers 40 a s := by unfold Answers; kernel_rfl
theorem t46 (a s : Nat → Nat) : Answers 46 a s := by unfold Answers; kernel_rfl
theorem t52 (a s : Nat → Nat) : Answers 52 a s := by unfold Answers; kernel_rfl
theorem t58 (a s : Nat → Nat) : Answers 58 a s := by unfold Answers; kernel_rfl
end Go.DM.RC
