/- Resolve's answer at objects that have one common block each: the numbers of objects in this text. No condition. -/
import Derived.Test.YtjaekghlgndfiaaStT
namespace Go.DM.RC
open Go Go.Proofs
set_option maxRecDepth 1000000
theorem t2 (a s : Nat → Nat) : Answers 2 a s := by unfold Answers; kernel_rfl
theorem t8 (a s : Nat → Nat) : Answers 8 a s := by unfold Answers; kernel_rfl
theorem t14 (a s : Nat → Nat) : Answers 14 a s := by unfold Answers; kernel_rfl
theorem t20 (a s : Nat → Nat) : Answers 20 a s := by unfold Answers; kernel_rfl
theorem t26 (a s : Nat → Nat) : Answers 26 a s := by unfold Answers; kernel_rfl
theorem t32 (a s : Nat → Nat) : Answers 32 a s := by unfold Answers; kernel_rfl
theorem t38 (a s : Nat → Nat) : Answers 38 a s := by unfold Answers; kernel_rfl
theorem t44 (a s : Nat → Nat) : Answers 44 a s := by unfold Answers; kernel_rfl
theorem t50 (a s : Nat → Nat) : Answers 50 a s := by unfold Answers; kernel_rfl
theorem t56 (a s : Nat → Nat) : Answers 56 a s := by unfold Answers; kernel_rfl
end Go.DM.RC
