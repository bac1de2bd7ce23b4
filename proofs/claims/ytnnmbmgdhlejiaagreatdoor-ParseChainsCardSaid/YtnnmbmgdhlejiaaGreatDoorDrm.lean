/-
  ParseChains at some classes of its inputs, by the kernel.
-/
import Derived.Test.YtnnmbmgdhlejiaaGreatDoorDks
set_option maxRecDepth 100000
set_option linter.all false
namespace Go.Dk.Run
open Go Go.Dk
noncomputable section
theorem r1x5n0 : chainOk 1 5 0 = true := by kernel_rfl
theorem r4x0n0 : chainOk 4 0 0 = true := by kernel_rfl
theorem r6x2n0 : chainOk 6 2 0 = true := by kernel_rfl
theorem r1x4n1 : chainOk 1 4 1 = true := by kernel_rfl
theorem r3x6n1 : chainOk 3 6 1 = true := by kernel_rfl
theorem r6x1n1 : chainOk 6 1 1 = true := by kernel_rfl
theorem r1x3n2 : chainOk 1 3 2 = true := by kernel_rfl
theorem r3x5n2 : chainOk 3 5 2 = true := by kernel_rfl
theorem r6x0n2 : chainOk 6 0 2 = true := by kernel_rfl
theorem r1x2n3 : chainOk 1 2 3 = true := by kernel_rfl
theorem r3x4n3 : chainOk 3 4 3 = true := by kernel_rfl
theorem r5x6n3 : chainOk 5 6 3 = true := by kernel_rfl
theorem r1x1n4 : chainOk 1 1 4 = true := by kernel_rfl
theorem r3x3n4 : chainOk 3 3 4 = true := by kernel_rfl
theorem r5x5n4 : chainOk 5 5 4 = true := by kernel_rfl
theorem r1x0n5 : chainOk 1 0 5 = true := by kernel_rfl
theorem r3x2n5 : chainOk 3 2 5 = true := by kernel_rfl
theorem r5x4n5 : chainOk 5 4 5 = true := by kernel_rfl
theorem r0x6n6 : chainOk 0 6 6 = true := by kernel_rfl
theorem r3x1n6 : chainOk 3 1 6 = true := by kernel_rfl
theorem r5x3n6 : chainOk 5 3 6 = true := by kernel_rfl
theorem r0x5n7 : chainOk 0 5 7 = true := by kernel_rfl
theorem r3x0n7 : chainOk 3 0 7 = true := by kernel_rfl
theorem r5x2n7 : chainOk 5 2 7 = true := by kernel_rfl
end
end Go.Dk.Run
