/-
  ParseChains at some classes of its inputs, by the kernel.
-/
import Derived.Test.YtnnmbmgdhlejiaaGreatDoorDks
set_option maxRecDepth 100000
set_option linter.all false
namespace Go.Dk.Run
open Go Go.Dk
noncomputable section
theorem r1x6n0 : chainOk 1 6 0 = true := by kernel_rfl
theorem r4x1n0 : chainOk 4 1 0 = true := by kernel_rfl
theorem r6x3n0 : chainOk 6 3 0 = true := by kernel_rfl
theorem r1x5n1 : chainOk 1 5 1 = true := by kernel_rfl
theorem r4x0n1 : chainOk 4 0 1 = true := by kernel_rfl
theorem r6x2n1 : chainOk 6 2 1 = true := by kernel_rfl
theorem r1x4n2 : chainOk 1 4 2 = true := by kernel_rfl
theorem r3x6n2 : chainOk 3 6 2 = true := by kernel_rfl
theorem r6x1n2 : chainOk 6 1 2 = true := by kernel_rfl
theorem r1x3n3 : chainOk 1 3 3 = true := by kernel_rfl
theorem r3x5n3 : chainOk 3 5 3 = true := by kernel_rfl
theorem r6x0n3 : chainOk 6 0 3 = true := by kernel_rfl
theorem r1x2n4 : chainOk 1 2 4 = true := by kernel_rfl
theorem r3x4n4 : chainOk 3 4 4 = true := by kernel_rfl
theorem r5x6n4 : chainOk 5 6 4 = true := by kernel_rfl
theorem r1x1n5 : chainOk 1 1 5 = true := by kernel_rfl
theorem r3x3n5 : chainOk 3 3 5 = true := by kernel_rfl
theorem r5x5n5 : chainOk 5 5 5 = true := by kernel_rfl
theorem r1x0n6 : chainOk 1 0 6 = true := by kernel_rfl
theorem r3x2n6 : chainOk 3 2 6 = true := by kernel_rfl
theorem r5x4n6 : chainOk 5 4 6 = true := by kernel_rfl
theorem r0x6n7 : chainOk 0 6 7 = true := by kernel_rfl
theorem r3x1n7 : chainOk 3 1 7 = true := by kernel_rfl
theorem r5x3n7 : chainOk 5 3 7 = true := by kernel_rfl
end
end Go.Dk.Run
