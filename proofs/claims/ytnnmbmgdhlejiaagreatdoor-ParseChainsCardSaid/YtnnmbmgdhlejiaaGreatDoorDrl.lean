/-
  ParseChains at some classes of its inputs, by the kernel.
-/
import Derived.Test.YtnnmbmgdhlejiaaGreatDoorDks
set_option maxRecDepth 100000
set_option linter.all false
namespace Go.Dk.Run
open Go Go.Dk
noncomputable section
theorem r1x4n0 : chainOk 1 4 0 = true := by kernel_rfl
theorem r3x6n0 : chainOk 3 6 0 = true := by kernel_rfl
theorem r6x1n0 : chainOk 6 1 0 = true := by kernel_rfl
theorem r1x3n1 : chainOk 1 3 1 = true := by kernel_rfl
theorem r3x5n1 : chainOk 3 5 1 = true := by kernel_rfl
theorem r6x0n1 : chainOk 6 0 1 = true := by kernel_rfl
theorem r1x2n2 : chainOk 1 2 2 = true := by kernel_rfl
theorem r3x4n2 : chainOk 3 4 2 = true := by kernel_rfl
theorem r5x6n2 : chainOk 5 6 2 = true := by kernel_rfl
theorem r1x1n3 : chainOk 1 1 3 = true := by kernel_rfl
theorem r3x3n3 : chainOk 3 3 3 = true := by kernel_rfl
theorem r5x5n3 : chainOk 5 5 3 = true := by kernel_rfl
theorem r1x0n4 : chainOk 1 0 4 = true := by kernel_rfl
theorem r3x2n4 : chainOk 3 2 4 = true := by kernel_rfl
theorem r5x4n4 : chainOk 5 4 4 = true := by kernel_rfl
theorem r0x6n5 : chainOk 0 6 5 = true := by kernel_rfl
theorem r3x1n5 : chainOk 3 1 5 = true := by kernel_rfl
theorem r5x3n5 : chainOk 5 3 5 = true := by kernel_rfl
theorem r0x5n6 : chainOk 0 5 6 = true := by kernel_rfl
theorem r3x0n6 : chainOk 3 0 6 = true := by kernel_rfl
theorem r5x2n6 : chainOk 5 2 6 = true := by kernel_rfl
theorem r0x4n7 : chainOk 0 4 7 = true := by kernel_rfl
theorem r2x6n7 : chainOk 2 6 7 = true := by kernel_rfl
theorem r5x1n7 : chainOk 5 1 7 = true := by kernel_rfl
end
end Go.Dk.Run
