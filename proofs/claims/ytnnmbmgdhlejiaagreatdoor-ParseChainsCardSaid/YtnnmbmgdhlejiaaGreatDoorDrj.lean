/-
  ParseChains at some classes of its inputs, by the kernel.
-/
import Derived.Test.YtnnmbmgdhlejiaaGreatDoorDks
set_option maxRecDepth 100000
set_option linter.all false
namespace Go.Dk.Run
open Go Go.Dk
noncomputable section
theorem r1x2n0 : chainOk 1 2 0 = true := by kernel_rfl
theorem r3x4n0 : chainOk 3 4 0 = true := by kernel_rfl
theorem r5x6n0 : chainOk 5 6 0 = true := by kernel_rfl
theorem r1x1n1 : chainOk 1 1 1 = true := by kernel_rfl
theorem r3x3n1 : chainOk 3 3 1 = true := by kernel_rfl
theorem r5x5n1 : chainOk 5 5 1 = true := by kernel_rfl
theorem r1x0n2 : chainOk 1 0 2 = true := by kernel_rfl
theorem r3x2n2 : chainOk 3 2 2 = true := by kernel_rfl
theorem r5x4n2 : chainOk 5 4 2 = true := by kernel_rfl
theorem r0x6n3 : chainOk 0 6 3 = true := by kernel_rfl
theorem r3x1n3 : chainOk 3 1 3 = true := by kernel_rfl
theorem r5x3n3 : chainOk 5 3 3 = true := by kernel_rfl
theorem r0x5n4 : chainOk 0 5 4 = true := by kernel_rfl
theorem r3x0n4 : chainOk 3 0 4 = true := by kernel_rfl
theorem r5x2n4 : chainOk 5 2 4 = true := by kernel_rfl
theorem r0x4n5 : chainOk 0 4 5 = true := by kernel_rfl
theorem r2x6n5 : chainOk 2 6 5 = true := by kernel_rfl
theorem r5x1n5 : chainOk 5 1 5 = true := by kernel_rfl
theorem r0x3n6 : chainOk 0 3 6 = true := by kernel_rfl
theorem r2x5n6 : chainOk 2 5 6 = true := by kernel_rfl
theorem r5x0n6 : chainOk 5 0 6 = true := by kernel_rfl
theorem r0x2n7 : chainOk 0 2 7 = true := by kernel_rfl
theorem r2x4n7 : chainOk 2 4 7 = true := by kernel_rfl
theorem r4x6n7 : chainOk 4 6 7 = true := by kernel_rfl
end
end Go.Dk.Run
