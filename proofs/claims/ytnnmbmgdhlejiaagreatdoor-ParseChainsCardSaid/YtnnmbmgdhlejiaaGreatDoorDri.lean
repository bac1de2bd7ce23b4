/-
  ParseChains at some classes of its inputs, by the kernel.
-/
import Derived.Test.YtnnmbmgdhlejiaaGreatDoorDks
set_option maxRecDepth 100000
set_option linter.all false
namespace Go.Dk.Run
open Go Go.Dk
noncomputable section
theorem r1x1n0 : chainOk 1 1 0 = true := by kernel_rfl
theorem r3x3n0 : chainOk 3 3 0 = true := by kernel_rfl
theorem r5x5n0 : chainOk 5 5 0 = true := by kernel_rfl
theorem r1x0n1 : chainOk 1 0 1 = true := by kernel_rfl
theorem r3x2n1 : chainOk 3 2 1 = true := by kernel_rfl
theorem r5x4n1 : chainOk 5 4 1 = true := by kernel_rfl
theorem r0x6n2 : chainOk 0 6 2 = true := by kernel_rfl
theorem r3x1n2 : chainOk 3 1 2 = true := by kernel_rfl
theorem r5x3n2 : chainOk 5 3 2 = true := by kernel_rfl
theorem r0x5n3 : chainOk 0 5 3 = true := by kernel_rfl
theorem r3x0n3 : chainOk 3 0 3 = true := by kernel_rfl
theorem r5x2n3 : chainOk 5 2 3 = true := by kernel_rfl
theorem r0x4n4 : chainOk 0 4 4 = true := by kernel_rfl
theorem r2x6n4 : chainOk 2 6 4 = true := by kernel_rfl
theorem r5x1n4 : chainOk 5 1 4 = true := by kernel_rfl
theorem r0x3n5 : chainOk 0 3 5 = true := by kernel_rfl
theorem r2x5n5 : chainOk 2 5 5 = true := by kernel_rfl
theorem r5x0n5 : chainOk 5 0 5 = true := by kernel_rfl
theorem r0x2n6 : chainOk 0 2 6 = true := by kernel_rfl
theorem r2x4n6 : chainOk 2 4 6 = true := by kernel_rfl
theorem r4x6n6 : chainOk 4 6 6 = true := by kernel_rfl
theorem r0x1n7 : chainOk 0 1 7 = true := by kernel_rfl
theorem r2x3n7 : chainOk 2 3 7 = true := by kernel_rfl
theorem r4x5n7 : chainOk 4 5 7 = true := by kernel_rfl
end
end Go.Dk.Run
