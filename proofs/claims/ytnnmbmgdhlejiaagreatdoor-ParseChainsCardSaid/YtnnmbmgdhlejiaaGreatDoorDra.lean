/-
  ParseChains at some classes of its inputs, by the kernel.
-/
import Derived.Test.YtnnmbmgdhlejiaaGreatDoorDks
set_option maxRecDepth 100000
set_option linter.all false
namespace Go.Dk.Run
open Go Go.Dk
noncomputable section
theorem r0x0n0 : chainOk 0 0 0 = true := by kernel_rfl
theorem r2x2n0 : chainOk 2 2 0 = true := by kernel_rfl
theorem r4x4n0 : chainOk 4 4 0 = true := by kernel_rfl
theorem r6x6n0 : chainOk 6 6 0 = true := by kernel_rfl
theorem r2x1n1 : chainOk 2 1 1 = true := by kernel_rfl
theorem r4x3n1 : chainOk 4 3 1 = true := by kernel_rfl
theorem r6x5n1 : chainOk 6 5 1 = true := by kernel_rfl
theorem r2x0n2 : chainOk 2 0 2 = true := by kernel_rfl
theorem r4x2n2 : chainOk 4 2 2 = true := by kernel_rfl
theorem r6x4n2 : chainOk 6 4 2 = true := by kernel_rfl
theorem r1x6n3 : chainOk 1 6 3 = true := by kernel_rfl
theorem r4x1n3 : chainOk 4 1 3 = true := by kernel_rfl
theorem r6x3n3 : chainOk 6 3 3 = true := by kernel_rfl
theorem r1x5n4 : chainOk 1 5 4 = true := by kernel_rfl
theorem r4x0n4 : chainOk 4 0 4 = true := by kernel_rfl
theorem r6x2n4 : chainOk 6 2 4 = true := by kernel_rfl
theorem r1x4n5 : chainOk 1 4 5 = true := by kernel_rfl
theorem r3x6n5 : chainOk 3 6 5 = true := by kernel_rfl
theorem r6x1n5 : chainOk 6 1 5 = true := by kernel_rfl
theorem r1x3n6 : chainOk 1 3 6 = true := by kernel_rfl
theorem r3x5n6 : chainOk 3 5 6 = true := by kernel_rfl
theorem r6x0n6 : chainOk 6 0 6 = true := by kernel_rfl
theorem r1x2n7 : chainOk 1 2 7 = true := by kernel_rfl
theorem r3x4n7 : chainOk 3 4 7 = true := by kernel_rfl
theorem r5x6n7 : chainOk 5 6 7 = true := by kernel_rfl
end
end Go.Dk.Run
