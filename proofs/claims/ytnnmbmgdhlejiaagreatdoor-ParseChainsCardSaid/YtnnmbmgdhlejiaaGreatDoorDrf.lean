/-
  ParseChains at some classes of its inputs, by the kernel.
-/
import Derived.Test.YtnnmbmgdhlejiaaGreatDoorDks
set_option maxRecDepth 100000
set_option linter.all false
namespace Go.Dk.Run
open Go Go.Dk
noncomputable section
theorem r0x5n0 : chainOk 0 5 0 = true := by kernel_rfl
theorem r3x0n0 : chainOk 3 0 0 = true := by kernel_rfl
theorem r5x2n0 : chainOk 5 2 0 = true := by kernel_rfl
theorem r0x4n1 : chainOk 0 4 1 = true := by kernel_rfl
theorem r2x6n1 : chainOk 2 6 1 = true := by kernel_rfl
theorem r5x1n1 : chainOk 5 1 1 = true := by kernel_rfl
theorem r0x3n2 : chainOk 0 3 2 = true := by kernel_rfl
theorem r2x5n2 : chainOk 2 5 2 = true := by kernel_rfl
theorem r5x0n2 : chainOk 5 0 2 = true := by kernel_rfl
theorem r0x2n3 : chainOk 0 2 3 = true := by kernel_rfl
theorem r2x4n3 : chainOk 2 4 3 = true := by kernel_rfl
theorem r4x6n3 : chainOk 4 6 3 = true := by kernel_rfl
theorem r0x1n4 : chainOk 0 1 4 = true := by kernel_rfl
theorem r2x3n4 : chainOk 2 3 4 = true := by kernel_rfl
theorem r4x5n4 : chainOk 4 5 4 = true := by kernel_rfl
theorem r0x0n5 : chainOk 0 0 5 = true := by kernel_rfl
theorem r2x2n5 : chainOk 2 2 5 = true := by kernel_rfl
theorem r4x4n5 : chainOk 4 4 5 = true := by kernel_rfl
theorem r6x6n5 : chainOk 6 6 5 = true := by kernel_rfl
theorem r2x1n6 : chainOk 2 1 6 = true := by kernel_rfl
theorem r4x3n6 : chainOk 4 3 6 = true := by kernel_rfl
theorem r6x5n6 : chainOk 6 5 6 = true := by kernel_rfl
theorem r2x0n7 : chainOk 2 0 7 = true := by kernel_rfl
theorem r4x2n7 : chainOk 4 2 7 = true := by kernel_rfl
theorem r6x4n7 : chainOk 6 4 7 = true := by kernel_rfl
end
end Go.Dk.Run
