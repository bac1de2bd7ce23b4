/-
  ParseChains at some classes of its inputs, by the kernel.
-/
import Derived.Test.YtnnmbmgdhlejiaaGreatDoorDks
set_option maxRecDepth 100000
set_option linter.all false
namespace Go.Dk.Run
open Go Go.Dk
noncomputable section
theorem r0x3n0 : chainOk 0 3 0 = true := by kernel_rfl
theorem r2x5n0 : chainOk 2 5 0 = true := by kernel_rfl
theorem r5x0n0 : chainOk 5 0 0 = true := by kernel_rfl
theorem r0x2n1 : chainOk 0 2 1 = true := by kernel_rfl
theorem r2x4n1 : chainOk 2 4 1 = true := by kernel_rfl
theorem r4x6n1 : chainOk 4 6 1 = true := by kernel_rfl
theorem r0x1n2 : chainOk 0 1 2 = true := by kernel_rfl
theorem r2x3n2 : chainOk 2 3 2 = true := by kernel_rfl
theorem r4x5n2 : chainOk 4 5 2 = true := by kernel_rfl
theorem r0x0n3 : chainOk 0 0 3 = true := by kernel_rfl
theorem r2x2n3 : chainOk 2 2 3 = true := by kernel_rfl
theorem r4x4n3 : chainOk 4 4 3 = true := by kernel_rfl
theorem r6x6n3 : chainOk 6 6 3 = true := by kernel_rfl
theorem r2x1n4 : chainOk 2 1 4 = true := by kernel_rfl
theorem r4x3n4 : chainOk 4 3 4 = true := by kernel_rfl
theorem r6x5n4 : chainOk 6 5 4 = true := by kernel_rfl
theorem r2x0n5 : chainOk 2 0 5 = true := by kernel_rfl
theorem r4x2n5 : chainOk 4 2 5 = true := by kernel_rfl
theorem r6x4n5 : chainOk 6 4 5 = true := by kernel_rfl
theorem r1x6n6 : chainOk 1 6 6 = true := by kernel_rfl
theorem r4x1n6 : chainOk 4 1 6 = true := by kernel_rfl
theorem r6x3n6 : chainOk 6 3 6 = true := by kernel_rfl
theorem r1x5n7 : chainOk 1 5 7 = true := by kernel_rfl
theorem r4x0n7 : chainOk 4 0 7 = true := by kernel_rfl
theorem r6x2n7 : chainOk 6 2 7 = true := by kernel_rfl
end
end Go.Dk.Run
