/-
  ParseChains at some classes of its inputs, by the kernel.
-/
import Derived.Test.YtnnmbmgdhlejiaaGreatDoorDks
set_option maxRecDepth 100000
set_option linter.all false
namespace Go.Dk.Run
open Go Go.Dk
noncomputable section
theorem r2x0n0 : chainOk 2 0 0 = true := by kernel_rfl
theorem r4x2n0 : chainOk 4 2 0 = true := by kernel_rfl
theorem r6x4n0 : chainOk 6 4 0 = true := by kernel_rfl
theorem r1x6n1 : chainOk 1 6 1 = true := by kernel_rfl
theorem r4x1n1 : chainOk 4 1 1 = true := by kernel_rfl
theorem r6x3n1 : chainOk 6 3 1 = true := by kernel_rfl
theorem r1x5n2 : chainOk 1 5 2 = true := by kernel_rfl
theorem r4x0n2 : chainOk 4 0 2 = true := by kernel_rfl
theorem r6x2n2 : chainOk 6 2 2 = true := by kernel_rfl
theorem r1x4n3 : chainOk 1 4 3 = true := by kernel_rfl
theorem r3x6n3 : chainOk 3 6 3 = true := by kernel_rfl
theorem r6x1n3 : chainOk 6 1 3 = true := by kernel_rfl
theorem r1x3n4 : chainOk 1 3 4 = true := by kernel_rfl
theorem r3x5n4 : chainOk 3 5 4 = true := by kernel_rfl
theorem r6x0n4 : chainOk 6 0 4 = true := by kernel_rfl
theorem r1x2n5 : chainOk 1 2 5 = true := by kernel_rfl
theorem r3x4n5 : chainOk 3 4 5 = true := by kernel_rfl
theorem r5x6n5 : chainOk 5 6 5 = true := by kernel_rfl
theorem r1x1n6 : chainOk 1 1 6 = true := by kernel_rfl
theorem r3x3n6 : chainOk 3 3 6 = true := by kernel_rfl
theorem r5x5n6 : chainOk 5 5 6 = true := by kernel_rfl
theorem r1x0n7 : chainOk 1 0 7 = true := by kernel_rfl
theorem r3x2n7 : chainOk 3 2 7 = true := by kernel_rfl
theorem r5x4n7 : chainOk 5 4 7 = true := by kernel_rfl
end
end Go.Dk.Run
