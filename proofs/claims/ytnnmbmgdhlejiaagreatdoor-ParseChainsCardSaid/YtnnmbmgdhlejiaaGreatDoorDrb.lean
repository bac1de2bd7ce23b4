/-
  ParseChains at some classes of its inputs, by the kernel.
-/
import Derived.Test.YtnnmbmgdhlejiaaGreatDoorDks
set_option maxRecDepth 100000
set_option linter.all false
namespace Go.Dk.Run
open Go Go.Dk
noncomputable section
theorem r0x1n0 : chainOk 0 1 0 = true := by kernel_rfl
theorem r2x3n0 : chainOk 2 3 0 = true := by kernel_rfl
theorem r4x5n0 : chainOk 4 5 0 = true := by kernel_rfl
theorem r0x0n1 : chainOk 0 0 1 = true := by kernel_rfl
theorem r2x2n1 : chainOk 2 2 1 = true := by kernel_rfl
theorem r4x4n1 : chainOk 4 4 1 = true := by kernel_rfl
theorem r6x6n1 : chainOk 6 6 1 = true := by kernel_rfl
theorem r2x1n2 : chainOk 2 1 2 = true := by kernel_rfl
theorem r4x3n2 : chainOk 4 3 2 = true := by kernel_rfl
theorem r6x5n2 : chainOk 6 5 2 = true := by kernel_rfl
theorem r2x0n3 : chainOk 2 0 3 = true := by kernel_rfl
theorem r4x2n3 : chainOk 4 2 3 = true := by kernel_rfl
theorem r6x4n3 : chainOk 6 4 3 = true := by kernel_rfl
theorem r1x6n4 : chainOk 1 6 4 = true := by kernel_rfl
theorem r4x1n4 : chainOk 4 1 4 = true := by kernel_rfl
theorem r6x3n4 : chainOk 6 3 4 = true := by kernel_rfl
theorem r1x5n5 : chainOk 1 5 5 = true := by kernel_rfl
theorem r4x0n5 : chainOk 4 0 5 = true := by kernel_rfl
theorem r6x2n5 : chainOk 6 2 5 = true := by kernel_rfl
theorem r1x4n6 : chainOk 1 4 6 = true := by kernel_rfl
theorem r3x6n6 : chainOk 3 6 6 = true := by kernel_rfl
theorem r6x1n6 : chainOk 6 1 6 = true := by kernel_rfl
theorem r1x3n7 : chainOk 1 3 7 = true := by kernel_rfl
theorem r3x5n7 : chainOk 3 5 7 = true := by kernel_rfl
theorem r6x0n7 : chainOk 6 0 7 = true := by kernel_rfl
end
end Go.Dk.Run
