/-
  ParseChains at some classes of its inputs, by the kernel.
-/
import Derived.Test.YtnnmbmgdhlejiaaGreatDoorDks
set_option maxRecDepth 100000
set_option linter.all false
namespace Go.Dk.Run
open Go Go.Dk
noncomputable section
theorem r0x2n0 : chainOk 0 2 0 = true := by kernel_rfl
theorem r2x4n0 : chainOk 2 4 0 = true := by kernel_rfl
theorem r4x6n0 : chainOk 4 6 0 = true := by kernel_rfl
theorem r0x1n1 : chainOk 0 1 1 = true := by kernel_rfl
theorem r2x3n1 : chainOk 2 3 1 = true := by kernel_rfl
theorem r4x5n1 : chainOk 4 5 1 = true := by kernel_rfl
theorem r0x0n2 : chainOk 0 0 2 = true := by kernel_rfl
theorem r2x2n2 : chainOk 2 2 2 = true := by kernel_rfl
theorem r4x4n2 : chainOk 4 4 2 = true := by kernel_rfl
theorem r6x6n2 : chainOk 6 6 2 = true := by kernel_rfl
theorem r2x1n3 : chainOk 2 1 3 = true := by kernel_rfl
theorem r4x3n3 : chainOk 4 3 3 = true := by kernel_rfl
theorem r6x5n3 : chainOk 6 5 3 = true := by kernel_rfl
theorem r2x0n4 : chainOk 2 0 4 = true := by kernel_rfl
theorem r4x2n4 : chainOk 4 2 4 = true := by kernel_rfl
theorem r6x4n4 : chainOk 6 4 4 = true := by kernel_rfl
theorem r1x6n5 : chainOk 1 6 5 = true := by kernel_rfl
theorem r4x1n5 : chainOk 4 1 5 = true := by kernel_rfl
theorem r6x3n5 : chainOk 6 3 5 = true := by kernel_rfl
theorem r1x5n6 : chainOk 1 5 6 = true := by kernel_rfl
theorem r4x0n6 : chainOk 4 0 6 = true := by kernel_rfl
theorem r6x2n6 : chainOk 6 2 6 = true := by kernel_rfl
theorem r1x4n7 : chainOk 1 4 7 = true := by kernel_rfl
theorem r3x6n7 : chainOk 3 6 7 = true := by kernel_rfl
theorem r6x1n7 : chainOk 6 1 7 = true := by kernel_rfl
end
end Go.Dk.Run
