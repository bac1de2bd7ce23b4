/-
  ParseDeep at some classes of its inputs, by the kernel.
-/
import Derived.Test.YtnnmbmgdhlejiaaGreatDoorDkd
set_option maxRecDepth 100000
set_option linter.all false
namespace Go.Dk.Run
open Go Go.Dk
noncomputable section
theorem q2n0 : deepOk 2 0 = true := by kernel_rfl
theorem q2n2 : deepOk 2 2 = true := by kernel_rfl
theorem q2n4 : deepOk 2 4 = true := by kernel_rfl
theorem q2n6 : deepOk 2 6 = true := by kernel_rfl
theorem q2n8 : deepOk 2 8 = true := by kernel_rfl
theorem q2n10 : deepOk 2 10 = true := by kernel_rfl
theorem q2n12 : deepOk 2 12 = true := by kernel_rfl
theorem q2n14 : deepOk 2 14 = true := by kernel_rfl
theorem q2n16 : deepOk 2 16 = true := by kernel_rfl
theorem q2n18 : deepOk 2 18 = true := by kernel_rfl
theorem q2n20 : deepOk 2 20 = true := by kernel_rfl
theorem q2n22 : deepOk 2 22 = true := by kernel_rfl
theorem q2n24 : deepOk 2 24 = true := by kernel_rfl
theorem q2n26 : deepOk 2 26 = true := by kernel_rfl
theorem q2n28 : deepOk 2 28 = true := by kernel_rfl
theorem q2n30 : deepOk 2 30 = true := by kernel_rfl
theorem q2n32 : deepOk 2 32 = true := by kernel_rfl
theorem q2n34 : deepOk 2 34 = true := by kernel_rfl
theorem q2n36 : deepOk 2 36 = true := by kernel_rfl
theorem q2n38 : deepOk 2 38 = true := by kernel_rfl
end
end Go.Dk.Run
