/-
  ParseDeep at some classes of its inputs, by the kernel.
-/
import Derived.Test.YtnnmbmgdhlejiaaGreatDoorDkd
set_option maxRecDepth 100000
set_option linter.all false
namespace Go.Dk.Run
open Go Go.Dk
noncomputable section
theorem q1n0 : deepOk 1 0 = true := by kernel_rfl
theorem q1n2 : deepOk 1 2 = true := by kernel_rfl
theorem q1n4 : deepOk 1 4 = true := by kernel_rfl
theorem q1n6 : deepOk 1 6 = true := by kernel_rfl
theorem q1n8 : deepOk 1 8 = true := by kernel_rfl
theorem q1n10 : deepOk 1 10 = true := by kernel_rfl
theorem q1n12 : deepOk 1 12 = true := by kernel_rfl
theorem q1n14 : deepOk 1 14 = true := by kernel_rfl
theorem q1n16 : deepOk 1 16 = true := by kernel_rfl
theorem q1n18 : deepOk 1 18 = true := by kernel_rfl
theorem q1n20 : deepOk 1 20 = true := by kernel_rfl
theorem q1n22 : deepOk 1 22 = true := by kernel_rfl
theorem q1n24 : deepOk 1 24 = true := by kernel_rfl
theorem q1n26 : deepOk 1 26 = true := by kernel_rfl
theorem q1n28 : deepOk 1 28 = true := by kernel_rfl
theorem q1n30 : deepOk 1 30 = true := by kernel_rfl
theorem q1n32 : deepOk 1 32 = true := by kernel_rfl
theorem q1n34 : deepOk 1 34 = true := by kernel_rfl
theorem q1n36 : deepOk 1 36 = true := by kernel_rfl
theorem q1n38 : deepOk 1 38 = true := by kernel_rfl
end
end Go.Dk.Run
