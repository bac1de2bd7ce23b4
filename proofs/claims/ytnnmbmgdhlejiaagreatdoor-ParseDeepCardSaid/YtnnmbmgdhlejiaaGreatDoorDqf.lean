/-
  ParseDeep at some classes of its inputs, by the kernel.
-/
import Derived.Test.YtnnmbmgdhlejiaaGreatDoorDkd
set_option maxRecDepth 100000
set_option linter.all false
namespace Go.Dk.Run
open Go Go.Dk
noncomputable section
theorem q5n0 : deepOk 5 0 = true := by kernel_rfl
theorem q5n2 : deepOk 5 2 = true := by kernel_rfl
theorem q5n4 : deepOk 5 4 = true := by kernel_rfl
theorem q5n6 : deepOk 5 6 = true := by kernel_rfl
theorem q5n8 : deepOk 5 8 = true := by kernel_rfl
theorem q5n10 : deepOk 5 10 = true := by kernel_rfl
theorem q5n12 : deepOk 5 12 = true := by kernel_rfl
theorem q5n14 : deepOk 5 14 = true := by kernel_rfl
theorem q5n16 : deepOk 5 16 = true := by kernel_rfl
theorem q5n18 : deepOk 5 18 = true := by kernel_rfl
theorem q5n20 : deepOk 5 20 = true := by kernel_rfl
theorem q5n22 : deepOk 5 22 = true := by kernel_rfl
theorem q5n24 : deepOk 5 24 = true := by kernel_rfl
theorem q5n26 : deepOk 5 26 = true := by kernel_rfl
theorem q5n28 : deepOk 5 28 = true := by kernel_rfl
theorem q5n30 : deepOk 5 30 = true := by kernel_rfl
theorem q5n32 : deepOk 5 32 = true := by kernel_rfl
theorem q5n34 : deepOk 5 34 = true := by kernel_rfl
theorem q5n36 : deepOk 5 36 = true := by kernel_rfl
theorem q5n38 : deepOk 5 38 = true := by kernel_rfl
end
end Go.Dk.Run
