/-
  ParseDeep at some classes of its inputs, by the kernel.
-/
import Derived.Test.YtnnmbmgdhlejiaaGreatDoorDkd
set_option maxRecDepth 100000
set_option linter.all false
namespace Go.Dk.Run
open Go Go.Dk
noncomputable section
theorem q3n0 : deepOk 3 0 = true := by kernel_rfl
theorem q3n2 : deepOk 3 2 = true := by kernel_rfl
theorem q3n4 : deepOk 3 4 = true := by kernel_rfl
theorem q3n6 : deepOk 3 6 = true := by kernel_rfl
theorem q3n8 : deepOk 3 8 = true := by kernel_rfl
theorem q3n10 : deepOk 3 10 = true := by kernel_rfl
theorem q3n12 : deepOk 3 12 = true := by kernel_rfl
theorem q3n14 : deepOk 3 14 = true := by kernel_rfl
theorem q3n16 : deepOk 3 16 = true := by kernel_rfl
theorem q3n18 : deepOk 3 18 = true := by kernel_rfl
theorem q3n20 : deepOk 3 20 = true := by kernel_rfl
theorem q3n22 : deepOk 3 22 = true := by kernel_rfl
theorem q3n24 : deepOk 3 24 = true := by kernel_rfl
theorem q3n26 : deepOk 3 26 = true := by kernel_rfl
theorem q3n28 : deepOk 3 28 = true := by kernel_rfl
theorem q3n30 : deepOk 3 30 = true := by kernel_rfl
theorem q3n32 : deepOk 3 32 = true := by kernel_rfl
theorem q3n34 : deepOk 3 34 = true := by kernel_rfl
theorem q3n36 : deepOk 3 36 = true := by kernel_rfl
theorem q3n38 : deepOk 3 38 = true := by kernel_rfl
end
end Go.Dk.Run
