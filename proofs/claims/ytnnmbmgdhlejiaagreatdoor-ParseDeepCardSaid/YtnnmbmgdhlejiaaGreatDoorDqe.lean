/-
  ParseDeep at some classes of its inputs, by the kernel.
-/
import Derived.Test.YtnnmbmgdhlejiaaGreatDoorDkd
set_option maxRecDepth 100000
set_option linter.all false
namespace Go.Dk.Run
open Go Go.Dk
noncomputable section
theorem q4n0 : deepOk 4 0 = true := by kernel_rfl
theorem q4n2 : deepOk 4 2 = true := by kernel_rfl
theorem q4n4 : deepOk 4 4 = true := by kernel_rfl
theorem q4n6 : deepOk 4 6 = true := by kernel_rfl
theorem q4n8 : deepOk 4 8 = true := by kernel_rfl
theorem q4n10 : deepOk 4 10 = true := by kernel_rfl
theorem q4n12 : deepOk 4 12 = true := by kernel_rfl
theorem q4n14 : deepOk 4 14 = true := by kernel_rfl
theorem q4n16 : deepOk 4 16 = true := by kernel_rfl
theorem q4n18 : deepOk 4 18 = true := by kernel_rfl
theorem q4n20 : deepOk 4 20 = true := by kernel_rfl
theorem q4n22 : deepOk 4 22 = true := by kernel_rfl
theorem q4n24 : deepOk 4 24 = true := by kernel_rfl
theorem q4n26 : deepOk 4 26 = true := by kernel_rfl
theorem q4n28 : deepOk 4 28 = true := by kernel_rfl
theorem q4n30 : deepOk 4 30 = true := by kernel_rfl
theorem q4n32 : deepOk 4 32 = true := by kernel_rfl
theorem q4n34 : deepOk 4 34 = true := by kernel_rfl
theorem q4n36 : deepOk 4 36 = true := by kernel_rfl
theorem q4n38 : deepOk 4 38 = true := by kernel_rfl
end
end Go.Dk.Run
