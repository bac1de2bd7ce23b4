/-
  ParseDeep at some classes of its inputs, by the kernel.
-/
import Derived.Test.YtnnmbmgdhlejiaaGreatDoorDkd
set_option maxRecDepth 100000
set_option linter.all false
namespace Go.Dk.Run
open Go Go.Dk
noncomputable section
theorem q3n1 : deepOk 3 1 = true := by kernel_rfl
theorem q3n3 : deepOk 3 3 = true := by kernel_rfl
theorem q3n5 : deepOk 3 5 = true := by kernel_rfl
theorem q3n7 : deepOk 3 7 = true := by kernel_rfl
theorem q3n9 : deepOk 3 9 = true := by kernel_rfl
theorem q3n11 : deepOk 3 11 = true := by kernel_rfl
theorem q3n13 : deepOk 3 13 = true := by kernel_rfl
theorem q3n15 : deepOk 3 15 = true := by kernel_rfl
theorem q3n17 : deepOk 3 17 = true := by kernel_rfl
theorem q3n19 : deepOk 3 19 = true := by kernel_rfl
theorem q3n21 : deepOk 3 21 = true := by kernel_rfl
theorem q3n23 : deepOk 3 23 = true := by kernel_rfl
theorem q3n25 : deepOk 3 25 = true := by kernel_rfl
theorem q3n27 : deepOk 3 27 = true := by kernel_rfl
theorem q3n29 : deepOk 3 29 = true := by kernel_rfl
theorem q3n31 : deepOk 3 31 = true := by kernel_rfl
theorem q3n33 : deepOk 3 33 = true := by kernel_rfl
theorem q3n35 : deepOk 3 35 = true := by kernel_rfl
theorem q3n37 : deepOk 3 37 = true := by kernel_rfl
theorem q3n39 : deepOk 3 39 = true := by kernel_rfl
end
end Go.Dk.Run
