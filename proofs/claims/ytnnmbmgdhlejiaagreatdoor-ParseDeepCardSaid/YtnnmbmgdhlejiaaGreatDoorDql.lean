/-
  ParseDeep at some classes of its inputs, by the kernel.
-/
import Derived.Test.YtnnmbmgdhlejiaaGreatDoorDkd
set_option maxRecDepth 100000
set_option linter.all false
namespace Go.Dk.Run
open Go Go.Dk
noncomputable section
theorem q5n1 : deepOk 5 1 = true := by kernel_rfl
theorem q5n3 : deepOk 5 3 = true := by kernel_rfl
theorem q5n5 : deepOk 5 5 = true := by kernel_rfl
theorem q5n7 : deepOk 5 7 = true := by kernel_rfl
theorem q5n9 : deepOk 5 9 = true := by kernel_rfl
theorem q5n11 : deepOk 5 11 = true := by kernel_rfl
theorem q5n13 : deepOk 5 13 = true := by kernel_rfl
theorem q5n15 : deepOk 5 15 = true := by kernel_rfl
theorem q5n17 : deepOk 5 17 = true := by kernel_rfl
theorem q5n19 : deepOk 5 19 = true := by kernel_rfl
theorem q5n21 : deepOk 5 21 = true := by kernel_rfl
theorem q5n23 : deepOk 5 23 = true := by kernel_rfl
theorem q5n25 : deepOk 5 25 = true := by kernel_rfl
theorem q5n27 : deepOk 5 27 = true := by kernel_rfl
theorem q5n29 : deepOk 5 29 = true := by kernel_rfl
theorem q5n31 : deepOk 5 31 = true := by kernel_rfl
theorem q5n33 : deepOk 5 33 = true := by kernel_rfl
theorem q5n35 : deepOk 5 35 = true := by kernel_rfl
theorem q5n37 : deepOk 5 37 = true := by kernel_rfl
theorem q5n39 : deepOk 5 39 = true := by kernel_rfl
end
end Go.Dk.Run
