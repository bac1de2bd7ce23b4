/-
  ParseDeep at some classes of its inputs, by the kernel.
-/
import Derived.Test.YtnnmbmgdhlejiaaGreatDoorDkd
set_option maxRecDepth 100000
set_option linter.all false
namespace Go.Dk.Run
open Go Go.Dk
noncomputable section
theorem q1n1 : deepOk 1 1 = true := by kernel_rfl
theorem q1n3 : deepOk 1 3 = true := by kernel_rfl
theorem q1n5 : deepOk 1 5 = true := by kernel_rfl
theorem q1n7 : deepOk 1 7 = true := by kernel_rfl
theorem q1n9 : deepOk 1 9 = true := by kernel_rfl
theorem q1n11 : deepOk 1 11 = true := by kernel_rfl
theorem q1n13 : deepOk 1 13 = true := by kernel_rfl
theorem q1n15 : deepOk 1 15 = true := by kernel_rfl
theorem q1n17 : deepOk 1 17 = true := by kernel_rfl
theorem q1n19 : deepOk 1 19 = true := by kernel_rfl
theorem q1n21 : deepOk 1 21 = true := by kernel_rfl
theorem q1n23 : deepOk 1 23 = true := by kernel_rfl
theorem q1n25 : deepOk 1 25 = true := by kernel_rfl
theorem q1n27 : deepOk 1 27 = true := by kernel_rfl
theorem q1n29 : deepOk 1 29 = true := by kernel_rfl
theorem q1n31 : deepOk 1 31 = true := by kernel_rfl
theorem q1n33 : deepOk 1 33 = true := by kernel_rfl
theorem q1n35 : deepOk 1 35 = true := by kernel_rfl
theorem q1n37 : deepOk 1 37 = true := by kernel_rfl
theorem q1n39 : deepOk 1 39 = true := by kernel_rfl
end
end Go.Dk.Run
