/-
  ParseDeep at some classes of its inputs, by the kernel.
-/
import Derived.Test.YtnnmbmgdhlejiaaGreatDoorDkd
set_option maxRecDepth 100000
set_option linter.all false
namespace Go.Dk.Run
open Go Go.Dk
noncomputable section
theorem q4n1 : deepOk 4 1 = true := by kernel_rfl
theorem q4n3 : deepOk 4 3 = true := by kernel_rfl
theorem q4n5 : deepOk 4 5 = true := by kernel_rfl
theorem q4n7 : deepOk 4 7 = true := by kernel_rfl
theorem q4n9 : deepOk 4 9 = true := by kernel_rfl
theorem q4n11 : deepOk 4 11 = true := by kernel_rfl
theorem q4n13 : deepOk 4 13 = true := by kernel_rfl
theorem q4n15 : deepOk 4 15 = true := by kernel_rfl
theorem q4n17 : deepOk 4 17 = true := by kernel_rfl
theorem q4n19 : deepOk 4 19 = true := by kernel_rfl
theorem q4n21 : deepOk 4 21 = true := by kernel_rfl
theorem q4n23 : deepOk 4 23 = true := by kernel_rfl
theorem q4n25 : deepOk 4 25 = true := by kernel_rfl
theorem q4n27 : deepOk 4 27 = true := by kernel_rfl
theorem q4n29 : deepOk 4 29 = true := by kernel_rfl
theorem q4n31 : deepOk 4 31 = true := by kernel_rfl
theorem q4n33 : deepOk 4 33 = true := by kernel_rfl
theorem q4n35 : deepOk 4 35 = true := by kernel_rfl
theorem q4n37 : deepOk 4 37 = true := by kernel_rfl
theorem q4n39 : deepOk 4 39 = true := by kernel_rfl
end
end Go.Dk.Run
