/-
  ParseDeep at some classes of its inputs, by the kernel.
-/
import Derived.Test.YtnnmbmgdhlejiaaGreatDoorDkd
set_option maxRecDepth 100000
set_option linter.all false
namespace Go.Dk.Run
open Go Go.Dk
noncomputable section
theorem q2n1 : deepOk 2 1 = true := by kernel_rfl
theorem q2n3 : deepOk 2 3 = true := by kernel_rfl
theorem q2n5 : deepOk 2 5 = true := by kernel_rfl
theorem q2n7 : deepOk 2 7 = true := by kernel_rfl
theorem q2n9 : deepOk 2 9 = true := by kernel_rfl
theorem q2n11 : deepOk 2 11 = true := by kernel_rfl
theorem q2n13 : deepOk 2 13 = true := by kernel_rfl
theorem q2n15 : deepOk 2 15 = true := by kernel_rfl
theorem q2n17 : deepOk 2 17 = true := by kernel_rfl
theorem q2n19 : deepOk 2 19 = true := by kernel_rfl
theorem q2n21 : deepOk 2 21 = true := by kernel_rfl
theorem q2n23 : deepOk 2 23 = true := by kernel_rfl
theorem q2n25 : deepOk 2 25 = true := by kernel_rfl
theorem q2n27 : deepOk 2 27 = true := by kernel_rfl
theorem q2n29 : deepOk 2 29 = true := by kernel_rfl
theorem q2n31 : deepOk 2 31 = true := by kernel_rfl
theorem q2n33 : deepOk 2 33 = true := by kernel_rfl
theorem q2n35 : deepOk 2 35 = true := by kernel_rfl
theorem q2n37 : deepOk 2 37 = true := by kernel_rfl
theorem q2n39 : deepOk 2 39 = true := by kernel_rfl
end
end Go.Dk.Run
