/-
  ParseDeep at some classes of its inputs, by the kernel.
-/
import Derived.Test.YtnnmbmgdhlejiaaGreatDoorDkd
set_option maxRecDepth 100000
set_option linter.all false
namespace Go.Dk.Run
open Go Go.Dk
noncomputable section
theorem q0n1 : deepOk 0 1 = true := by kernel_rfl
theorem q0n3 : deepOk 0 3 = true := by kernel_rfl
theorem q0n5 : deepOk 0 5 = true := by kernel_rfl
theorem q0n7 : deepOk 0 7 = true := by kernel_rfl
theorem q0n9 : deepOk 0 9 = true := by kernel_rfl
theorem q0n11 : deepOk 0 11 = true := by kernel_rfl
theorem q0n13 : deepOk 0 13 = true := by kernel_rfl
theorem q0n15 : deepOk 0 15 = true := by kernel_rfl
theorem q0n17 : deepOk 0 17 = true := by kernel_rfl
theorem q0n19 : deepOk 0 19 = true := by kernel_rfl
theorem q0n21 : deepOk 0 21 = true := by kernel_rfl
theorem q0n23 : deepOk 0 23 = true := by kernel_rfl
theorem q0n25 : deepOk 0 25 = true := by kernel_rfl
theorem q0n27 : deepOk 0 27 = true := by kernel_rfl
theorem q0n29 : deepOk 0 29 = true := by kernel_rfl
theorem q0n31 : deepOk 0 31 = true := by kernel_rfl
theorem q0n33 : deepOk 0 33 = true := by kernel_rfl
theorem q0n35 : deepOk 0 35 = true := by kernel_rfl
theorem q0n37 : deepOk 0 37 = true := by kernel_rfl
theorem q0n39 : deepOk 0 39 = true := by kernel_rfl
end
end Go.Dk.Run
