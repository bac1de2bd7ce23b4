/-
  ParseDeep at some classes of its inputs, by the kernel.
-/
import Derived.Test.YtnnmbmgdhlejiaaGreatDoorDkd
set_option maxRecDepth 100000
set_option linter.all false
namespace Go.Dk.Run
open Go Go.Dk
noncomputable section
theorem q0n0 : deepOk 0 0 = true := by kernel_rfl
theorem q0n2 : deepOk 0 2 = true := by kernel_rfl
theorem q0n4 : deepOk 0 4 = true := by kernel_rfl
theorem q0n6 : deepOk 0 6 = true := by kernel_rfl
theorem q0n8 : deepOk 0 8 = true := by kernel_rfl
theorem q0n10 : deepOk 0 10 = true := by kernel_rfl
theorem q0n12 : deepOk 0 12 = true := by kernel_rfl
theorem q0n14 : deepOk 0 14 = true := by kernel_rfl
theorem q0n16 : deepOk 0 16 = true := by kernel_rfl
theorem q0n18 : deepOk 0 18 = true := by kernel_rfl
theorem q0n20 : deepOk 0 20 = true := by kernel_rfl
theorem q0n22 : deepOk 0 22 = true := by kernel_rfl
theorem q0n24 : deepOk 0 24 = true := by kernel_rfl
theorem q0n26 : deepOk 0 26 = true := by kernel_rfl
theorem q0n28 : deepOk 0 28 = true := by kernel_rfl
theorem q0n30 : deepOk 0 30 = true := by kernel_rfl
theorem q0n32 : deepOk 0 32 = true := by kernel_rfl
theorem q0n34 : deepOk 0 34 = true := by kernel_rfl
theorem q0n36 : deepOk 0 36 = true := by kernel_rfl
theorem q0n38 : deepOk 0 38 = true := by kernel_rfl
end
end Go.Dk.Run
