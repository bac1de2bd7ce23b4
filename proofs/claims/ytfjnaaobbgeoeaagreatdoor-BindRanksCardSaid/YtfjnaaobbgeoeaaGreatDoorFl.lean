/-
  BindRanks at some classes of its inputs, by the kernel.
-/
import Derived.Test.YtfjnaaobbgeoeaaGreatDoorEh
set_option maxRecDepth 100000
set_option linter.all false
namespace Go.Dk.Run
open Go Go.Dk
noncomputable section
theorem rk0023 : rankOk 0 0 2 3 = true := by kernel_rfl
theorem rk0123 : rankOk 0 1 2 3 = true := by kernel_rfl
theorem rk0223 : rankOk 0 2 2 3 = true := by kernel_rfl
theorem rk0323 : rankOk 0 3 2 3 = true := by kernel_rfl
theorem rk1023 : rankOk 1 0 2 3 = true := by kernel_rfl
theorem rk1123 : rankOk 1 1 2 3 = true := by kernel_rfl
theorem rk1223 : rankOk 1 2 2 3 = true := by kernel_rfl
theorem rk1323 : rankOk 1 3 2 3 = true := by kernel_rfl
theorem rk2023 : rankOk 2 0 2 3 = true := by kernel_rfl
theorem rk2123 : rankOk 2 1 2 3 = true := by kernel_rfl
theorem rk2223 : rankOk 2 2 2 3 = true := by kernel_rfl
theorem rk2323 : rankOk 2 3 2 3 = true := by kernel_rfl
theorem rk3023 : rankOk 3 0 2 3 = true := by kernel_rfl
theorem rk3123 : rankOk 3 1 2 3 = true := by kernel_rfl
theorem rk3223 : rankOk 3 2 2 3 = true := by kernel_rfl
theorem rk3323 : rankOk 3 3 2 3 = true := by kernel_rfl
end
end Go.Dk.Run
