/-
  BindRanks at some classes of its inputs, by the kernel.
-/
import Derived.Test.YtfjnaaobbgeoeaaGreatDoorEh
set_option maxRecDepth 100000
set_option linter.all false
namespace Go.Dk.Run
open Go Go.Dk
noncomputable section
theorem rk0033 : rankOk 0 0 3 3 = true := by kernel_rfl
theorem rk0133 : rankOk 0 1 3 3 = true := by kernel_rfl
theorem rk0233 : rankOk 0 2 3 3 = true := by kernel_rfl
theorem rk0333 : rankOk 0 3 3 3 = true := by kernel_rfl
theorem rk1033 : rankOk 1 0 3 3 = true := by kernel_rfl
theorem rk1133 : rankOk 1 1 3 3 = true := by kernel_rfl
theorem rk1233 : rankOk 1 2 3 3 = true := by kernel_rfl
theorem rk1333 : rankOk 1 3 3 3 = true := by kernel_rfl
theorem rk2033 : rankOk 2 0 3 3 = true := by kernel_rfl
theorem rk2133 : rankOk 2 1 3 3 = true := by kernel_rfl
theorem rk2233 : rankOk 2 2 3 3 = true := by kernel_rfl
theorem rk2333 : rankOk 2 3 3 3 = true := by kernel_rfl
theorem rk3033 : rankOk 3 0 3 3 = true := by kernel_rfl
theorem rk3133 : rankOk 3 1 3 3 = true := by kernel_rfl
theorem rk3233 : rankOk 3 2 3 3 = true := by kernel_rfl
theorem rk3333 : rankOk 3 3 3 3 = true := by kernel_rfl
end
end Go.Dk.Run
