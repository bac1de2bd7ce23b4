/-
  BindRanks at some classes of its inputs, by the kernel.
-/
import Derived.Test.YtfjnaaobbgeoeaaGreatDoorEh
set_option maxRecDepth 100000
set_option linter.all false
namespace Go.Dk.Run
open Go Go.Dk
noncomputable section
theorem rk0002 : rankOk 0 0 0 2 = true := by kernel_rfl
theorem rk0102 : rankOk 0 1 0 2 = true := by kernel_rfl
theorem rk0202 : rankOk 0 2 0 2 = true := by kernel_rfl
theorem rk0302 : rankOk 0 3 0 2 = true := by kernel_rfl
theorem rk1002 : rankOk 1 0 0 2 = true := by kernel_rfl
theorem rk1102 : rankOk 1 1 0 2 = true := by kernel_rfl
theorem rk1202 : rankOk 1 2 0 2 = true := by kernel_rfl
theorem rk1302 : rankOk 1 3 0 2 = true := by kernel_rfl
theorem rk2002 : rankOk 2 0 0 2 = true := by kernel_rfl
theorem rk2102 : rankOk 2 1 0 2 = true := by kernel_rfl
theorem rk2202 : rankOk 2 2 0 2 = true := by kernel_rfl
theorem rk2302 : rankOk 2 3 0 2 = true := by kernel_rfl
theorem rk3002 : rankOk 3 0 0 2 = true := by kernel_rfl
theorem rk3102 : rankOk 3 1 0 2 = true := by kernel_rfl
theorem rk3202 : rankOk 3 2 0 2 = true := by kernel_rfl
theorem rk3302 : rankOk 3 3 0 2 = true := by kernel_rfl
end
end Go.Dk.Run
