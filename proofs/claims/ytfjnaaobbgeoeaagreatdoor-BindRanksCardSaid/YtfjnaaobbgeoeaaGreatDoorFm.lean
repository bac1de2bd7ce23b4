/-
  BindRanks at some classes of its inputs, by the kernel.
-/
import Derived.Test.YtfjnaaobbgeoeaaGreatDoorEh
set_option maxRecDepth 100000
set_option linter.all false
namespace Go.Dk.Run
open Go Go.Dk
noncomputable section
theorem rk0030 : rankOk 0 0 3 0 = true := by kernel_rfl
theorem rk0130 : rankOk 0 1 3 0 = true := by kernel_rfl
theorem rk0230 : rankOk 0 2 3 0 = true := by kernel_rfl
theorem rk0330 : rankOk 0 3 3 0 = true := by kernel_rfl
theorem rk1030 : rankOk 1 0 3 0 = true := by kernel_rfl
theorem rk1130 : rankOk 1 1 3 0 = true := by kernel_rfl
theorem rk1230 : rankOk 1 2 3 0 = true := by kernel_rfl
theorem rk1330 : rankOk 1 3 3 0 = true := by kernel_rfl
theorem rk2030 : rankOk 2 0 3 0 = true := by kernel_rfl
theorem rk2130 : rankOk 2 1 3 0 = true := by kernel_rfl
theorem rk2230 : rankOk 2 2 3 0 = true := by kernel_rfl
theorem rk2330 : rankOk 2 3 3 0 = true := by kernel_rfl
theorem rk3030 : rankOk 3 0 3 0 = true := by kernel_rfl
theorem rk3130 : rankOk 3 1 3 0 = true := by kernel_rfl
theorem rk3230 : rankOk 3 2 3 0 = true := by kernel_rfl
theorem rk3330 : rankOk 3 3 3 0 = true := by kernel_rfl
end
end Go.Dk.Run
