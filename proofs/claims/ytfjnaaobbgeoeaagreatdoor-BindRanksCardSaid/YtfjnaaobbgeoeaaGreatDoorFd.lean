/-
  BindRanks at some classes of its inputs, by the kernel.
-/
import Derived.Test.YtfjnaaobbgeoeaaGreatDoorEh
set_option maxRecDepth 100000
set_option linter.all false
namespace Go.Dk.Run
open Go Go.Dk
noncomputable section
theorem rk0003 : rankOk 0 0 0 3 = true := by kernel_rfl
theorem rk0103 : rankOk 0 1 0 3 = true := by kernel_rfl
theorem rk0203 : rankOk 0 2 0 3 = true := by kernel_rfl
theorem rk0303 : rankOk 0 3 0 3 = true := by kernel_rfl
theorem rk1003 : rankOk 1 0 0 3 = true := by kernel_rfl
theorem rk1103 : rankOk 1 1 0 3 = true := by kernel_rfl
theorem rk1203 : rankOk 1 2 0 3 = true := by kernel_rfl
theorem rk1303 : rankOk 1 3 0 3 = true := by kernel_rfl
theorem rk2003 : rankOk 2 0 0 3 = true := by kernel_rfl
theorem rk2103 : rankOk 2 1 0 3 = true := by kernel_rfl
theorem rk2203 : rankOk 2 2 0 3 = true := by kernel_rfl
theorem rk2303 : rankOk 2 3 0 3 = true := by kernel_rfl
theorem rk3003 : rankOk 3 0 0 3 = true := by kernel_rfl
theorem rk3103 : rankOk 3 1 0 3 = true := by kernel_rfl
theorem rk3203 : rankOk 3 2 0 3 = true := by kernel_rfl
theorem rk3303 : rankOk 3 3 0 3 = true := by kernel_rfl
end
end Go.Dk.Run
