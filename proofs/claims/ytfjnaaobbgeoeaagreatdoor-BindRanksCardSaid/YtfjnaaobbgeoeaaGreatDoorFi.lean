/-
  BindRanks at some classes of its inputs, by the kernel.
-/
import Derived.Test.YtfjnaaobbgeoeaaGreatDoorEh
set_option maxRecDepth 100000
set_option linter.all false
namespace Go.Dk.Run
open Go Go.Dk
noncomputable section
theorem rk0020 : rankOk 0 0 2 0 = true := by kernel_rfl
theorem rk0120 : rankOk 0 1 2 0 = true := by kernel_rfl
theorem rk0220 : rankOk 0 2 2 0 = true := by kernel_rfl
theorem rk0320 : rankOk 0 3 2 0 = true := by kernel_rfl
theorem rk1020 : rankOk 1 0 2 0 = true := by kernel_rfl
theorem rk1120 : rankOk 1 1 2 0 = true := by kernel_rfl
theorem rk1220 : rankOk 1 2 2 0 = true := by kernel_rfl
theorem rk1320 : rankOk 1 3 2 0 = true := by kernel_rfl
theorem rk2020 : rankOk 2 0 2 0 = true := by kernel_rfl
theorem rk2120 : rankOk 2 1 2 0 = true := by kernel_rfl
theorem rk2220 : rankOk 2 2 2 0 = true := by kernel_rfl
theorem rk2320 : rankOk 2 3 2 0 = true := by kernel_rfl
theorem rk3020 : rankOk 3 0 2 0 = true := by kernel_rfl
theorem rk3120 : rankOk 3 1 2 0 = true := by kernel_rfl
theorem rk3220 : rankOk 3 2 2 0 = true := by kernel_rfl
theorem rk3320 : rankOk 3 3 2 0 = true := by kernel_rfl
end
end Go.Dk.Run
