/-
  BindRanks at some classes of its inputs, by the kernel.
-/
import Derived.Test.YtfjnaaobbgeoeaaGreatDoorEh
set_option maxRecDepth 100000
set_option linter.all false
namespace Go.Dk.Run
open Go Go.Dk
noncomputable section
theorem rk0000 : rankOk 0 0 0 0 = true := by kernel_rfl
theorem rk0100 : rankOk 0 1 0 0 = true := by kernel_rfl
theorem rk0200 : rankOk 0 2 0 0 = true := by kernel_rfl
theorem rk0300 : rankOk 0 3 0 0 = true := by kernel_rfl
theorem rk1000 : rankOk 1 0 0 0 = true := by kernel_rfl
theorem rk1100 : rankOk 1 1 0 0 = true := by kernel_rfl
theorem rk1200 : rankOk 1 2 0 0 = true := by kernel_rfl
theorem rk1300 : rankOk 1 3 0 0 = true := by kernel_rfl
theorem rk2000 : rankOk 2 0 0 0 = true := by kernel_rfl
theorem rk2100 : rankOk 2 1 0 0 = true := by kernel_rfl
theorem rk2200 : rankOk 2 2 0 0 = true := by kernel_rfl
theorem rk2300 : rankOk 2 3 0 0 = true := by kernel_rfl
theorem rk3000 : rankOk 3 0 0 0 = true := by kernel_rfl
theorem rk3100 : rankOk 3 1 0 0 = true := by kernel_rfl
theorem rk3200 : rankOk 3 2 0 0 = true := by kernel_rfl
theorem rk3300 : rankOk 3 3 0 0 = true := by kernel_rfl
end
end Go.Dk.Run
