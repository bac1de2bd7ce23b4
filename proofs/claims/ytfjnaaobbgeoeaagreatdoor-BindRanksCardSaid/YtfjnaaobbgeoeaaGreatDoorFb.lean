/-
  BindRanks at some classes of its inputs, by the kernel.
-/
import Derived.Test.YtfjnaaobbgeoeaaGreatDoorEh
set_option maxRecDepth 100000
set_option linter.all false
namespace Go.Dk.Run
open Go Go.Dk
noncomputable section
theorem rk0001 : rankOk 0 0 0 1 = true := by kernel_rfl
theorem rk0101 : rankOk 0 1 0 1 = true := by kernel_rfl
theorem rk0201 : rankOk 0 2 0 1 = true := by kernel_rfl
theorem rk0301 : rankOk 0 3 0 1 = true := by kernel_rfl
theorem rk1001 : rankOk 1 0 0 1 = true := by kernel_rfl
theorem rk1101 : rankOk 1 1 0 1 = true := by kernel_rfl
theorem rk1201 : rankOk 1 2 0 1 = true := by kernel_rfl
theorem rk1301 : rankOk 1 3 0 1 = true := by kernel_rfl
theorem rk2001 : rankOk 2 0 0 1 = true := by kernel_rfl
theorem rk2101 : rankOk 2 1 0 1 = true := by kernel_rfl
theorem rk2201 : rankOk 2 2 0 1 = true := by kernel_rfl
theorem rk2301 : rankOk 2 3 0 1 = true := by kernel_rfl
theorem rk3001 : rankOk 3 0 0 1 = true := by kernel_rfl
theorem rk3101 : rankOk 3 1 0 1 = true := by kernel_rfl
theorem rk3201 : rankOk 3 2 0 1 = true := by kernel_rfl
theorem rk3301 : rankOk 3 3 0 1 = true := by kernel_rfl
end
end Go.Dk.Run
