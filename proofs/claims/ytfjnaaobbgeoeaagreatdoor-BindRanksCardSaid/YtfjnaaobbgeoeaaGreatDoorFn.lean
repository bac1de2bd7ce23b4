/-
  BindRanks at some classes of its inputs, by the kernel.
-/
import Derived.Test.YtfjnaaobbgeoeaaGreatDoorEh
set_option maxRecDepth 100000
set_option linter.all false
namespace Go.Dk.Run
open Go Go.Dk
noncomputable section
theorem rk0031 : rankOk 0 0 3 1 = true := by kernel_rfl
theorem rk0131 : rankOk 0 1 3 1 = true := by kernel_rfl
theorem rk0231 : rankOk 0 2 3 1 = true := by kernel_rfl
theorem rk0331 : rankOk 0 3 3 1 = true := by kernel_rfl
theorem rk1031 : rankOk 1 0 3 1 = true := by kernel_rfl
theorem rk1131 : rankOk 1 1 3 1 = true := by kernel_rfl
theorem rk1231 : rankOk 1 2 3 1 = true := by kernel_rfl
theorem rk1331 : rankOk 1 3 3 1 = true := by kernel_rfl
theorem rk2031 : rankOk 2 0 3 1 = true := by kernel_rfl
theorem rk2131 : rankOk 2 1 3 1 = true := by kernel_rfl
theorem rk2231 : rankOk 2 2 3 1 = true := by kernel_rfl
theorem rk2331 : rankOk 2 3 3 1 = true := by kernel_rfl
theorem rk3031 : rankOk 3 0 3 1 = true := by kernel_rfl
theorem rk3131 : rankOk 3 1 3 1 = true := by kernel_rfl
theorem rk3231 : rankOk 3 2 3 1 = true := by kernel_rfl
theorem rk3331 : rankOk 3 3 3 1 = true := by kernel_rfl
end
end Go.Dk.Run
