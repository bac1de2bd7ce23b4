/-
  BindRanks at some classes of its inputs, by the kernel.
-/
import Derived.Test.YtfjnaaobbgeoeaaGreatDoorEh
set_option maxRecDepth 100000
set_option linter.all false
namespace Go.Dk.Run
open Go Go.Dk
noncomputable section
theorem rk0010 : rankOk 0 0 1 0 = true := by kernel_rfl
theorem rk0110 : rankOk 0 1 1 0 = true := by kernel_rfl
theorem rk0210 : rankOk 0 2 1 0 = true := by kernel_rfl
theorem rk0310 : rankOk 0 3 1 0 = true := by kernel_rfl
theorem rk1010 : rankOk 1 0 1 0 = true := by kernel_rfl
theorem rk1110 : rankOk 1 1 1 0 = true := by kernel_rfl
theorem rk1210 : rankOk 1 2 1 0 = true := by kernel_rfl
theorem rk1310 : rankOk 1 3 1 0 = true := by kernel_rfl
theorem rk2010 : rankOk 2 0 1 0 = true := by kernel_rfl
theorem rk2110 : rankOk 2 1 1 0 = true := by kernel_rfl
theorem rk2210 : rankOk 2 2 1 0 = true := by kernel_rfl
theorem rk2310 : rankOk 2 3 1 0 = true := by kernel_rfl
theorem rk3010 : rankOk 3 0 1 0 = true := by kernel_rfl
theorem rk3110 : rankOk 3 1 1 0 = true := by kernel_rfl
theorem rk3210 : rankOk 3 2 1 0 = true := by kernel_rfl
theorem rk3310 : rankOk 3 3 1 0 = true := by kernel_rfl
end
end Go.Dk.Run
