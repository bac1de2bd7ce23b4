/-
  BindRanks at some classes of its inputs, by the kernel.
-/
import Derived.Test.YtfjnaaobbgeoeaaGreatDoorEh
set_option maxRecDepth 100000
set_option linter.all false
namespace Go.Dk.Run
open Go Go.Dk
noncomputable section
theorem rk0012 : rankOk 0 0 1 2 = true := by kernel_rfl
theorem rk0112 : rankOk 0 1 1 2 = true := by kernel_rfl
theorem rk0212 : rankOk 0 2 1 2 = true := by kernel_rfl
theorem rk0312 : rankOk 0 3 1 2 = true := by kernel_rfl
theorem rk1012 : rankOk 1 0 1 2 = true := by kernel_rfl
theorem rk1112 : rankOk 1 1 1 2 = true := by kernel_rfl
theorem rk1212 : rankOk 1 2 1 2 = true := by kernel_rfl
theorem rk1312 : rankOk 1 3 1 2 = true := by kernel_rfl
theorem rk2012 : rankOk 2 0 1 2 = true := by kernel_rfl
theorem rk2112 : rankOk 2 1 1 2 = true := by kernel_rfl
theorem rk2212 : rankOk 2 2 1 2 = true := by kernel_rfl
theorem rk2312 : rankOk 2 3 1 2 = true := by kernel_rfl
theorem rk3012 : rankOk 3 0 1 2 = true := by kernel_rfl
theorem rk3112 : rankOk 3 1 1 2 = true := by kernel_rfl
theorem rk3212 : rankOk 3 2 1 2 = true := by kernel_rfl
theorem rk3312 : rankOk 3 3 1 2 = true := by kernel_rfl
end
end Go.Dk.Run
