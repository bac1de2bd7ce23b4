/-
  BindRanks at some classes of its inputs, by the kernel.
-/
import Derived.Test.YtfjnaaobbgeoeaaGreatDoorEh
set_option maxRecDepth 100000
set_option linter.all false
namespace Go.Dk.Run
open Go Go.Dk
noncomputable section
theorem rk0013 : rankOk 0 0 1 3 = true := by kernel_rfl
theorem rk0113 : rankOk 0 1 1 3 = true := by kernel_rfl
theorem rk0213 : rankOk 0 2 1 3 = true := by kernel_rfl
theorem rk0313 : rankOk 0 3 1 3 = true := by kernel_rfl
theorem rk1013 : rankOk 1 0 1 3 = true := by kernel_rfl
theorem rk1113 : rankOk 1 1 1 3 = true := by kernel_rfl
theorem rk1213 : rankOk 1 2 1 3 = true := by kernel_rfl
theorem rk1313 : rankOk 1 3 1 3 = true := by kernel_rfl
theorem rk2013 : rankOk 2 0 1 3 = true := by kernel_rfl
theorem rk2113 : rankOk 2 1 1 3 = true := by kernel_rfl
theorem rk2213 : rankOk 2 2 1 3 = true := by kernel_rfl
theorem rk2313 : rankOk 2 3 1 3 = true := by kernel_rfl
theorem rk3013 : rankOk 3 0 1 3 = true := by kernel_rfl
theorem rk3113 : rankOk 3 1 1 3 = true := by kernel_rfl
theorem rk3213 : rankOk 3 2 1 3 = true := by kernel_rfl
theorem rk3313 : rankOk 3 3 1 3 = true := by kernel_rfl
end
end Go.Dk.Run
