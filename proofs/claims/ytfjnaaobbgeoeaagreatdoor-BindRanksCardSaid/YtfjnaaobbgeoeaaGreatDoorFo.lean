/-
  BindRanks at some classes of its inputs, by the kernel.
-/
import Derived.Test.YtfjnaaobbgeoeaaGreatDoorEh
set_option maxRecDepth 100000
set_option linter.all false
namespace Go.Dk.Run
open Go Go.Dk
noncomputable section
theorem rk0032 : rankOk 0 0 3 2 = true := by kernel_rfl
theorem rk0132 : rankOk 0 1 3 2 = true := by kernel_rfl
theorem rk0232 : rankOk 0 2 3 2 = true := by kernel_rfl
theorem rk0332 : rankOk 0 3 3 2 = true := by kernel_rfl
theorem rk1032 : rankOk 1 0 3 2 = true := by kernel_rfl
theorem rk1132 : rankOk 1 1 3 2 = true := by kernel_rfl
theorem rk1232 : rankOk 1 2 3 2 = true := by kernel_rfl
theorem rk1332 : rankOk 1 3 3 2 = true := by kernel_rfl
theorem rk2032 : rankOk 2 0 3 2 = true := by kernel_rfl
theorem rk2132 : rankOk 2 1 3 2 = true := by kernel_rfl
theorem rk2232 : rankOk 2 2 3 2 = true := by kernel_rfl
theorem rk2332 : rankOk 2 3 3 2 = true := by kernel_rfl
theorem rk3032 : rankOk 3 0 3 2 = true := by kernel_rfl
theorem rk3132 : rankOk 3 1 3 2 = true := by kernel_rfl
theorem rk3232 : rankOk 3 2 3 2 = true := by kernel_rfl
theorem rk3332 : rankOk 3 3 3 2 = true := by kernel_rfl
end
end Go.Dk.Run
