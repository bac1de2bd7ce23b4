/-
  BindRanks at some classes of its inputs, by the kernel.
-/
import Derived.Test.YtfjnaaobbgeoeaaGreatDoorEh
set_option maxRecDepth 100000
set_option linter.all false
namespace Go.Dk.Run
open Go Go.Dk
noncomputable section
theorem rk0021 : rankOk 0 0 2 1 = true := by kernel_rfl
theorem rk0121 : rankOk 0 1 2 1 = true := by kernel_rfl
theorem rk0221 : rankOk 0 2 2 1 = true := by kernel_rfl
theorem rk0321 : rankOk 0 3 2 1 = true := by kernel_rfl
theorem rk1021 : rankOk 1 0 2 1 = true := by kernel_rfl
theorem rk1121 : rankOk 1 1 2 1 = true := by kernel_rfl
theorem rk1221 : rankOk 1 2 2 1 = true := by kernel_rfl
theorem rk1321 : rankOk 1 3 2 1 = true := by kernel_rfl
theorem rk2021 : rankOk 2 0 2 1 = true := by kernel_rfl
theorem rk2121 : rankOk 2 1 2 1 = true := by kernel_rfl
theorem rk2221 : rankOk 2 2 2 1 = true := by kernel_rfl
theorem rk2321 : rankOk 2 3 2 1 = true := by kernel_rfl
theorem rk3021 : rankOk 3 0 2 1 = true := by kernel_rfl
theorem rk3121 : rankOk 3 1 2 1 = true := by kernel_rfl
theorem rk3221 : rankOk 3 2 2 1 = true := by kernel_rfl
theorem rk3321 : rankOk 3 3 2 1 = true := by kernel_rfl
end
end Go.Dk.Run
