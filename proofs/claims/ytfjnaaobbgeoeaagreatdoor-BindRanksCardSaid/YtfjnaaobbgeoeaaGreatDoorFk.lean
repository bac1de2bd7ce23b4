/-
  BindRanks at some classes of its inputs, by the kernel.
-/
import Derived.Test.YtfjnaaobbgeoeaaGreatDoorEh
set_option maxRecDepth 100000
set_option linter.all false
namespace Go.Dk.Run
open Go Go.Dk
noncomputable section
theorem rk0022 : rankOk 0 0 2 2 = true := by kernel_rfl
theorem rk0122 : rankOk 0 1 2 2 = true := by kernel_rfl
theorem rk0222 : rankOk 0 2 2 2 = true := by kernel_rfl
theorem rk0322 : rankOk 0 3 2 2 = true := by kernel_rfl
theorem rk1022 : rankOk 1 0 2 2 = true := by kernel_rfl
theorem rk1122 : rankOk 1 1 2 2 = true := by kernel_rfl
theorem rk1222 : rankOk 1 2 2 2 = true := by kernel_rfl
theorem rk1322 : rankOk 1 3 2 2 = true := by kernel_rfl
theorem rk2022 : rankOk 2 0 2 2 = true := by kernel_rfl
theorem rk2122 : rankOk 2 1 2 2 = true := by kernel_rfl
theorem rk2222 : rankOk 2 2 2 2 = true := by kernel_rfl
theorem rk2322 : rankOk 2 3 2 2 = true := by kernel_rfl
theorem rk3022 : rankOk 3 0 2 2 = true := by kernel_rfl
theorem rk3122 : rankOk 3 1 2 2 = true := by kernel_rfl
theorem rk3222 : rankOk 3 2 2 2 = true := by kernel_rfl
theorem rk3322 : rankOk 3 3 2 2 = true := by kernel_rfl
end
end Go.Dk.Run
