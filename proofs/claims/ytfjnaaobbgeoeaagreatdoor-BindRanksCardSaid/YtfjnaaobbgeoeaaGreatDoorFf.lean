/-
  BindRanks at some classes of its inputs, by the kernel.
-/
import Derived.Test.YtfjnaaobbgeoeaaGreatDoorEh
set_option maxRecDepth 100000
set_option linter.all false
namespace Go.Dk.Run
open Go Go.Dk
noncomputable section
theorem rk0011 : rankOk 0 0 1 1 = true := by kernel_rfl
theorem rk0111 : rankOk 0 1 1 1 = true := by kernel_rfl
theorem rk0211 : rankOk 0 2 1 1 = true := by kernel_rfl
theorem rk0311 : rankOk 0 3 1 1 = true := by kernel_rfl
theorem rk1011 : rankOk 1 0 1 1 = true := by kernel_rfl
theorem rk1111 : rankOk 1 1 1 1 = true := by kernel_rfl
theorem rk1211 : rankOk 1 2 1 1 = true := by kernel_rfl
theorem rk1311 : rankOk 1 3 1 1 = true := by kernel_rfl
theorem rk2011 : rankOk 2 0 1 1 = true := by kernel_rfl
theorem rk2111 : rankOk 2 1 1 1 = true := by kernel_rfl
theorem rk2211 : rankOk 2 2 1 1 = true := by kernel_rfl
theorem rk2311 : rankOk 2 3 1 1 = true := by kernel_rfl
theorem rk3011 : rankOk 3 0 1 1 = true := by kernel_rfl
theorem rk3111 : rankOk 3 1 1 1 = true := by kernel_rfl
theorem rk3211 : rankOk 3 2 1 1 = true := by kernel_rfl
theorem rk3311 : rankOk 3 3 1 1 = true := by kernel_rfl
end
end Go.Dk.Run
