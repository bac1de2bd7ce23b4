/-
  ParseChains: its classes of inputs.
-/
import Derived.Test.YtnnmbmgdhlejiaaGreatDoorDkd
set_option maxRecDepth 100000
set_option linter.all false
namespace Go.Dk.Run
open Go Go.Dk
noncomputable section
def pd3 (r : Nat) : AV := .pend .i64 [(.and, 7)] (.ofNat r)
def chainOk (a b n : Nat) : Bool := isT (callN FA 100000 ⟨.d0, .d0, .d4⟩ [pd 7 a, pd 7 b, pd3 n] σ0)
theorem pend_and7 (n : Int) : ∃ r : Nat, r < 8 ∧ runPend .i64 [(.and, 7)] n = some (.ofNat r) := by
  have h1 : ibin .and .i64 n 7 = some (.int .i64 (IntKind.i64.wrap (BitVec.ofInt IntKind.i64.bits n &&& BitVec.ofInt IntKind.i64.bits 7).toNat)) := rfl
  have h2 : (BitVec.ofInt IntKind.i64.bits n &&& BitVec.ofInt IntKind.i64.bits 7).toNat ≤ 7 := by
    rw [BitVec.toNat_and]
    exact Nat.le_trans Nat.and_le_right (by decide)
  generalize (BitVec.ofInt IntKind.i64.bits n &&& BitVec.ofInt IntKind.i64.bits 7).toNat = x at h1 h2
  have h3 : IntKind.i64.wrap (x : Int) = (x : Int) := by
    unfold IntKind.wrap
    simp [IntKind.bits, IntKind.signed]
    omega
  refine ⟨x, by omega, ?_⟩
  unfold runPend
  rw [h1]
  simp only [h3]
  unfold runPend
  rfl
end
end Go.Dk.Run
