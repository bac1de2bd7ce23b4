/-
  BindCombines on the machine: the other cases.
-/
import Derived.Test.YtfjnaaobbgeoeaaGreatDoorGb
set_option maxRecDepth 100000
set_option linter.all false
namespace Go.Dk.Run
open Go Go.Dk Go.RowKit Go.Proofs
set_option maxHeartbeats 1000000
noncomputable section
theorem c1s0b (la : List Nat) (lb : List Nat) (hla : seq8 la la = true) (hlb : seq8 lb [98, 105, 110, 97, 114, 121] = false) : Gc FA3 9 i4 [.agg [.int .i64 (.ofNat 1), .str la], .agg [.int .i64 (.ofNat 0), .str lb]] σE fun v _ => v = .bool true := by
  refine Gc.code rfl rfl ?_
  refine Gx.seq ?_
  refine Gx.ops ?_
  refine Gr.cons (v := (.ptr ⟨.d0, .d0, .d1, .d0, .d0⟩ 0)) (σ1 := _) rfl ?_
  refine Gr.cons (v := (.ptr ⟨.d0, .d0, .d1, .d0, .d1⟩ 0)) (σ1 := _) rfl ?_
  refine Gr.cons (v := (.bool false)) (σ1 := _) rfl ?_
  refine Gr.nil ?_
  refine Gx.seq ?_
  refine Gx.seq ?_
  refine Gx.ops ?_
  refine Gr.cons (v := (.ptr ⟨.d0, .d0, .d1, .d0, .d0⟩ 0)) (σ1 := _) rfl ?_
  refine Gr.cons (v := (.int .i64 (.ofNat 1))) (σ1 := _) rfl ?_
  refine Gr.cons (v := (.bool false)) (σ1 := _) rfl ?_
  refine Gr.cons (v := (.bool false)) (σ1 := _) rfl ?_
  refine Gr.cons (v := (.ptr ⟨.d0, .d0, .d1, .d0, .d0⟩ 0)) (σ1 := _) rfl ?_
  refine Gr.cons (v := (.int .i64 (.ofNat 1))) (σ1 := _) rfl ?_
  refine Gr.cons (v := (.bool false)) (σ1 := _) rfl ?_
  refine Gr.cons (v := (.bool false)) (σ1 := _) rfl ?_
  refine Gr.cons (v := (.bool false)) (σ1 := _) rfl ?_
  refine Gr.cons (v := (.ptr ⟨.d0, .d0, .d1, .d0, .d1⟩ 0)) (σ1 := _) rfl ?_
  refine Gr.cons (v := (.int .i64 (.ofNat 0))) (σ1 := _) rfl ?_
  refine Gr.cons (v := (.bool false)) (σ1 := _) rfl ?_
  refine Gr.cons (v := (.bool false)) (σ1 := _) rfl ?_
  refine Gr.cons (v := (.bool false)) (σ1 := _) rfl ?_
  refine Gr.cons (v := (.ptr ⟨.d0, .d0, .d1, .d0, .d1⟩ 0)) (σ1 := _) rfl ?_
  refine Gr.cons (v := (.int .i64 (.ofNat 0))) (σ1 := _) rfl ?_
  refine Gr.cons (v := (.bool false)) (σ1 := _) rfl ?_
  refine Gr.cons (v := (.bool false)) (σ1 := _) rfl ?_
  refine Gr.cons (v := (.bool false)) (σ1 := _) rfl ?_
  refine Gr.cons (v := (.ptr ⟨.d0, .d0, .d1, .d0, .d0⟩ 0)) (σ1 := _) rfl ?_
  refine Gr.cons (v := (.int .i64 (.ofNat 1))) (σ1 := _) rfl ?_
  refine Gr.cons (v := (.bool false)) (σ1 := _) rfl ?_
  refine Gr.cons (v := (.bool false)) (σ1 := _) rfl ?_
  refine Gr.cons (v := uv) (σ1 := _) rfl ?_
  refine Gr.cons (v := uv) (σ1 := _) rfl ?_
  refine Gr.cons (v := uv) (σ1 := _) rfl ?_
  refine Gr.cons (v := (.bool false)) (σ1 := _) rfl ?_
  refine Gr.cons (v := (.bool false)) (σ1 := _) rfl ?_
  refine Gr.cons (v := (.bool false)) (σ1 := _) rfl ?_
  refine Gr.cons (v := (.ptr ⟨.d0, .d0, .d1, .d0, .d1⟩ 0)) (σ1 := _) rfl ?_
  refine Gr.cons (v := (.int .i64 (.ofNat 0))) (σ1 := _) rfl ?_
  refine Gr.cons (v := (.bool false)) (σ1 := _) rfl ?_
  refine Gr.cons (v := (.bool false)) (σ1 := _) rfl ?_
  refine Gr.cons (v := uv) (σ1 := _) rfl ?_
  refine Gr.cons (v := uv) (σ1 := _) rfl ?_
  refine Gr.cons (v := uv) (σ1 := _) rfl ?_
  refine Gr.cons (v := (.bool false)) (σ1 := _) rfl ?_
  refine Gr.cons (v := (.bool false)) (σ1 := _) rfl ?_
  refine Gr.cons (v := (.bool false)) (σ1 := _) rfl ?_
  refine Gr.cons (v := (.ptr ⟨.d0, .d0, .d1, .d0, .d0⟩ 0)) (σ1 := _) rfl ?_
  refine Gr.cons (v := (.int .i64 (.ofNat 1))) (σ1 := _) rfl ?_
  refine Gr.cons (v := (.bool false)) (σ1 := _) rfl ?_
  refine Gr.cons (v := (.bool false)) (σ1 := _) rfl ?_
  refine Gr.cons (v := uv) (σ1 := _) rfl ?_
  refine Gr.cons (v := uv) (σ1 := _) rfl ?_
  refine Gr.cons (v := uv) (σ1 := _) rfl ?_
  refine Gr.cons (v := (.bool false)) (σ1 := _) rfl ?_
  refine Gr.cons (v := (.bool false)) (σ1 := _) rfl ?_
  refine Gr.cons (v := (.bool false)) (σ1 := _) rfl ?_
  refine Gr.cons (v := (.ptr ⟨.d0, .d0, .d1, .d0, .d1⟩ 0)) (σ1 := _) rfl ?_
  refine Gr.cons (v := (.int .i64 (.ofNat 0))) (σ1 := _) rfl ?_
  refine Gr.cons (v := (.bool true)) (σ1 := _) rfl ?_
  refine Gr.cons (v := (.bool true)) (σ1 := _) rfl ?_
  refine Gr.cons (v := (.ptr ⟨.d0, .d0, .d1, .d0, .d1⟩ 1)) (σ1 := _) rfl ?_
  refine Gr.cons (v := (.str lb)) (σ1 := _) rfl ?_
  refine Gr.binS (b := (not8 (seq8 lb [98, 105, 110, 97, 114, 121]))) (b' := true) rfl (by rw [hlb]; rfl) ?_
  refine Gr.cons (v := (.bool true)) (σ1 := _) rfl ?_
  refine Gr.cons (v := (.bool true)) (σ1 := _) rfl ?_
  refine Gr.nil ?_
  refine Gx.condT rfl ?_
  refine Gx.seq ?_
  refine Gx.ops ?_
  refine Gr.cons (v := (.bool true)) (σ1 := _) rfl ?_
  refine Gr.cons (v := (.bool true)) (σ1 := _) rfl ?_
  refine Gr.nil ?_
  refine Gx.ret ?_
  refine ⟨(.bool true), rfl, ?_⟩
  rfl
theorem c1s1se (la : List Nat) (hla : seq8 la la = true) : Gc FA3 9 i4 [.agg [.int .i64 (.ofNat 1), .str la], .agg [.int .i64 (.ofNat 1), .str la]] σE fun v _ => v = .bool true := by
  refine Gc.code rfl rfl ?_
  refine Gx.seq ?_
  refine Gx.ops ?_
  refine Gr.cons (v := (.ptr ⟨.d0, .d0, .d1, .d0, .d0⟩ 0)) (σ1 := _) rfl ?_
  refine Gr.cons (v := (.ptr ⟨.d0, .d0, .d1, .d0, .d1⟩ 0)) (σ1 := _) rfl ?_
  refine Gr.cons (v := (.bool false)) (σ1 := _) rfl ?_
  refine Gr.nil ?_
  refine Gx.seq ?_
  refine Gx.seq ?_
  refine Gx.ops ?_
  refine Gr.cons (v := (.ptr ⟨.d0, .d0, .d1, .d0, .d0⟩ 0)) (σ1 := _) rfl ?_
  refine Gr.cons (v := (.int .i64 (.ofNat 1))) (σ1 := _) rfl ?_
  refine Gr.cons (v := (.bool false)) (σ1 := _) rfl ?_
  refine Gr.cons (v := (.bool false)) (σ1 := _) rfl ?_
  refine Gr.cons (v := (.ptr ⟨.d0, .d0, .d1, .d0, .d0⟩ 0)) (σ1 := _) rfl ?_
  refine Gr.cons (v := (.int .i64 (.ofNat 1))) (σ1 := _) rfl ?_
  refine Gr.cons (v := (.bool false)) (σ1 := _) rfl ?_
  refine Gr.cons (v := (.bool false)) (σ1 := _) rfl ?_
  refine Gr.cons (v := (.bool false)) (σ1 := _) rfl ?_
  refine Gr.cons (v := (.ptr ⟨.d0, .d0, .d1, .d0, .d1⟩ 0)) (σ1 := _) rfl ?_
  refine Gr.cons (v := (.int .i64 (.ofNat 1))) (σ1 := _) rfl ?_
  refine Gr.cons (v := (.bool false)) (σ1 := _) rfl ?_
  refine Gr.cons (v := (.bool false)) (σ1 := _) rfl ?_
  refine Gr.cons (v := (.bool false)) (σ1 := _) rfl ?_
  refine Gr.cons (v := (.ptr ⟨.d0, .d0, .d1, .d0, .d1⟩ 0)) (σ1 := _) rfl ?_
  refine Gr.cons (v := (.int .i64 (.ofNat 1))) (σ1 := _) rfl ?_
  refine Gr.cons (v := (.bool false)) (σ1 := _) rfl ?_
  refine Gr.cons (v := (.bool false)) (σ1 := _) rfl ?_
  refine Gr.cons (v := (.bool false)) (σ1 := _) rfl ?_
  refine Gr.cons (v := (.ptr ⟨.d0, .d0, .d1, .d0, .d0⟩ 0)) (σ1 := _) rfl ?_
  refine Gr.cons (v := (.int .i64 (.ofNat 1))) (σ1 := _) rfl ?_
  refine Gr.cons (v := (.bool false)) (σ1 := _) rfl ?_
  refine Gr.cons (v := (.bool false)) (σ1 := _) rfl ?_
  refine Gr.cons (v := uv) (σ1 := _) rfl ?_
  refine Gr.cons (v := uv) (σ1 := _) rfl ?_
  refine Gr.cons (v := uv) (σ1 := _) rfl ?_
  refine Gr.cons (v := (.bool false)) (σ1 := _) rfl ?_
  refine Gr.cons (v := (.bool false)) (σ1 := _) rfl ?_
  refine Gr.cons (v := (.bool false)) (σ1 := _) rfl ?_
  refine Gr.cons (v := (.ptr ⟨.d0, .d0, .d1, .d0, .d1⟩ 0)) (σ1 := _) rfl ?_
  refine Gr.cons (v := (.int .i64 (.ofNat 1))) (σ1 := _) rfl ?_
  refine Gr.cons (v := (.bool false)) (σ1 := _) rfl ?_
  refine Gr.cons (v := (.bool false)) (σ1 := _) rfl ?_
  refine Gr.cons (v := uv) (σ1 := _) rfl ?_
  refine Gr.cons (v := uv) (σ1 := _) rfl ?_
  refine Gr.cons (v := uv) (σ1 := _) rfl ?_
  refine Gr.cons (v := (.bool false)) (σ1 := _) rfl ?_
  refine Gr.cons (v := (.bool false)) (σ1 := _) rfl ?_
  refine Gr.cons (v := (.bool false)) (σ1 := _) rfl ?_
  refine Gr.cons (v := (.ptr ⟨.d0, .d0, .d1, .d0, .d0⟩ 0)) (σ1 := _) rfl ?_
  refine Gr.cons (v := (.int .i64 (.ofNat 1))) (σ1 := _) rfl ?_
  refine Gr.cons (v := (.bool false)) (σ1 := _) rfl ?_
  refine Gr.cons (v := (.bool false)) (σ1 := _) rfl ?_
  refine Gr.cons (v := uv) (σ1 := _) rfl ?_
  refine Gr.cons (v := uv) (σ1 := _) rfl ?_
  refine Gr.cons (v := uv) (σ1 := _) rfl ?_
  refine Gr.cons (v := (.bool false)) (σ1 := _) rfl ?_
  refine Gr.cons (v := (.bool false)) (σ1 := _) rfl ?_
  refine Gr.cons (v := (.bool false)) (σ1 := _) rfl ?_
  refine Gr.cons (v := (.ptr ⟨.d0, .d0, .d1, .d0, .d1⟩ 0)) (σ1 := _) rfl ?_
  refine Gr.cons (v := (.int .i64 (.ofNat 1))) (σ1 := _) rfl ?_
  refine Gr.cons (v := (.bool false)) (σ1 := _) rfl ?_
  refine Gr.cons (v := (.bool false)) (σ1 := _) rfl ?_
  refine Gr.cons (v := uv) (σ1 := _) rfl ?_
  refine Gr.cons (v := uv) (σ1 := _) rfl ?_
  refine Gr.cons (v := uv) (σ1 := _) rfl ?_
  refine Gr.cons (v := (.bool false)) (σ1 := _) rfl ?_
  refine Gr.cons (v := (.bool false)) (σ1 := _) rfl ?_
  refine Gr.nil ?_
  refine Gx.condF rfl ?_
  refine Gx.skip ?_
  refine Gx.seq ?_
  refine Gx.ops ?_
  refine Gr.cons (v := (.agg [.int .i64 (.ofNat 1), .str la])) (σ1 := _) rfl ?_
  refine Gr.cons (v := (.agg [.int .i64 (.ofNat 1), .str la])) (σ1 := _) rfl ?_
  refine Gr.callF (Gc.code rfl rfl ?_)
  refine Gx.seq ?_
  refine Gx.ops ?_
  refine Gr.cons (v := (.ptr ⟨.d0, .d0, .d1, .d0, .d2⟩ 0)) (σ1 := _) rfl ?_
  refine Gr.cons (v := (.ptr ⟨.d0, .d0, .d1, .d0, .d3⟩ 0)) (σ1 := _) rfl ?_
  refine Gr.cons (v := (.ptr ⟨.d0, .d0, .d1, .d0, .d4⟩ 0)) (σ1 := _) rfl ?_
  refine Gr.cons (v := (.int .i64 (.ofNat 0))) (σ1 := _) rfl ?_
  refine Gr.nil ?_
  refine Gx.seq ?_
  refine Gx.seq ?_
  refine Gx.ops ?_
  refine Gr.cons (v := (.ptr ⟨.d0, .d0, .d1, .d0, .d2⟩ 0)) (σ1 := _) rfl ?_
  refine Gr.cons (v := (.int .i64 (.ofNat 1))) (σ1 := _) rfl ?_
  refine Gr.cons (v := (.ptr ⟨.d0, .d0, .d1, .d0, .d3⟩ 0)) (σ1 := _) rfl ?_
  refine Gr.cons (v := (.int .i64 (.ofNat 1))) (σ1 := _) rfl ?_
  refine Gr.cons (v := (.agg [.int .i64 (.ofNat 1), .int .i64 (.ofNat 1)])) (σ1 := _) rfl ?_
  refine Gr.nil ?_
  refine Gx.block ?_
  refine Gx.seq ?_
  refine Gx.ops ?_
  refine Gr.cons (v := (.agg [.int .i64 (.ofNat 3), .int .i64 (.ofNat 3)])) (σ1 := _) rfl ?_
  refine Gr.cons (v := (.bool false)) (σ1 := _) rfl ?_
  refine Gr.cons (v := (.bool false)) (σ1 := _) rfl ?_
  refine Gr.nil ?_
  refine Gx.condF rfl ?_
  refine Gx.seq ?_
  refine Gx.ops ?_
  refine Gr.cons (v := (.agg [.int .i64 (.ofNat 1), .int .i64 (.ofNat 1)])) (σ1 := _) rfl ?_
  refine Gr.cons (v := (.bool true)) (σ1 := _) rfl ?_
  refine Gr.cons (v := (.bool true)) (σ1 := _) rfl ?_
  refine Gr.nil ?_
  refine Gx.condT rfl ?_
  refine Gx.seq ?_
  refine Gx.ops ?_
  refine Gr.cons (v := (.ptr ⟨.d0, .d0, .d1, .d0, .d2⟩ 1)) (σ1 := _) rfl ?_
  refine Gr.cons (v := (.str la)) (σ1 := _) rfl ?_
  refine Gr.cons (v := (.ptr ⟨.d0, .d0, .d1, .d0, .d3⟩ 1)) (σ1 := _) rfl ?_
  refine Gr.cons (v := (.str la)) (σ1 := _) rfl ?_
  refine Gr.binS (b := (not8 (seq8 la la))) (b' := false) rfl (by rw [hla]; rfl) ?_
  refine Gr.nil ?_
  refine Gx.condF rfl ?_
  refine Gx.skip ?_
  refine Gx.seq ?_
  refine Gx.seq ?_
  refine Gx.ops ?_
  refine Gr.cons (v := (.ptr ⟨.d0, .d0, .d1, .d0, .d3⟩ 0)) (σ1 := _) rfl ?_
  refine Gr.cons (v := (.int .i64 (.ofNat 1))) (σ1 := _) rfl ?_
  refine Gr.cons (v := (.ptr ⟨.d0, .d0, .d1, .d0, .d2⟩ 0)) (σ1 := _) rfl ?_
  refine Gr.cons (v := (.int .i64 (.ofNat 1))) (σ1 := _) rfl ?_
  refine Gr.cons (v := (.bool false)) (σ1 := _) rfl ?_
  refine Gr.nil ?_
  refine Gx.condF rfl ?_
  refine Gx.skip ?_
  refine Gx.seq ?_
  refine Gx.ops ?_
  refine Gr.cons (v := (.agg [.int .i64 (.ofNat 1), .str la])) (σ1 := _) rfl ?_
  refine Gr.cons (v := uv) (σ1 := _) rfl ?_
  refine Gr.cons (v := (.int .i64 (.ofNat 0))) (σ1 := _) rfl ?_
  refine Gr.nil ?_
  refine Gx.ret ?_
  refine ⟨(.tup [.agg [.int .i64 (.ofNat 1), .str la], .int .i64 (.ofNat 0)]), rfl, ?_⟩
  refine Gr.cons (v := (.tup [.agg [.int .i64 (.ofNat 1), .str la], .int .i64 (.ofNat 0)])) (σ1 := _) rfl ?_
  refine Gr.cons (v := (.agg [.int .i64 (.ofNat 1), .str la])) (σ1 := _) rfl ?_
  refine Gr.cons (v := (.int .i64 (.ofNat 0))) (σ1 := _) rfl ?_
  refine Gr.cons (v := (.ptr ⟨.d0, .d0, .d1, .d0, .d5⟩ 0)) (σ1 := _) rfl ?_
  refine Gr.cons (v := uv) (σ1 := _) rfl ?_
  refine Gr.cons (v := (.int .i64 (.ofNat 0))) (σ1 := _) rfl ?_
  refine Gr.nil ?_
  refine Gx.seq ?_
  refine Gx.ops ?_
  refine Gr.cons (v := (.agg [.int .i64 (.ofNat 1), .str la])) (σ1 := _) rfl ?_
  refine Gr.cons (v := (.agg [.int .i64 (.ofNat 1), .str la])) (σ1 := _) rfl ?_
  refine Gr.callF (Gc.code rfl rfl ?_)
  refine Gx.seq ?_
  refine Gx.ops ?_
  refine Gr.cons (v := (.ptr ⟨.d0, .d0, .d1, .d0, .d6⟩ 0)) (σ1 := _) rfl ?_
  refine Gr.cons (v := (.ptr ⟨.d0, .d0, .d1, .d0, .d7⟩ 0)) (σ1 := _) rfl ?_
  refine Gr.cons (v := (.ptr ⟨.d0, .d0, .d1, .d1, .d0⟩ 0)) (σ1 := _) rfl ?_
  refine Gr.cons (v := (.int .i64 (.ofNat 0))) (σ1 := _) rfl ?_
  refine Gr.nil ?_
  refine Gx.seq ?_
  refine Gx.block ?_
  refine Gx.seq ?_
  refine Gx.ops ?_
  refine Gr.cons (v := (.ptr ⟨.d0, .d0, .d1, .d0, .d6⟩ 0)) (σ1 := _) rfl ?_
  refine Gr.cons (v := (.int .i64 (.ofNat 1))) (σ1 := _) rfl ?_
  refine Gr.cons (v := (.bool false)) (σ1 := _) rfl ?_
  refine Gr.cons (v := (.bool false)) (σ1 := _) rfl ?_
  refine Gr.cons (v := uv) (σ1 := _) rfl ?_
  refine Gr.cons (v := uv) (σ1 := _) rfl ?_
  refine Gr.cons (v := uv) (σ1 := _) rfl ?_
  refine Gr.cons (v := (.bool false)) (σ1 := _) rfl ?_
  refine Gr.cons (v := (.bool false)) (σ1 := _) rfl ?_
  refine Gr.cons (v := uv) (σ1 := _) rfl ?_
  refine Gr.cons (v := uv) (σ1 := _) rfl ?_
  refine Gr.cons (v := uv) (σ1 := _) rfl ?_
  refine Gr.cons (v := uv) (σ1 := _) rfl ?_
  refine Gr.cons (v := uv) (σ1 := _) rfl ?_
  refine Gr.cons (v := (.bool false)) (σ1 := _) rfl ?_
  refine Gr.cons (v := (.bool false)) (σ1 := _) rfl ?_
  refine Gr.nil ?_
  refine Gx.condF rfl ?_
  refine Gx.seq ?_
  refine Gx.ops ?_
  refine Gr.cons (v := (.ptr ⟨.d0, .d0, .d1, .d0, .d6⟩ 0)) (σ1 := _) rfl ?_
  refine Gr.cons (v := (.int .i64 (.ofNat 1))) (σ1 := _) rfl ?_
  refine Gr.cons (v := (.ptr ⟨.d0, .d0, .d1, .d0, .d7⟩ 0)) (σ1 := _) rfl ?_
  refine Gr.cons (v := (.int .i64 (.ofNat 1))) (σ1 := _) rfl ?_
  refine Gr.cons (v := (.bool false)) (σ1 := _) rfl ?_
  refine Gr.cons (v := (.bool false)) (σ1 := _) rfl ?_
  refine Gr.nil ?_
  refine Gx.condF rfl ?_
  refine Gx.seq ?_
  refine Gx.ops ?_
  refine Gr.cons (v := (.ptr ⟨.d0, .d0, .d1, .d0, .d6⟩ 0)) (σ1 := _) rfl ?_
  refine Gr.cons (v := (.int .i64 (.ofNat 1))) (σ1 := _) rfl ?_
  refine Gr.cons (v := (.bool true)) (σ1 := _) rfl ?_
  refine Gr.cons (v := (.bool true)) (σ1 := _) rfl ?_
  refine Gr.cons (v := (.ptr ⟨.d0, .d0, .d1, .d0, .d6⟩ 1)) (σ1 := _) rfl ?_
  refine Gr.cons (v := (.str la)) (σ1 := _) rfl ?_
  refine Gr.cons (v := (.ptr ⟨.d0, .d0, .d1, .d0, .d7⟩ 1)) (σ1 := _) rfl ?_
  refine Gr.cons (v := (.str la)) (σ1 := _) rfl ?_
  refine Gr.binS (b := (not8 (seq8 la la))) (b' := false) rfl (by rw [hla]; rfl) ?_
  refine Gr.cons (v := (.bool false)) (σ1 := _) rfl ?_
  refine Gr.cons (v := (.bool false)) (σ1 := _) rfl ?_
  refine Gr.nil ?_
  refine Gx.condF rfl ?_
  refine Gx.skip ?_
  refine Gx.seq ?_
  refine Gx.ops ?_
  refine Gr.cons (v := (.agg [.int .i64 (.ofNat 1), .str la])) (σ1 := _) rfl ?_
  refine Gr.cons (v := uv) (σ1 := _) rfl ?_
  refine Gr.cons (v := (.int .i64 (.ofNat 0))) (σ1 := _) rfl ?_
  refine Gr.nil ?_
  refine Gx.ret ?_
  refine ⟨(.tup [.agg [.int .i64 (.ofNat 1), .str la], .int .i64 (.ofNat 0)]), rfl, ?_⟩
  refine Gr.cons (v := (.tup [.agg [.int .i64 (.ofNat 1), .str la], .int .i64 (.ofNat 0)])) (σ1 := _) rfl ?_
  refine Gr.cons (v := (.agg [.int .i64 (.ofNat 1), .str la])) (σ1 := _) rfl ?_
  refine Gr.cons (v := (.int .i64 (.ofNat 0))) (σ1 := _) rfl ?_
  refine Gr.cons (v := (.ptr ⟨.d0, .d0, .d1, .d1, .d1⟩ 0)) (σ1 := _) rfl ?_
  refine Gr.cons (v := uv) (σ1 := _) rfl ?_
  refine Gr.cons (v := (.int .i64 (.ofNat 0))) (σ1 := _) rfl ?_
  refine Gr.nil ?_
  refine Gx.seq ?_
  refine Gx.ops ?_
  refine Gr.cons (v := (.agg [.int .i64 (.ofNat 1), .str la])) (σ1 := _) rfl ?_
  refine Gr.cons (v := (.agg [.int .i64 (.ofNat 1), .str la])) (σ1 := _) rfl ?_
  refine Gr.eqF rfl rfl ?_
  rw [hla]
  refine Gr.cons (v := (.bool true)) (σ1 := _) rfl ?_
  refine Gr.cons (v := (.int .i64 (.ofNat 0))) (σ1 := _) rfl ?_
  refine Gr.cons (v := (.int .i64 (.ofNat 0))) (σ1 := _) rfl ?_
  refine Gr.cons (v := (.bool true)) (σ1 := _) rfl ?_
  refine Gr.cons (v := (.bool true)) (σ1 := _) rfl ?_
  refine Gr.cons (v := (.bool true)) (σ1 := _) rfl ?_
  refine Gr.cons (v := (.bool true)) (σ1 := _) rfl ?_
  refine Gr.cons (v := (.bool true)) (σ1 := _) rfl ?_
  refine Gr.cons (v := (.bool true)) (σ1 := _) rfl ?_
  refine Gr.nil ?_
  refine Gx.ret ?_
  refine ⟨(.bool true), rfl, ?_⟩
  rfl
theorem c1s1su (la : List Nat) (lb : List Nat) (hla : seq8 la la = true) (hlb : seq8 lb lb = true) (hab : seq8 la lb = false) (hba : seq8 lb la = false) : Gc FA3 9 i4 [.agg [.int .i64 (.ofNat 1), .str la], .agg [.int .i64 (.ofNat 1), .str lb]] σE fun v _ => v = .bool true := by
  refine Gc.code rfl rfl ?_
  refine Gx.seq ?_
  refine Gx.ops ?_
  refine Gr.cons (v := (.ptr ⟨.d0, .d0, .d1, .d0, .d0⟩ 0)) (σ1 := _) rfl ?_
  refine Gr.cons (v := (.ptr ⟨.d0, .d0, .d1, .d0, .d1⟩ 0)) (σ1 := _) rfl ?_
  refine Gr.cons (v := (.bool false)) (σ1 := _) rfl ?_
  refine Gr.nil ?_
  refine Gx.seq ?_
  refine Gx.seq ?_
  refine Gx.ops ?_
  refine Gr.cons (v := (.ptr ⟨.d0, .d0, .d1, .d0, .d0⟩ 0)) (σ1 := _) rfl ?_
  refine Gr.cons (v := (.int .i64 (.ofNat 1))) (σ1 := _) rfl ?_
  refine Gr.cons (v := (.bool false)) (σ1 := _) rfl ?_
  refine Gr.cons (v := (.bool false)) (σ1 := _) rfl ?_
  refine Gr.cons (v := (.ptr ⟨.d0, .d0, .d1, .d0, .d0⟩ 0)) (σ1 := _) rfl ?_
  refine Gr.cons (v := (.int .i64 (.ofNat 1))) (σ1 := _) rfl ?_
  refine Gr.cons (v := (.bool false)) (σ1 := _) rfl ?_
  refine Gr.cons (v := (.bool false)) (σ1 := _) rfl ?_
  refine Gr.cons (v := (.bool false)) (σ1 := _) rfl ?_
  refine Gr.cons (v := (.ptr ⟨.d0, .d0, .d1, .d0, .d1⟩ 0)) (σ1 := _) rfl ?_
  refine Gr.cons (v := (.int .i64 (.ofNat 1))) (σ1 := _) rfl ?_
  refine Gr.cons (v := (.bool false)) (σ1 := _) rfl ?_
  refine Gr.cons (v := (.bool false)) (σ1 := _) rfl ?_
  refine Gr.cons (v := (.bool false)) (σ1 := _) rfl ?_
  refine Gr.cons (v := (.ptr ⟨.d0, .d0, .d1, .d0, .d1⟩ 0)) (σ1 := _) rfl ?_
  refine Gr.cons (v := (.int .i64 (.ofNat 1))) (σ1 := _) rfl ?_
  refine Gr.cons (v := (.bool false)) (σ1 := _) rfl ?_
  refine Gr.cons (v := (.bool false)) (σ1 := _) rfl ?_
  refine Gr.cons (v := (.bool false)) (σ1 := _) rfl ?_
  refine Gr.cons (v := (.ptr ⟨.d0, .d0, .d1, .d0, .d0⟩ 0)) (σ1 := _) rfl ?_
  refine Gr.cons (v := (.int .i64 (.ofNat 1))) (σ1 := _) rfl ?_
  refine Gr.cons (v := (.bool false)) (σ1 := _) rfl ?_
  refine Gr.cons (v := (.bool false)) (σ1 := _) rfl ?_
  refine Gr.cons (v := uv) (σ1 := _) rfl ?_
  refine Gr.cons (v := uv) (σ1 := _) rfl ?_
  refine Gr.cons (v := uv) (σ1 := _) rfl ?_
  refine Gr.cons (v := (.bool false)) (σ1 := _) rfl ?_
  refine Gr.cons (v := (.bool false)) (σ1 := _) rfl ?_
  refine Gr.cons (v := (.bool false)) (σ1 := _) rfl ?_
  refine Gr.cons (v := (.ptr ⟨.d0, .d0, .d1, .d0, .d1⟩ 0)) (σ1 := _) rfl ?_
  refine Gr.cons (v := (.int .i64 (.ofNat 1))) (σ1 := _) rfl ?_
  refine Gr.cons (v := (.bool false)) (σ1 := _) rfl ?_
  refine Gr.cons (v := (.bool false)) (σ1 := _) rfl ?_
  refine Gr.cons (v := uv) (σ1 := _) rfl ?_
  refine Gr.cons (v := uv) (σ1 := _) rfl ?_
  refine Gr.cons (v := uv) (σ1 := _) rfl ?_
  refine Gr.cons (v := (.bool false)) (σ1 := _) rfl ?_
  refine Gr.cons (v := (.bool false)) (σ1 := _) rfl ?_
  refine Gr.cons (v := (.bool false)) (σ1 := _) rfl ?_
  refine Gr.cons (v := (.ptr ⟨.d0, .d0, .d1, .d0, .d0⟩ 0)) (σ1 := _) rfl ?_
  refine Gr.cons (v := (.int .i64 (.ofNat 1))) (σ1 := _) rfl ?_
  refine Gr.cons (v := (.bool false)) (σ1 := _) rfl ?_
  refine Gr.cons (v := (.bool false)) (σ1 := _) rfl ?_
  refine Gr.cons (v := uv) (σ1 := _) rfl ?_
  refine Gr.cons (v := uv) (σ1 := _) rfl ?_
  refine Gr.cons (v := uv) (σ1 := _) rfl ?_
  refine Gr.cons (v := (.bool false)) (σ1 := _) rfl ?_
  refine Gr.cons (v := (.bool false)) (σ1 := _) rfl ?_
  refine Gr.cons (v := (.bool false)) (σ1 := _) rfl ?_
  refine Gr.cons (v := (.ptr ⟨.d0, .d0, .d1, .d0, .d1⟩ 0)) (σ1 := _) rfl ?_
  refine Gr.cons (v := (.int .i64 (.ofNat 1))) (σ1 := _) rfl ?_
  refine Gr.cons (v := (.bool false)) (σ1 := _) rfl ?_
  refine Gr.cons (v := (.bool false)) (σ1 := _) rfl ?_
  refine Gr.cons (v := uv) (σ1 := _) rfl ?_
  refine Gr.cons (v := uv) (σ1 := _) rfl ?_
  refine Gr.cons (v := uv) (σ1 := _) rfl ?_
  refine Gr.cons (v := (.bool false)) (σ1 := _) rfl ?_
  refine Gr.cons (v := (.bool false)) (σ1 := _) rfl ?_
  refine Gr.nil ?_
  refine Gx.condF rfl ?_
  refine Gx.skip ?_
  refine Gx.seq ?_
  refine Gx.ops ?_
  refine Gr.cons (v := (.agg [.int .i64 (.ofNat 1), .str la])) (σ1 := _) rfl ?_
  refine Gr.cons (v := (.agg [.int .i64 (.ofNat 1), .str lb])) (σ1 := _) rfl ?_
  refine Gr.callF (Gc.code rfl rfl ?_)
  refine Gx.seq ?_
  refine Gx.ops ?_
  refine Gr.cons (v := (.ptr ⟨.d0, .d0, .d1, .d0, .d2⟩ 0)) (σ1 := _) rfl ?_
  refine Gr.cons (v := (.ptr ⟨.d0, .d0, .d1, .d0, .d3⟩ 0)) (σ1 := _) rfl ?_
  refine Gr.cons (v := (.ptr ⟨.d0, .d0, .d1, .d0, .d4⟩ 0)) (σ1 := _) rfl ?_
  refine Gr.cons (v := (.int .i64 (.ofNat 0))) (σ1 := _) rfl ?_
  refine Gr.nil ?_
  refine Gx.seq ?_
  refine Gx.seq ?_
  refine Gx.ops ?_
  refine Gr.cons (v := (.ptr ⟨.d0, .d0, .d1, .d0, .d2⟩ 0)) (σ1 := _) rfl ?_
  refine Gr.cons (v := (.int .i64 (.ofNat 1))) (σ1 := _) rfl ?_
  refine Gr.cons (v := (.ptr ⟨.d0, .d0, .d1, .d0, .d3⟩ 0)) (σ1 := _) rfl ?_
  refine Gr.cons (v := (.int .i64 (.ofNat 1))) (σ1 := _) rfl ?_
  refine Gr.cons (v := (.agg [.int .i64 (.ofNat 1), .int .i64 (.ofNat 1)])) (σ1 := _) rfl ?_
  refine Gr.nil ?_
  refine Gx.block ?_
  refine Gx.seq ?_
  refine Gx.ops ?_
  refine Gr.cons (v := (.agg [.int .i64 (.ofNat 3), .int .i64 (.ofNat 3)])) (σ1 := _) rfl ?_
  refine Gr.cons (v := (.bool false)) (σ1 := _) rfl ?_
  refine Gr.cons (v := (.bool false)) (σ1 := _) rfl ?_
  refine Gr.nil ?_
  refine Gx.condF rfl ?_
  refine Gx.seq ?_
  refine Gx.ops ?_
  refine Gr.cons (v := (.agg [.int .i64 (.ofNat 1), .int .i64 (.ofNat 1)])) (σ1 := _) rfl ?_
  refine Gr.cons (v := (.bool true)) (σ1 := _) rfl ?_
  refine Gr.cons (v := (.bool true)) (σ1 := _) rfl ?_
  refine Gr.nil ?_
  refine Gx.condT rfl ?_
  refine Gx.seq ?_
  refine Gx.ops ?_
  refine Gr.cons (v := (.ptr ⟨.d0, .d0, .d1, .d0, .d2⟩ 1)) (σ1 := _) rfl ?_
  refine Gr.cons (v := (.str la)) (σ1 := _) rfl ?_
  refine Gr.cons (v := (.ptr ⟨.d0, .d0, .d1, .d0, .d3⟩ 1)) (σ1 := _) rfl ?_
  refine Gr.cons (v := (.str lb)) (σ1 := _) rfl ?_
  refine Gr.binS (b := (not8 (seq8 la lb))) (b' := true) rfl (by rw [hab]; rfl) ?_
  refine Gr.nil ?_
  refine Gx.condT rfl ?_
  refine Gx.seq ?_
  refine Gx.ops ?_
  refine Gr.cons (v := (.agg [.int .i64 (.ofNat 2), .str []])) (σ1 := _) rfl ?_
  refine Gr.cons (v := uv) (σ1 := _) rfl ?_
  refine Gr.cons (v := (.int .i64 (.ofNat 0))) (σ1 := _) rfl ?_
  refine Gr.nil ?_
  refine Gx.ret ?_
  refine ⟨(.tup [.agg [.int .i64 (.ofNat 2), .str []], .int .i64 (.ofNat 0)]), rfl, ?_⟩
  refine Gr.cons (v := (.tup [.agg [.int .i64 (.ofNat 2), .str []], .int .i64 (.ofNat 0)])) (σ1 := _) rfl ?_
  refine Gr.cons (v := (.agg [.int .i64 (.ofNat 2), .str []])) (σ1 := _) rfl ?_
  refine Gr.cons (v := (.int .i64 (.ofNat 0))) (σ1 := _) rfl ?_
  refine Gr.cons (v := (.ptr ⟨.d0, .d0, .d1, .d0, .d5⟩ 0)) (σ1 := _) rfl ?_
  refine Gr.cons (v := uv) (σ1 := _) rfl ?_
  refine Gr.cons (v := (.int .i64 (.ofNat 0))) (σ1 := _) rfl ?_
  refine Gr.nil ?_
  refine Gx.seq ?_
  refine Gx.ops ?_
  refine Gr.cons (v := (.agg [.int .i64 (.ofNat 1), .str la])) (σ1 := _) rfl ?_
  refine Gr.cons (v := (.agg [.int .i64 (.ofNat 1), .str lb])) (σ1 := _) rfl ?_
  refine Gr.callF (Gc.code rfl rfl ?_)
  refine Gx.seq ?_
  refine Gx.ops ?_
  refine Gr.cons (v := (.ptr ⟨.d0, .d0, .d1, .d0, .d6⟩ 0)) (σ1 := _) rfl ?_
  refine Gr.cons (v := (.ptr ⟨.d0, .d0, .d1, .d0, .d7⟩ 0)) (σ1 := _) rfl ?_
  refine Gr.cons (v := (.ptr ⟨.d0, .d0, .d1, .d1, .d0⟩ 0)) (σ1 := _) rfl ?_
  refine Gr.cons (v := (.int .i64 (.ofNat 0))) (σ1 := _) rfl ?_
  refine Gr.nil ?_
  refine Gx.seq ?_
  refine Gx.block ?_
  refine Gx.seq ?_
  refine Gx.ops ?_
  refine Gr.cons (v := (.ptr ⟨.d0, .d0, .d1, .d0, .d6⟩ 0)) (σ1 := _) rfl ?_
  refine Gr.cons (v := (.int .i64 (.ofNat 1))) (σ1 := _) rfl ?_
  refine Gr.cons (v := (.bool false)) (σ1 := _) rfl ?_
  refine Gr.cons (v := (.bool false)) (σ1 := _) rfl ?_
  refine Gr.cons (v := uv) (σ1 := _) rfl ?_
  refine Gr.cons (v := uv) (σ1 := _) rfl ?_
  refine Gr.cons (v := uv) (σ1 := _) rfl ?_
  refine Gr.cons (v := (.bool false)) (σ1 := _) rfl ?_
  refine Gr.cons (v := (.bool false)) (σ1 := _) rfl ?_
  refine Gr.cons (v := uv) (σ1 := _) rfl ?_
  refine Gr.cons (v := uv) (σ1 := _) rfl ?_
  refine Gr.cons (v := uv) (σ1 := _) rfl ?_
  refine Gr.cons (v := uv) (σ1 := _) rfl ?_
  refine Gr.cons (v := uv) (σ1 := _) rfl ?_
  refine Gr.cons (v := (.bool false)) (σ1 := _) rfl ?_
  refine Gr.cons (v := (.bool false)) (σ1 := _) rfl ?_
  refine Gr.nil ?_
  refine Gx.condF rfl ?_
  refine Gx.seq ?_
  refine Gx.ops ?_
  refine Gr.cons (v := (.ptr ⟨.d0, .d0, .d1, .d0, .d6⟩ 0)) (σ1 := _) rfl ?_
  refine Gr.cons (v := (.int .i64 (.ofNat 1))) (σ1 := _) rfl ?_
  refine Gr.cons (v := (.ptr ⟨.d0, .d0, .d1, .d0, .d7⟩ 0)) (σ1 := _) rfl ?_
  refine Gr.cons (v := (.int .i64 (.ofNat 1))) (σ1 := _) rfl ?_
  refine Gr.cons (v := (.bool false)) (σ1 := _) rfl ?_
  refine Gr.cons (v := (.bool false)) (σ1 := _) rfl ?_
  refine Gr.nil ?_
  refine Gx.condF rfl ?_
  refine Gx.seq ?_
  refine Gx.ops ?_
  refine Gr.cons (v := (.ptr ⟨.d0, .d0, .d1, .d0, .d6⟩ 0)) (σ1 := _) rfl ?_
  refine Gr.cons (v := (.int .i64 (.ofNat 1))) (σ1 := _) rfl ?_
  refine Gr.cons (v := (.bool true)) (σ1 := _) rfl ?_
  refine Gr.cons (v := (.bool true)) (σ1 := _) rfl ?_
  refine Gr.cons (v := (.ptr ⟨.d0, .d0, .d1, .d0, .d6⟩ 1)) (σ1 := _) rfl ?_
  refine Gr.cons (v := (.str la)) (σ1 := _) rfl ?_
  refine Gr.cons (v := (.ptr ⟨.d0, .d0, .d1, .d0, .d7⟩ 1)) (σ1 := _) rfl ?_
  refine Gr.cons (v := (.str lb)) (σ1 := _) rfl ?_
  refine Gr.binS (b := (not8 (seq8 la lb))) (b' := true) rfl (by rw [hab]; rfl) ?_
  refine Gr.cons (v := (.bool true)) (σ1 := _) rfl ?_
  refine Gr.cons (v := (.bool true)) (σ1 := _) rfl ?_
  refine Gr.nil ?_
  refine Gx.condT rfl ?_
  refine Gx.seq ?_
  refine Gx.ops ?_
  refine Gr.cons (v := (.agg [.int .i64 (.ofNat 2), .str []])) (σ1 := _) rfl ?_
  refine Gr.cons (v := uv) (σ1 := _) rfl ?_
  refine Gr.cons (v := (.int .i64 (.ofNat 0))) (σ1 := _) rfl ?_
  refine Gr.nil ?_
  refine Gx.ret ?_
  refine ⟨(.tup [.agg [.int .i64 (.ofNat 2), .str []], .int .i64 (.ofNat 0)]), rfl, ?_⟩
  refine Gr.cons (v := (.tup [.agg [.int .i64 (.ofNat 2), .str []], .int .i64 (.ofNat 0)])) (σ1 := _) rfl ?_
  refine Gr.cons (v := (.agg [.int .i64 (.ofNat 2), .str []])) (σ1 := _) rfl ?_
  refine Gr.cons (v := (.int .i64 (.ofNat 0))) (σ1 := _) rfl ?_
  refine Gr.cons (v := (.ptr ⟨.d0, .d0, .d1, .d1, .d1⟩ 0)) (σ1 := _) rfl ?_
  refine Gr.cons (v := uv) (σ1 := _) rfl ?_
  refine Gr.cons (v := (.int .i64 (.ofNat 0))) (σ1 := _) rfl ?_
  refine Gr.nil ?_
  refine Gx.seq ?_
  refine Gx.ops ?_
  refine Gr.cons (v := (.agg [.int .i64 (.ofNat 2), .str []])) (σ1 := _) rfl ?_
  refine Gr.cons (v := (.agg [.int .i64 (.ofNat 2), .str []])) (σ1 := _) rfl ?_
  refine Gr.eqF rfl rfl ?_
  refine Gr.cons (v := (.bool true)) (σ1 := _) rfl ?_
  refine Gr.cons (v := (.int .i64 (.ofNat 0))) (σ1 := _) rfl ?_
  refine Gr.cons (v := (.int .i64 (.ofNat 0))) (σ1 := _) rfl ?_
  refine Gr.cons (v := (.bool true)) (σ1 := _) rfl ?_
  refine Gr.cons (v := (.bool true)) (σ1 := _) rfl ?_
  refine Gr.cons (v := (.bool true)) (σ1 := _) rfl ?_
  refine Gr.cons (v := (.bool true)) (σ1 := _) rfl ?_
  refine Gr.cons (v := (.bool true)) (σ1 := _) rfl ?_
  refine Gr.cons (v := (.bool true)) (σ1 := _) rfl ?_
  refine Gr.nil ?_
  refine Gx.ret ?_
  refine ⟨(.bool true), rfl, ?_⟩
  rfl
theorem c1s2g (la : List Nat) (hla : seq8 la la = true)  : Gc FA3 9 i4 [.agg [.int .i64 (.ofNat 1), .str la], .agg [.int .i64 (.ofNat 2), .str []]] σE fun v _ => v = .bool true := by
  refine Gc.code rfl rfl ?_
  refine Gx.seq ?_
  refine Gx.ops ?_
  refine Gr.cons (v := (.ptr ⟨.d0, .d0, .d1, .d0, .d0⟩ 0)) (σ1 := _) rfl ?_
  refine Gr.cons (v := (.ptr ⟨.d0, .d0, .d1, .d0, .d1⟩ 0)) (σ1 := _) rfl ?_
  refine Gr.cons (v := (.bool false)) (σ1 := _) rfl ?_
  refine Gr.nil ?_
  refine Gx.seq ?_
  refine Gx.seq ?_
  refine Gx.ops ?_
  refine Gr.cons (v := (.ptr ⟨.d0, .d0, .d1, .d0, .d0⟩ 0)) (σ1 := _) rfl ?_
  refine Gr.cons (v := (.int .i64 (.ofNat 1))) (σ1 := _) rfl ?_
  refine Gr.cons (v := (.bool false)) (σ1 := _) rfl ?_
  refine Gr.cons (v := (.bool false)) (σ1 := _) rfl ?_
  refine Gr.cons (v := (.ptr ⟨.d0, .d0, .d1, .d0, .d0⟩ 0)) (σ1 := _) rfl ?_
  refine Gr.cons (v := (.int .i64 (.ofNat 1))) (σ1 := _) rfl ?_
  refine Gr.cons (v := (.bool false)) (σ1 := _) rfl ?_
  refine Gr.cons (v := (.bool false)) (σ1 := _) rfl ?_
  refine Gr.cons (v := (.bool false)) (σ1 := _) rfl ?_
  refine Gr.cons (v := (.ptr ⟨.d0, .d0, .d1, .d0, .d1⟩ 0)) (σ1 := _) rfl ?_
  refine Gr.cons (v := (.int .i64 (.ofNat 2))) (σ1 := _) rfl ?_
  refine Gr.cons (v := (.bool false)) (σ1 := _) rfl ?_
  refine Gr.cons (v := (.bool false)) (σ1 := _) rfl ?_
  refine Gr.cons (v := (.bool false)) (σ1 := _) rfl ?_
  refine Gr.cons (v := (.ptr ⟨.d0, .d0, .d1, .d0, .d1⟩ 0)) (σ1 := _) rfl ?_
  refine Gr.cons (v := (.int .i64 (.ofNat 2))) (σ1 := _) rfl ?_
  refine Gr.cons (v := (.bool false)) (σ1 := _) rfl ?_
  refine Gr.cons (v := (.bool false)) (σ1 := _) rfl ?_
  refine Gr.cons (v := (.bool false)) (σ1 := _) rfl ?_
  refine Gr.cons (v := (.ptr ⟨.d0, .d0, .d1, .d0, .d0⟩ 0)) (σ1 := _) rfl ?_
  refine Gr.cons (v := (.int .i64 (.ofNat 1))) (σ1 := _) rfl ?_
  refine Gr.cons (v := (.bool false)) (σ1 := _) rfl ?_
  refine Gr.cons (v := (.bool false)) (σ1 := _) rfl ?_
  refine Gr.cons (v := uv) (σ1 := _) rfl ?_
  refine Gr.cons (v := uv) (σ1 := _) rfl ?_
  refine Gr.cons (v := uv) (σ1 := _) rfl ?_
  refine Gr.cons (v := (.bool false)) (σ1 := _) rfl ?_
  refine Gr.cons (v := (.bool false)) (σ1 := _) rfl ?_
  refine Gr.cons (v := (.bool false)) (σ1 := _) rfl ?_
  refine Gr.cons (v := (.ptr ⟨.d0, .d0, .d1, .d0, .d1⟩ 0)) (σ1 := _) rfl ?_
  refine Gr.cons (v := (.int .i64 (.ofNat 2))) (σ1 := _) rfl ?_
  refine Gr.cons (v := (.bool true)) (σ1 := _) rfl ?_
  refine Gr.cons (v := (.bool true)) (σ1 := _) rfl ?_
  refine Gr.cons (v := (.ptr ⟨.d0, .d0, .d1, .d0, .d1⟩ 1)) (σ1 := _) rfl ?_
  refine Gr.cons (v := (.str [])) (σ1 := _) rfl ?_
  refine Gr.cons (v := (.bool false)) (σ1 := _) rfl ?_
  refine Gr.cons (v := (.bool false)) (σ1 := _) rfl ?_
  refine Gr.cons (v := (.bool false)) (σ1 := _) rfl ?_
  refine Gr.cons (v := (.bool false)) (σ1 := _) rfl ?_
  refine Gr.cons (v := (.ptr ⟨.d0, .d0, .d1, .d0, .d0⟩ 0)) (σ1 := _) rfl ?_
  refine Gr.cons (v := (.int .i64 (.ofNat 1))) (σ1 := _) rfl ?_
  refine Gr.cons (v := (.bool false)) (σ1 := _) rfl ?_
  refine Gr.cons (v := (.bool false)) (σ1 := _) rfl ?_
  refine Gr.cons (v := uv) (σ1 := _) rfl ?_
  refine Gr.cons (v := uv) (σ1 := _) rfl ?_
  refine Gr.cons (v := uv) (σ1 := _) rfl ?_
  refine Gr.cons (v := (.bool false)) (σ1 := _) rfl ?_
  refine Gr.cons (v := (.bool false)) (σ1 := _) rfl ?_
  refine Gr.cons (v := (.bool false)) (σ1 := _) rfl ?_
  refine Gr.cons (v := (.ptr ⟨.d0, .d0, .d1, .d0, .d1⟩ 0)) (σ1 := _) rfl ?_
  refine Gr.cons (v := (.int .i64 (.ofNat 2))) (σ1 := _) rfl ?_
  refine Gr.cons (v := (.bool false)) (σ1 := _) rfl ?_
  refine Gr.cons (v := (.bool false)) (σ1 := _) rfl ?_
  refine Gr.cons (v := uv) (σ1 := _) rfl ?_
  refine Gr.cons (v := uv) (σ1 := _) rfl ?_
  refine Gr.cons (v := uv) (σ1 := _) rfl ?_
  refine Gr.cons (v := (.bool false)) (σ1 := _) rfl ?_
  refine Gr.cons (v := (.bool false)) (σ1 := _) rfl ?_
  refine Gr.nil ?_
  refine Gx.condF rfl ?_
  refine Gx.skip ?_
  refine Gx.seq ?_
  refine Gx.ops ?_
  refine Gr.cons (v := (.agg [.int .i64 (.ofNat 1), .str la])) (σ1 := _) rfl ?_
  refine Gr.cons (v := (.agg [.int .i64 (.ofNat 2), .str []])) (σ1 := _) rfl ?_
  refine Gr.callF (Gc.code rfl rfl ?_)
  refine Gx.seq ?_
  refine Gx.ops ?_
  refine Gr.cons (v := (.ptr ⟨.d0, .d0, .d1, .d0, .d2⟩ 0)) (σ1 := _) rfl ?_
  refine Gr.cons (v := (.ptr ⟨.d0, .d0, .d1, .d0, .d3⟩ 0)) (σ1 := _) rfl ?_
  refine Gr.cons (v := (.ptr ⟨.d0, .d0, .d1, .d0, .d4⟩ 0)) (σ1 := _) rfl ?_
  refine Gr.cons (v := (.int .i64 (.ofNat 0))) (σ1 := _) rfl ?_
  refine Gr.nil ?_
  refine Gx.seq ?_
  refine Gx.seq ?_
  refine Gx.ops ?_
  refine Gr.cons (v := (.ptr ⟨.d0, .d0, .d1, .d0, .d2⟩ 0)) (σ1 := _) rfl ?_
  refine Gr.cons (v := (.int .i64 (.ofNat 1))) (σ1 := _) rfl ?_
  refine Gr.cons (v := (.ptr ⟨.d0, .d0, .d1, .d0, .d3⟩ 0)) (σ1 := _) rfl ?_
  refine Gr.cons (v := (.int .i64 (.ofNat 2))) (σ1 := _) rfl ?_
  refine Gr.cons (v := (.agg [.int .i64 (.ofNat 1), .int .i64 (.ofNat 2)])) (σ1 := _) rfl ?_
  refine Gr.nil ?_
  refine Gx.block ?_
  refine Gx.seq ?_
  refine Gx.ops ?_
  refine Gr.cons (v := (.agg [.int .i64 (.ofNat 3), .int .i64 (.ofNat 3)])) (σ1 := _) rfl ?_
  refine Gr.cons (v := (.bool false)) (σ1 := _) rfl ?_
  refine Gr.cons (v := (.bool false)) (σ1 := _) rfl ?_
  refine Gr.nil ?_
  refine Gx.condF rfl ?_
  refine Gx.seq ?_
  refine Gx.ops ?_
  refine Gr.cons (v := (.agg [.int .i64 (.ofNat 1), .int .i64 (.ofNat 1)])) (σ1 := _) rfl ?_
  refine Gr.cons (v := (.bool false)) (σ1 := _) rfl ?_
  refine Gr.cons (v := (.bool false)) (σ1 := _) rfl ?_
  refine Gr.nil ?_
  refine Gx.condF rfl ?_
  refine Gx.skip ?_
  refine Gx.seq ?_
  refine Gx.seq ?_
  refine Gx.ops ?_
  refine Gr.cons (v := (.ptr ⟨.d0, .d0, .d1, .d0, .d3⟩ 0)) (σ1 := _) rfl ?_
  refine Gr.cons (v := (.int .i64 (.ofNat 2))) (σ1 := _) rfl ?_
  refine Gr.cons (v := (.ptr ⟨.d0, .d0, .d1, .d0, .d2⟩ 0)) (σ1 := _) rfl ?_
  refine Gr.cons (v := (.int .i64 (.ofNat 1))) (σ1 := _) rfl ?_
  refine Gr.cons (v := (.bool true)) (σ1 := _) rfl ?_
  refine Gr.nil ?_
  refine Gx.condT rfl ?_
  refine Gx.seq ?_
  refine Gx.ops ?_
  refine Gr.cons (v := (.agg [.int .i64 (.ofNat 2), .str []])) (σ1 := _) rfl ?_
  refine Gr.cons (v := uv) (σ1 := _) rfl ?_
  refine Gr.cons (v := (.int .i64 (.ofNat 0))) (σ1 := _) rfl ?_
  refine Gr.nil ?_
  refine Gx.ret ?_
  refine ⟨(.tup [.agg [.int .i64 (.ofNat 2), .str []], .int .i64 (.ofNat 0)]), rfl, ?_⟩
  refine Gr.cons (v := (.tup [.agg [.int .i64 (.ofNat 2), .str []], .int .i64 (.ofNat 0)])) (σ1 := _) rfl ?_
  refine Gr.cons (v := (.agg [.int .i64 (.ofNat 2), .str []])) (σ1 := _) rfl ?_
  refine Gr.cons (v := (.int .i64 (.ofNat 0))) (σ1 := _) rfl ?_
  refine Gr.cons (v := (.ptr ⟨.d0, .d0, .d1, .d0, .d5⟩ 0)) (σ1 := _) rfl ?_
  refine Gr.cons (v := uv) (σ1 := _) rfl ?_
  refine Gr.cons (v := (.int .i64 (.ofNat 0))) (σ1 := _) rfl ?_
  refine Gr.nil ?_
  refine Gx.seq ?_
  refine Gx.ops ?_
  refine Gr.cons (v := (.agg [.int .i64 (.ofNat 1), .str la])) (σ1 := _) rfl ?_
  refine Gr.cons (v := (.agg [.int .i64 (.ofNat 2), .str []])) (σ1 := _) rfl ?_
  refine Gr.callF (Gc.code rfl rfl ?_)
  refine Gx.seq ?_
  refine Gx.ops ?_
  refine Gr.cons (v := (.ptr ⟨.d0, .d0, .d1, .d0, .d6⟩ 0)) (σ1 := _) rfl ?_
  refine Gr.cons (v := (.ptr ⟨.d0, .d0, .d1, .d0, .d7⟩ 0)) (σ1 := _) rfl ?_
  refine Gr.cons (v := (.ptr ⟨.d0, .d0, .d1, .d1, .d0⟩ 0)) (σ1 := _) rfl ?_
  refine Gr.cons (v := (.int .i64 (.ofNat 0))) (σ1 := _) rfl ?_
  refine Gr.nil ?_
  refine Gx.seq ?_
  refine Gx.block ?_
  refine Gx.seq ?_
  refine Gx.ops ?_
  refine Gr.cons (v := (.ptr ⟨.d0, .d0, .d1, .d0, .d6⟩ 0)) (σ1 := _) rfl ?_
  refine Gr.cons (v := (.int .i64 (.ofNat 1))) (σ1 := _) rfl ?_
  refine Gr.cons (v := (.bool false)) (σ1 := _) rfl ?_
  refine Gr.cons (v := (.bool false)) (σ1 := _) rfl ?_
  refine Gr.cons (v := uv) (σ1 := _) rfl ?_
  refine Gr.cons (v := uv) (σ1 := _) rfl ?_
  refine Gr.cons (v := uv) (σ1 := _) rfl ?_
  refine Gr.cons (v := (.bool false)) (σ1 := _) rfl ?_
  refine Gr.cons (v := (.bool false)) (σ1 := _) rfl ?_
  refine Gr.cons (v := uv) (σ1 := _) rfl ?_
  refine Gr.cons (v := uv) (σ1 := _) rfl ?_
  refine Gr.cons (v := uv) (σ1 := _) rfl ?_
  refine Gr.cons (v := uv) (σ1 := _) rfl ?_
  refine Gr.cons (v := uv) (σ1 := _) rfl ?_
  refine Gr.cons (v := (.bool false)) (σ1 := _) rfl ?_
  refine Gr.cons (v := (.bool false)) (σ1 := _) rfl ?_
  refine Gr.nil ?_
  refine Gx.condF rfl ?_
  refine Gx.seq ?_
  refine Gx.ops ?_
  refine Gr.cons (v := (.ptr ⟨.d0, .d0, .d1, .d0, .d6⟩ 0)) (σ1 := _) rfl ?_
  refine Gr.cons (v := (.int .i64 (.ofNat 1))) (σ1 := _) rfl ?_
  refine Gr.cons (v := (.ptr ⟨.d0, .d0, .d1, .d0, .d7⟩ 0)) (σ1 := _) rfl ?_
  refine Gr.cons (v := (.int .i64 (.ofNat 2))) (σ1 := _) rfl ?_
  refine Gr.cons (v := (.bool true)) (σ1 := _) rfl ?_
  refine Gr.cons (v := (.bool true)) (σ1 := _) rfl ?_
  refine Gr.nil ?_
  refine Gx.condT rfl ?_
  refine Gx.seq ?_
  refine Gx.seq ?_
  refine Gx.ops ?_
  refine Gr.cons (v := (.ptr ⟨.d0, .d0, .d1, .d0, .d6⟩ 0)) (σ1 := _) rfl ?_
  refine Gr.cons (v := (.int .i64 (.ofNat 1))) (σ1 := _) rfl ?_
  refine Gr.cons (v := (.ptr ⟨.d0, .d0, .d1, .d0, .d7⟩ 0)) (σ1 := _) rfl ?_
  refine Gr.cons (v := (.int .i64 (.ofNat 2))) (σ1 := _) rfl ?_
  refine Gr.cons (v := (.bool false)) (σ1 := _) rfl ?_
  refine Gr.nil ?_
  refine Gx.condF rfl ?_
  refine Gx.skip ?_
  refine Gx.seq ?_
  refine Gx.ops ?_
  refine Gr.cons (v := (.agg [.int .i64 (.ofNat 2), .str []])) (σ1 := _) rfl ?_
  refine Gr.cons (v := uv) (σ1 := _) rfl ?_
  refine Gr.cons (v := (.int .i64 (.ofNat 0))) (σ1 := _) rfl ?_
  refine Gr.nil ?_
  refine Gx.ret ?_
  refine ⟨(.tup [.agg [.int .i64 (.ofNat 2), .str []], .int .i64 (.ofNat 0)]), rfl, ?_⟩
  refine Gr.cons (v := (.tup [.agg [.int .i64 (.ofNat 2), .str []], .int .i64 (.ofNat 0)])) (σ1 := _) rfl ?_
  refine Gr.cons (v := (.agg [.int .i64 (.ofNat 2), .str []])) (σ1 := _) rfl ?_
  refine Gr.cons (v := (.int .i64 (.ofNat 0))) (σ1 := _) rfl ?_
  refine Gr.cons (v := (.ptr ⟨.d0, .d0, .d1, .d1, .d1⟩ 0)) (σ1 := _) rfl ?_
  refine Gr.cons (v := uv) (σ1 := _) rfl ?_
  refine Gr.cons (v := (.int .i64 (.ofNat 0))) (σ1 := _) rfl ?_
  refine Gr.nil ?_
  refine Gx.seq ?_
  refine Gx.ops ?_
  refine Gr.cons (v := (.agg [.int .i64 (.ofNat 2), .str []])) (σ1 := _) rfl ?_
  refine Gr.cons (v := (.agg [.int .i64 (.ofNat 2), .str []])) (σ1 := _) rfl ?_
  refine Gr.eqF rfl rfl ?_
  refine Gr.cons (v := (.bool true)) (σ1 := _) rfl ?_
  refine Gr.cons (v := (.int .i64 (.ofNat 0))) (σ1 := _) rfl ?_
  refine Gr.cons (v := (.int .i64 (.ofNat 0))) (σ1 := _) rfl ?_
  refine Gr.cons (v := (.bool true)) (σ1 := _) rfl ?_
  refine Gr.cons (v := (.bool true)) (σ1 := _) rfl ?_
  refine Gr.cons (v := (.bool true)) (σ1 := _) rfl ?_
  refine Gr.cons (v := (.bool true)) (σ1 := _) rfl ?_
  refine Gr.cons (v := (.bool true)) (σ1 := _) rfl ?_
  refine Gr.cons (v := (.bool true)) (σ1 := _) rfl ?_
  refine Gr.nil ?_
  refine Gx.ret ?_
  refine ⟨(.bool true), rfl, ?_⟩
  rfl
theorem c1s2b (la : List Nat) (lb : List Nat) (hla : seq8 la la = true) (hlb : seq8 lb [] = false) : Gc FA3 9 i4 [.agg [.int .i64 (.ofNat 1), .str la], .agg [.int .i64 (.ofNat 2), .str lb]] σE fun v _ => v = .bool true := by
  refine Gc.code rfl rfl ?_
  refine Gx.seq ?_
  refine Gx.ops ?_
  refine Gr.cons (v := (.ptr ⟨.d0, .d0, .d1, .d0, .d0⟩ 0)) (σ1 := _) rfl ?_
  refine Gr.cons (v := (.ptr ⟨.d0, .d0, .d1, .d0, .d1⟩ 0)) (σ1 := _) rfl ?_
  refine Gr.cons (v := (.bool false)) (σ1 := _) rfl ?_
  refine Gr.nil ?_
  refine Gx.seq ?_
  refine Gx.seq ?_
  refine Gx.ops ?_
  refine Gr.cons (v := (.ptr ⟨.d0, .d0, .d1, .d0, .d0⟩ 0)) (σ1 := _) rfl ?_
  refine Gr.cons (v := (.int .i64 (.ofNat 1))) (σ1 := _) rfl ?_
  refine Gr.cons (v := (.bool false)) (σ1 := _) rfl ?_
  refine Gr.cons (v := (.bool false)) (σ1 := _) rfl ?_
  refine Gr.cons (v := (.ptr ⟨.d0, .d0, .d1, .d0, .d0⟩ 0)) (σ1 := _) rfl ?_
  refine Gr.cons (v := (.int .i64 (.ofNat 1))) (σ1 := _) rfl ?_
  refine Gr.cons (v := (.bool false)) (σ1 := _) rfl ?_
  refine Gr.cons (v := (.bool false)) (σ1 := _) rfl ?_
  refine Gr.cons (v := (.bool false)) (σ1 := _) rfl ?_
  refine Gr.cons (v := (.ptr ⟨.d0, .d0, .d1, .d0, .d1⟩ 0)) (σ1 := _) rfl ?_
  refine Gr.cons (v := (.int .i64 (.ofNat 2))) (σ1 := _) rfl ?_
  refine Gr.cons (v := (.bool false)) (σ1 := _) rfl ?_
  refine Gr.cons (v := (.bool false)) (σ1 := _) rfl ?_
  refine Gr.cons (v := (.bool false)) (σ1 := _) rfl ?_
  refine Gr.cons (v := (.ptr ⟨.d0, .d0, .d1, .d0, .d1⟩ 0)) (σ1 := _) rfl ?_
  refine Gr.cons (v := (.int .i64 (.ofNat 2))) (σ1 := _) rfl ?_
  refine Gr.cons (v := (.bool false)) (σ1 := _) rfl ?_
  refine Gr.cons (v := (.bool false)) (σ1 := _) rfl ?_
  refine Gr.cons (v := (.bool false)) (σ1 := _) rfl ?_
  refine Gr.cons (v := (.ptr ⟨.d0, .d0, .d1, .d0, .d0⟩ 0)) (σ1 := _) rfl ?_
  refine Gr.cons (v := (.int .i64 (.ofNat 1))) (σ1 := _) rfl ?_
  refine Gr.cons (v := (.bool false)) (σ1 := _) rfl ?_
  refine Gr.cons (v := (.bool false)) (σ1 := _) rfl ?_
  refine Gr.cons (v := uv) (σ1 := _) rfl ?_
  refine Gr.cons (v := uv) (σ1 := _) rfl ?_
  refine Gr.cons (v := uv) (σ1 := _) rfl ?_
  refine Gr.cons (v := (.bool false)) (σ1 := _) rfl ?_
  refine Gr.cons (v := (.bool false)) (σ1 := _) rfl ?_
  refine Gr.cons (v := (.bool false)) (σ1 := _) rfl ?_
  refine Gr.cons (v := (.ptr ⟨.d0, .d0, .d1, .d0, .d1⟩ 0)) (σ1 := _) rfl ?_
  refine Gr.cons (v := (.int .i64 (.ofNat 2))) (σ1 := _) rfl ?_
  refine Gr.cons (v := (.bool true)) (σ1 := _) rfl ?_
  refine Gr.cons (v := (.bool true)) (σ1 := _) rfl ?_
  refine Gr.cons (v := (.ptr ⟨.d0, .d0, .d1, .d0, .d1⟩ 1)) (σ1 := _) rfl ?_
  refine Gr.cons (v := (.str lb)) (σ1 := _) rfl ?_
  refine Gr.binS (b := (not8 (seq8 lb []))) (b' := true) rfl (by rw [hlb]; rfl) ?_
  refine Gr.cons (v := (.bool true)) (σ1 := _) rfl ?_
  refine Gr.cons (v := (.bool true)) (σ1 := _) rfl ?_
  refine Gr.cons (v := (.bool true)) (σ1 := _) rfl ?_
  refine Gr.cons (v := uv) (σ1 := _) rfl ?_
  refine Gr.cons (v := uv) (σ1 := _) rfl ?_
  refine Gr.cons (v := uv) (σ1 := _) rfl ?_
  refine Gr.cons (v := uv) (σ1 := _) rfl ?_
  refine Gr.cons (v := uv) (σ1 := _) rfl ?_
  refine Gr.cons (v := uv) (σ1 := _) rfl ?_
  refine Gr.cons (v := uv) (σ1 := _) rfl ?_
  refine Gr.cons (v := uv) (σ1 := _) rfl ?_
  refine Gr.cons (v := (.bool true)) (σ1 := _) rfl ?_
  refine Gr.cons (v := (.bool true)) (σ1 := _) rfl ?_
  refine Gr.cons (v := uv) (σ1 := _) rfl ?_
  refine Gr.cons (v := uv) (σ1 := _) rfl ?_
  refine Gr.cons (v := uv) (σ1 := _) rfl ?_
  refine Gr.cons (v := uv) (σ1 := _) rfl ?_
  refine Gr.cons (v := uv) (σ1 := _) rfl ?_
  refine Gr.cons (v := uv) (σ1 := _) rfl ?_
  refine Gr.cons (v := uv) (σ1 := _) rfl ?_
  refine Gr.cons (v := uv) (σ1 := _) rfl ?_
  refine Gr.cons (v := (.bool true)) (σ1 := _) rfl ?_
  refine Gr.nil ?_
  refine Gx.condT rfl ?_
  refine Gx.seq ?_
  refine Gx.ops ?_
  refine Gr.cons (v := (.bool true)) (σ1 := _) rfl ?_
  refine Gr.cons (v := (.bool true)) (σ1 := _) rfl ?_
  refine Gr.nil ?_
  refine Gx.ret ?_
  refine ⟨(.bool true), rfl, ?_⟩
  rfl
theorem c1s3s (la : List Nat) (lb : List Nat) (hla : seq8 la la = true) (hlb : seq8 lb lb = true) : Gc FA3 9 i4 [.agg [.int .i64 (.ofNat 1), .str la], .agg [.int .i64 (.ofNat 3), .str lb]] σE fun v _ => v = .bool true := by
  refine Gc.code rfl rfl ?_
  refine Gx.seq ?_
  refine Gx.ops ?_
  refine Gr.cons (v := (.ptr ⟨.d0, .d0, .d1, .d0, .d0⟩ 0)) (σ1 := _) rfl ?_
  refine Gr.cons (v := (.ptr ⟨.d0, .d0, .d1, .d0, .d1⟩ 0)) (σ1 := _) rfl ?_
  refine Gr.cons (v := (.bool false)) (σ1 := _) rfl ?_
  refine Gr.nil ?_
  refine Gx.seq ?_
  refine Gx.seq ?_
  refine Gx.ops ?_
  refine Gr.cons (v := (.ptr ⟨.d0, .d0, .d1, .d0, .d0⟩ 0)) (σ1 := _) rfl ?_
  refine Gr.cons (v := (.int .i64 (.ofNat 1))) (σ1 := _) rfl ?_
  refine Gr.cons (v := (.bool false)) (σ1 := _) rfl ?_
  refine Gr.cons (v := (.bool false)) (σ1 := _) rfl ?_
  refine Gr.cons (v := (.ptr ⟨.d0, .d0, .d1, .d0, .d0⟩ 0)) (σ1 := _) rfl ?_
  refine Gr.cons (v := (.int .i64 (.ofNat 1))) (σ1 := _) rfl ?_
  refine Gr.cons (v := (.bool false)) (σ1 := _) rfl ?_
  refine Gr.cons (v := (.bool false)) (σ1 := _) rfl ?_
  refine Gr.cons (v := (.bool false)) (σ1 := _) rfl ?_
  refine Gr.cons (v := (.ptr ⟨.d0, .d0, .d1, .d0, .d1⟩ 0)) (σ1 := _) rfl ?_
  refine Gr.cons (v := (.int .i64 (.ofNat 3))) (σ1 := _) rfl ?_
  refine Gr.cons (v := (.bool false)) (σ1 := _) rfl ?_
  refine Gr.cons (v := (.bool false)) (σ1 := _) rfl ?_
  refine Gr.cons (v := (.bool false)) (σ1 := _) rfl ?_
  refine Gr.cons (v := (.ptr ⟨.d0, .d0, .d1, .d0, .d1⟩ 0)) (σ1 := _) rfl ?_
  refine Gr.cons (v := (.int .i64 (.ofNat 3))) (σ1 := _) rfl ?_
  refine Gr.cons (v := (.bool false)) (σ1 := _) rfl ?_
  refine Gr.cons (v := (.bool false)) (σ1 := _) rfl ?_
  refine Gr.cons (v := (.bool false)) (σ1 := _) rfl ?_
  refine Gr.cons (v := (.ptr ⟨.d0, .d0, .d1, .d0, .d0⟩ 0)) (σ1 := _) rfl ?_
  refine Gr.cons (v := (.int .i64 (.ofNat 1))) (σ1 := _) rfl ?_
  refine Gr.cons (v := (.bool false)) (σ1 := _) rfl ?_
  refine Gr.cons (v := (.bool false)) (σ1 := _) rfl ?_
  refine Gr.cons (v := uv) (σ1 := _) rfl ?_
  refine Gr.cons (v := uv) (σ1 := _) rfl ?_
  refine Gr.cons (v := uv) (σ1 := _) rfl ?_
  refine Gr.cons (v := (.bool false)) (σ1 := _) rfl ?_
  refine Gr.cons (v := (.bool false)) (σ1 := _) rfl ?_
  refine Gr.cons (v := (.bool false)) (σ1 := _) rfl ?_
  refine Gr.cons (v := (.ptr ⟨.d0, .d0, .d1, .d0, .d1⟩ 0)) (σ1 := _) rfl ?_
  refine Gr.cons (v := (.int .i64 (.ofNat 3))) (σ1 := _) rfl ?_
  refine Gr.cons (v := (.bool false)) (σ1 := _) rfl ?_
  refine Gr.cons (v := (.bool false)) (σ1 := _) rfl ?_
  refine Gr.cons (v := uv) (σ1 := _) rfl ?_
  refine Gr.cons (v := uv) (σ1 := _) rfl ?_
  refine Gr.cons (v := uv) (σ1 := _) rfl ?_
  refine Gr.cons (v := (.bool false)) (σ1 := _) rfl ?_
  refine Gr.cons (v := (.bool false)) (σ1 := _) rfl ?_
  refine Gr.cons (v := (.bool false)) (σ1 := _) rfl ?_
  refine Gr.cons (v := (.ptr ⟨.d0, .d0, .d1, .d0, .d0⟩ 0)) (σ1 := _) rfl ?_
  refine Gr.cons (v := (.int .i64 (.ofNat 1))) (σ1 := _) rfl ?_
  refine Gr.cons (v := (.bool false)) (σ1 := _) rfl ?_
  refine Gr.cons (v := (.bool false)) (σ1 := _) rfl ?_
  refine Gr.cons (v := uv) (σ1 := _) rfl ?_
  refine Gr.cons (v := uv) (σ1 := _) rfl ?_
  refine Gr.cons (v := uv) (σ1 := _) rfl ?_
  refine Gr.cons (v := (.bool false)) (σ1 := _) rfl ?_
  refine Gr.cons (v := (.bool false)) (σ1 := _) rfl ?_
  refine Gr.cons (v := (.bool false)) (σ1 := _) rfl ?_
  refine Gr.cons (v := (.ptr ⟨.d0, .d0, .d1, .d0, .d1⟩ 0)) (σ1 := _) rfl ?_
  refine Gr.cons (v := (.int .i64 (.ofNat 3))) (σ1 := _) rfl ?_
  refine Gr.cons (v := (.bool false)) (σ1 := _) rfl ?_
  refine Gr.cons (v := (.bool false)) (σ1 := _) rfl ?_
  refine Gr.cons (v := uv) (σ1 := _) rfl ?_
  refine Gr.cons (v := uv) (σ1 := _) rfl ?_
  refine Gr.cons (v := uv) (σ1 := _) rfl ?_
  refine Gr.cons (v := (.bool false)) (σ1 := _) rfl ?_
  refine Gr.cons (v := (.bool false)) (σ1 := _) rfl ?_
  refine Gr.nil ?_
  refine Gx.condF rfl ?_
  refine Gx.skip ?_
  refine Gx.seq ?_
  refine Gx.ops ?_
  refine Gr.cons (v := (.agg [.int .i64 (.ofNat 1), .str la])) (σ1 := _) rfl ?_
  refine Gr.cons (v := (.agg [.int .i64 (.ofNat 3), .str lb])) (σ1 := _) rfl ?_
  refine Gr.callF (Gc.code rfl rfl ?_)
  refine Gx.seq ?_
  refine Gx.ops ?_
  refine Gr.cons (v := (.ptr ⟨.d0, .d0, .d1, .d0, .d2⟩ 0)) (σ1 := _) rfl ?_
  refine Gr.cons (v := (.ptr ⟨.d0, .d0, .d1, .d0, .d3⟩ 0)) (σ1 := _) rfl ?_
  refine Gr.cons (v := (.ptr ⟨.d0, .d0, .d1, .d0, .d4⟩ 0)) (σ1 := _) rfl ?_
  refine Gr.cons (v := (.int .i64 (.ofNat 0))) (σ1 := _) rfl ?_
  refine Gr.nil ?_
  refine Gx.seq ?_
  refine Gx.seq ?_
  refine Gx.ops ?_
  refine Gr.cons (v := (.ptr ⟨.d0, .d0, .d1, .d0, .d2⟩ 0)) (σ1 := _) rfl ?_
  refine Gr.cons (v := (.int .i64 (.ofNat 1))) (σ1 := _) rfl ?_
  refine Gr.cons (v := (.ptr ⟨.d0, .d0, .d1, .d0, .d3⟩ 0)) (σ1 := _) rfl ?_
  refine Gr.cons (v := (.int .i64 (.ofNat 3))) (σ1 := _) rfl ?_
  refine Gr.cons (v := (.agg [.int .i64 (.ofNat 1), .int .i64 (.ofNat 3)])) (σ1 := _) rfl ?_
  refine Gr.nil ?_
  refine Gx.block ?_
  refine Gx.seq ?_
  refine Gx.ops ?_
  refine Gr.cons (v := (.agg [.int .i64 (.ofNat 3), .int .i64 (.ofNat 3)])) (σ1 := _) rfl ?_
  refine Gr.cons (v := (.bool false)) (σ1 := _) rfl ?_
  refine Gr.cons (v := (.bool false)) (σ1 := _) rfl ?_
  refine Gr.nil ?_
  refine Gx.condF rfl ?_
  refine Gx.seq ?_
  refine Gx.ops ?_
  refine Gr.cons (v := (.agg [.int .i64 (.ofNat 1), .int .i64 (.ofNat 1)])) (σ1 := _) rfl ?_
  refine Gr.cons (v := (.bool false)) (σ1 := _) rfl ?_
  refine Gr.cons (v := (.bool false)) (σ1 := _) rfl ?_
  refine Gr.nil ?_
  refine Gx.condF rfl ?_
  refine Gx.skip ?_
  refine Gx.seq ?_
  refine Gx.seq ?_
  refine Gx.ops ?_
  refine Gr.cons (v := (.ptr ⟨.d0, .d0, .d1, .d0, .d3⟩ 0)) (σ1 := _) rfl ?_
  refine Gr.cons (v := (.int .i64 (.ofNat 3))) (σ1 := _) rfl ?_
  refine Gr.cons (v := (.ptr ⟨.d0, .d0, .d1, .d0, .d2⟩ 0)) (σ1 := _) rfl ?_
  refine Gr.cons (v := (.int .i64 (.ofNat 1))) (σ1 := _) rfl ?_
  refine Gr.cons (v := (.bool true)) (σ1 := _) rfl ?_
  refine Gr.nil ?_
  refine Gx.condT rfl ?_
  refine Gx.seq ?_
  refine Gx.ops ?_
  refine Gr.cons (v := (.agg [.int .i64 (.ofNat 3), .str lb])) (σ1 := _) rfl ?_
  refine Gr.cons (v := uv) (σ1 := _) rfl ?_
  refine Gr.cons (v := (.int .i64 (.ofNat 0))) (σ1 := _) rfl ?_
  refine Gr.nil ?_
  refine Gx.ret ?_
  refine ⟨(.tup [.agg [.int .i64 (.ofNat 3), .str lb], .int .i64 (.ofNat 0)]), rfl, ?_⟩
  refine Gr.cons (v := (.tup [.agg [.int .i64 (.ofNat 3), .str lb], .int .i64 (.ofNat 0)])) (σ1 := _) rfl ?_
  refine Gr.cons (v := (.agg [.int .i64 (.ofNat 3), .str lb])) (σ1 := _) rfl ?_
  refine Gr.cons (v := (.int .i64 (.ofNat 0))) (σ1 := _) rfl ?_
  refine Gr.cons (v := (.ptr ⟨.d0, .d0, .d1, .d0, .d5⟩ 0)) (σ1 := _) rfl ?_
  refine Gr.cons (v := uv) (σ1 := _) rfl ?_
  refine Gr.cons (v := (.int .i64 (.ofNat 0))) (σ1 := _) rfl ?_
  refine Gr.nil ?_
  refine Gx.seq ?_
  refine Gx.ops ?_
  refine Gr.cons (v := (.agg [.int .i64 (.ofNat 1), .str la])) (σ1 := _) rfl ?_
  refine Gr.cons (v := (.agg [.int .i64 (.ofNat 3), .str lb])) (σ1 := _) rfl ?_
  refine Gr.callF (Gc.code rfl rfl ?_)
  refine Gx.seq ?_
  refine Gx.ops ?_
  refine Gr.cons (v := (.ptr ⟨.d0, .d0, .d1, .d0, .d6⟩ 0)) (σ1 := _) rfl ?_
  refine Gr.cons (v := (.ptr ⟨.d0, .d0, .d1, .d0, .d7⟩ 0)) (σ1 := _) rfl ?_
  refine Gr.cons (v := (.ptr ⟨.d0, .d0, .d1, .d1, .d0⟩ 0)) (σ1 := _) rfl ?_
  refine Gr.cons (v := (.int .i64 (.ofNat 0))) (σ1 := _) rfl ?_
  refine Gr.nil ?_
  refine Gx.seq ?_
  refine Gx.block ?_
  refine Gx.seq ?_
  refine Gx.ops ?_
  refine Gr.cons (v := (.ptr ⟨.d0, .d0, .d1, .d0, .d6⟩ 0)) (σ1 := _) rfl ?_
  refine Gr.cons (v := (.int .i64 (.ofNat 1))) (σ1 := _) rfl ?_
  refine Gr.cons (v := (.bool false)) (σ1 := _) rfl ?_
  refine Gr.cons (v := (.bool false)) (σ1 := _) rfl ?_
  refine Gr.cons (v := uv) (σ1 := _) rfl ?_
  refine Gr.cons (v := uv) (σ1 := _) rfl ?_
  refine Gr.cons (v := uv) (σ1 := _) rfl ?_
  refine Gr.cons (v := (.bool false)) (σ1 := _) rfl ?_
  refine Gr.cons (v := (.bool false)) (σ1 := _) rfl ?_
  refine Gr.cons (v := uv) (σ1 := _) rfl ?_
  refine Gr.cons (v := uv) (σ1 := _) rfl ?_
  refine Gr.cons (v := uv) (σ1 := _) rfl ?_
  refine Gr.cons (v := uv) (σ1 := _) rfl ?_
  refine Gr.cons (v := uv) (σ1 := _) rfl ?_
  refine Gr.cons (v := (.bool false)) (σ1 := _) rfl ?_
  refine Gr.cons (v := (.bool false)) (σ1 := _) rfl ?_
  refine Gr.nil ?_
  refine Gx.condF rfl ?_
  refine Gx.seq ?_
  refine Gx.ops ?_
  refine Gr.cons (v := (.ptr ⟨.d0, .d0, .d1, .d0, .d6⟩ 0)) (σ1 := _) rfl ?_
  refine Gr.cons (v := (.int .i64 (.ofNat 1))) (σ1 := _) rfl ?_
  refine Gr.cons (v := (.ptr ⟨.d0, .d0, .d1, .d0, .d7⟩ 0)) (σ1 := _) rfl ?_
  refine Gr.cons (v := (.int .i64 (.ofNat 3))) (σ1 := _) rfl ?_
  refine Gr.cons (v := (.bool true)) (σ1 := _) rfl ?_
  refine Gr.cons (v := (.bool true)) (σ1 := _) rfl ?_
  refine Gr.nil ?_
  refine Gx.condT rfl ?_
  refine Gx.seq ?_
  refine Gx.seq ?_
  refine Gx.ops ?_
  refine Gr.cons (v := (.ptr ⟨.d0, .d0, .d1, .d0, .d6⟩ 0)) (σ1 := _) rfl ?_
  refine Gr.cons (v := (.int .i64 (.ofNat 1))) (σ1 := _) rfl ?_
  refine Gr.cons (v := (.ptr ⟨.d0, .d0, .d1, .d0, .d7⟩ 0)) (σ1 := _) rfl ?_
  refine Gr.cons (v := (.int .i64 (.ofNat 3))) (σ1 := _) rfl ?_
  refine Gr.cons (v := (.bool false)) (σ1 := _) rfl ?_
  refine Gr.nil ?_
  refine Gx.condF rfl ?_
  refine Gx.skip ?_
  refine Gx.seq ?_
  refine Gx.ops ?_
  refine Gr.cons (v := (.agg [.int .i64 (.ofNat 3), .str lb])) (σ1 := _) rfl ?_
  refine Gr.cons (v := uv) (σ1 := _) rfl ?_
  refine Gr.cons (v := (.int .i64 (.ofNat 0))) (σ1 := _) rfl ?_
  refine Gr.nil ?_
  refine Gx.ret ?_
  refine ⟨(.tup [.agg [.int .i64 (.ofNat 3), .str lb], .int .i64 (.ofNat 0)]), rfl, ?_⟩
  refine Gr.cons (v := (.tup [.agg [.int .i64 (.ofNat 3), .str lb], .int .i64 (.ofNat 0)])) (σ1 := _) rfl ?_
  refine Gr.cons (v := (.agg [.int .i64 (.ofNat 3), .str lb])) (σ1 := _) rfl ?_
  refine Gr.cons (v := (.int .i64 (.ofNat 0))) (σ1 := _) rfl ?_
  refine Gr.cons (v := (.ptr ⟨.d0, .d0, .d1, .d1, .d1⟩ 0)) (σ1 := _) rfl ?_
  refine Gr.cons (v := uv) (σ1 := _) rfl ?_
  refine Gr.cons (v := (.int .i64 (.ofNat 0))) (σ1 := _) rfl ?_
  refine Gr.nil ?_
  refine Gx.seq ?_
  refine Gx.ops ?_
  refine Gr.cons (v := (.agg [.int .i64 (.ofNat 3), .str lb])) (σ1 := _) rfl ?_
  refine Gr.cons (v := (.agg [.int .i64 (.ofNat 3), .str lb])) (σ1 := _) rfl ?_
  refine Gr.eqF rfl rfl ?_
  rw [hlb]
  refine Gr.cons (v := (.bool true)) (σ1 := _) rfl ?_
  refine Gr.cons (v := (.int .i64 (.ofNat 0))) (σ1 := _) rfl ?_
  refine Gr.cons (v := (.int .i64 (.ofNat 0))) (σ1 := _) rfl ?_
  refine Gr.cons (v := (.bool true)) (σ1 := _) rfl ?_
  refine Gr.cons (v := (.bool true)) (σ1 := _) rfl ?_
  refine Gr.cons (v := (.bool true)) (σ1 := _) rfl ?_
  refine Gr.cons (v := (.bool true)) (σ1 := _) rfl ?_
  refine Gr.cons (v := (.bool true)) (σ1 := _) rfl ?_
  refine Gr.cons (v := (.bool true)) (σ1 := _) rfl ?_
  refine Gr.nil ?_
  refine Gx.ret ?_
  refine ⟨(.bool true), rfl, ?_⟩
  rfl
theorem c2g0g    : Gc FA3 9 i4 [.agg [.int .i64 (.ofNat 2), .str []], .agg [.int .i64 (.ofNat 0), .str [98, 105, 110, 97, 114, 121]]] σE fun v _ => v = .bool true := by
  refine Gc.code rfl rfl ?_
  refine Gx.seq ?_
  refine Gx.ops ?_
  refine Gr.cons (v := (.ptr ⟨.d0, .d0, .d1, .d0, .d0⟩ 0)) (σ1 := _) rfl ?_
  refine Gr.cons (v := (.ptr ⟨.d0, .d0, .d1, .d0, .d1⟩ 0)) (σ1 := _) rfl ?_
  refine Gr.cons (v := (.bool false)) (σ1 := _) rfl ?_
  refine Gr.nil ?_
  refine Gx.seq ?_
  refine Gx.seq ?_
  refine Gx.ops ?_
  refine Gr.cons (v := (.ptr ⟨.d0, .d0, .d1, .d0, .d0⟩ 0)) (σ1 := _) rfl ?_
  refine Gr.cons (v := (.int .i64 (.ofNat 2))) (σ1 := _) rfl ?_
  refine Gr.cons (v := (.bool false)) (σ1 := _) rfl ?_
  refine Gr.cons (v := (.bool false)) (σ1 := _) rfl ?_
  refine Gr.cons (v := (.ptr ⟨.d0, .d0, .d1, .d0, .d0⟩ 0)) (σ1 := _) rfl ?_
  refine Gr.cons (v := (.int .i64 (.ofNat 2))) (σ1 := _) rfl ?_
  refine Gr.cons (v := (.bool false)) (σ1 := _) rfl ?_
  refine Gr.cons (v := (.bool false)) (σ1 := _) rfl ?_
  refine Gr.cons (v := (.bool false)) (σ1 := _) rfl ?_
  refine Gr.cons (v := (.ptr ⟨.d0, .d0, .d1, .d0, .d1⟩ 0)) (σ1 := _) rfl ?_
  refine Gr.cons (v := (.int .i64 (.ofNat 0))) (σ1 := _) rfl ?_
  refine Gr.cons (v := (.bool false)) (σ1 := _) rfl ?_
  refine Gr.cons (v := (.bool false)) (σ1 := _) rfl ?_
  refine Gr.cons (v := (.bool false)) (σ1 := _) rfl ?_
  refine Gr.cons (v := (.ptr ⟨.d0, .d0, .d1, .d0, .d1⟩ 0)) (σ1 := _) rfl ?_
  refine Gr.cons (v := (.int .i64 (.ofNat 0))) (σ1 := _) rfl ?_
  refine Gr.cons (v := (.bool false)) (σ1 := _) rfl ?_
  refine Gr.cons (v := (.bool false)) (σ1 := _) rfl ?_
  refine Gr.cons (v := (.bool false)) (σ1 := _) rfl ?_
  refine Gr.cons (v := (.ptr ⟨.d0, .d0, .d1, .d0, .d0⟩ 0)) (σ1 := _) rfl ?_
  refine Gr.cons (v := (.int .i64 (.ofNat 2))) (σ1 := _) rfl ?_
  refine Gr.cons (v := (.bool true)) (σ1 := _) rfl ?_
  refine Gr.cons (v := (.bool true)) (σ1 := _) rfl ?_
  refine Gr.cons (v := (.ptr ⟨.d0, .d0, .d1, .d0, .d0⟩ 1)) (σ1 := _) rfl ?_
  refine Gr.cons (v := (.str [])) (σ1 := _) rfl ?_
  refine Gr.cons (v := (.bool false)) (σ1 := _) rfl ?_
  refine Gr.cons (v := (.bool false)) (σ1 := _) rfl ?_
  refine Gr.cons (v := (.bool false)) (σ1 := _) rfl ?_
  refine Gr.cons (v := (.bool false)) (σ1 := _) rfl ?_
  refine Gr.cons (v := (.ptr ⟨.d0, .d0, .d1, .d0, .d1⟩ 0)) (σ1 := _) rfl ?_
  refine Gr.cons (v := (.int .i64 (.ofNat 0))) (σ1 := _) rfl ?_
  refine Gr.cons (v := (.bool false)) (σ1 := _) rfl ?_
  refine Gr.cons (v := (.bool false)) (σ1 := _) rfl ?_
  refine Gr.cons (v := uv) (σ1 := _) rfl ?_
  refine Gr.cons (v := uv) (σ1 := _) rfl ?_
  refine Gr.cons (v := uv) (σ1 := _) rfl ?_
  refine Gr.cons (v := (.bool false)) (σ1 := _) rfl ?_
  refine Gr.cons (v := (.bool false)) (σ1 := _) rfl ?_
  refine Gr.cons (v := (.bool false)) (σ1 := _) rfl ?_
  refine Gr.cons (v := (.ptr ⟨.d0, .d0, .d1, .d0, .d0⟩ 0)) (σ1 := _) rfl ?_
  refine Gr.cons (v := (.int .i64 (.ofNat 2))) (σ1 := _) rfl ?_
  refine Gr.cons (v := (.bool false)) (σ1 := _) rfl ?_
  refine Gr.cons (v := (.bool false)) (σ1 := _) rfl ?_
  refine Gr.cons (v := uv) (σ1 := _) rfl ?_
  refine Gr.cons (v := uv) (σ1 := _) rfl ?_
  refine Gr.cons (v := uv) (σ1 := _) rfl ?_
  refine Gr.cons (v := (.bool false)) (σ1 := _) rfl ?_
  refine Gr.cons (v := (.bool false)) (σ1 := _) rfl ?_
  refine Gr.cons (v := (.bool false)) (σ1 := _) rfl ?_
  refine Gr.cons (v := (.ptr ⟨.d0, .d0, .d1, .d0, .d1⟩ 0)) (σ1 := _) rfl ?_
  refine Gr.cons (v := (.int .i64 (.ofNat 0))) (σ1 := _) rfl ?_
  refine Gr.cons (v := (.bool true)) (σ1 := _) rfl ?_
  refine Gr.cons (v := (.bool true)) (σ1 := _) rfl ?_
  refine Gr.cons (v := (.ptr ⟨.d0, .d0, .d1, .d0, .d1⟩ 1)) (σ1 := _) rfl ?_
  refine Gr.cons (v := (.str [98, 105, 110, 97, 114, 121])) (σ1 := _) rfl ?_
  refine Gr.cons (v := (.bool false)) (σ1 := _) rfl ?_
  refine Gr.cons (v := (.bool false)) (σ1 := _) rfl ?_
  refine Gr.cons (v := (.bool false)) (σ1 := _) rfl ?_
  refine Gr.nil ?_
  refine Gx.condF rfl ?_
  refine Gx.skip ?_
  refine Gx.seq ?_
  refine Gx.ops ?_
  refine Gr.cons (v := (.agg [.int .i64 (.ofNat 2), .str []])) (σ1 := _) rfl ?_
  refine Gr.cons (v := (.agg [.int .i64 (.ofNat 0), .str [98, 105, 110, 97, 114, 121]])) (σ1 := _) rfl ?_
  refine Gr.callF (Gc.code rfl rfl ?_)
  refine Gx.seq ?_
  refine Gx.ops ?_
  refine Gr.cons (v := (.ptr ⟨.d0, .d0, .d1, .d0, .d2⟩ 0)) (σ1 := _) rfl ?_
  refine Gr.cons (v := (.ptr ⟨.d0, .d0, .d1, .d0, .d3⟩ 0)) (σ1 := _) rfl ?_
  refine Gr.cons (v := (.ptr ⟨.d0, .d0, .d1, .d0, .d4⟩ 0)) (σ1 := _) rfl ?_
  refine Gr.cons (v := (.int .i64 (.ofNat 0))) (σ1 := _) rfl ?_
  refine Gr.nil ?_
  refine Gx.seq ?_
  refine Gx.seq ?_
  refine Gx.ops ?_
  refine Gr.cons (v := (.ptr ⟨.d0, .d0, .d1, .d0, .d2⟩ 0)) (σ1 := _) rfl ?_
  refine Gr.cons (v := (.int .i64 (.ofNat 2))) (σ1 := _) rfl ?_
  refine Gr.cons (v := (.ptr ⟨.d0, .d0, .d1, .d0, .d3⟩ 0)) (σ1 := _) rfl ?_
  refine Gr.cons (v := (.int .i64 (.ofNat 0))) (σ1 := _) rfl ?_
  refine Gr.cons (v := (.agg [.int .i64 (.ofNat 2), .int .i64 (.ofNat 0)])) (σ1 := _) rfl ?_
  refine Gr.nil ?_
  refine Gx.block ?_
  refine Gx.seq ?_
  refine Gx.ops ?_
  refine Gr.cons (v := (.agg [.int .i64 (.ofNat 3), .int .i64 (.ofNat 3)])) (σ1 := _) rfl ?_
  refine Gr.cons (v := (.bool false)) (σ1 := _) rfl ?_
  refine Gr.cons (v := (.bool false)) (σ1 := _) rfl ?_
  refine Gr.nil ?_
  refine Gx.condF rfl ?_
  refine Gx.seq ?_
  refine Gx.ops ?_
  refine Gr.cons (v := (.agg [.int .i64 (.ofNat 1), .int .i64 (.ofNat 1)])) (σ1 := _) rfl ?_
  refine Gr.cons (v := (.bool false)) (σ1 := _) rfl ?_
  refine Gr.cons (v := (.bool false)) (σ1 := _) rfl ?_
  refine Gr.nil ?_
  refine Gx.condF rfl ?_
  refine Gx.skip ?_
  refine Gx.seq ?_
  refine Gx.seq ?_
  refine Gx.ops ?_
  refine Gr.cons (v := (.ptr ⟨.d0, .d0, .d1, .d0, .d3⟩ 0)) (σ1 := _) rfl ?_
  refine Gr.cons (v := (.int .i64 (.ofNat 0))) (σ1 := _) rfl ?_
  refine Gr.cons (v := (.ptr ⟨.d0, .d0, .d1, .d0, .d2⟩ 0)) (σ1 := _) rfl ?_
  refine Gr.cons (v := (.int .i64 (.ofNat 2))) (σ1 := _) rfl ?_
  refine Gr.cons (v := (.bool false)) (σ1 := _) rfl ?_
  refine Gr.nil ?_
  refine Gx.condF rfl ?_
  refine Gx.skip ?_
  refine Gx.seq ?_
  refine Gx.ops ?_
  refine Gr.cons (v := (.agg [.int .i64 (.ofNat 2), .str []])) (σ1 := _) rfl ?_
  refine Gr.cons (v := uv) (σ1 := _) rfl ?_
  refine Gr.cons (v := (.int .i64 (.ofNat 0))) (σ1 := _) rfl ?_
  refine Gr.nil ?_
  refine Gx.ret ?_
  refine ⟨(.tup [.agg [.int .i64 (.ofNat 2), .str []], .int .i64 (.ofNat 0)]), rfl, ?_⟩
  refine Gr.cons (v := (.tup [.agg [.int .i64 (.ofNat 2), .str []], .int .i64 (.ofNat 0)])) (σ1 := _) rfl ?_
  refine Gr.cons (v := (.agg [.int .i64 (.ofNat 2), .str []])) (σ1 := _) rfl ?_
  refine Gr.cons (v := (.int .i64 (.ofNat 0))) (σ1 := _) rfl ?_
  refine Gr.cons (v := (.ptr ⟨.d0, .d0, .d1, .d0, .d5⟩ 0)) (σ1 := _) rfl ?_
  refine Gr.cons (v := uv) (σ1 := _) rfl ?_
  refine Gr.cons (v := (.int .i64 (.ofNat 0))) (σ1 := _) rfl ?_
  refine Gr.nil ?_
  refine Gx.seq ?_
  refine Gx.ops ?_
  refine Gr.cons (v := (.agg [.int .i64 (.ofNat 2), .str []])) (σ1 := _) rfl ?_
  refine Gr.cons (v := (.agg [.int .i64 (.ofNat 0), .str [98, 105, 110, 97, 114, 121]])) (σ1 := _) rfl ?_
  refine Gr.callF (Gc.code rfl rfl ?_)
  refine Gx.seq ?_
  refine Gx.ops ?_
  refine Gr.cons (v := (.ptr ⟨.d0, .d0, .d1, .d0, .d6⟩ 0)) (σ1 := _) rfl ?_
  refine Gr.cons (v := (.ptr ⟨.d0, .d0, .d1, .d0, .d7⟩ 0)) (σ1 := _) rfl ?_
  refine Gr.cons (v := (.ptr ⟨.d0, .d0, .d1, .d1, .d0⟩ 0)) (σ1 := _) rfl ?_
  refine Gr.cons (v := (.int .i64 (.ofNat 0))) (σ1 := _) rfl ?_
  refine Gr.nil ?_
  refine Gx.seq ?_
  refine Gx.block ?_
  refine Gx.seq ?_
  refine Gx.ops ?_
  refine Gr.cons (v := (.ptr ⟨.d0, .d0, .d1, .d0, .d6⟩ 0)) (σ1 := _) rfl ?_
  refine Gr.cons (v := (.int .i64 (.ofNat 2))) (σ1 := _) rfl ?_
  refine Gr.cons (v := (.bool false)) (σ1 := _) rfl ?_
  refine Gr.cons (v := (.bool false)) (σ1 := _) rfl ?_
  refine Gr.cons (v := uv) (σ1 := _) rfl ?_
  refine Gr.cons (v := uv) (σ1 := _) rfl ?_
  refine Gr.cons (v := uv) (σ1 := _) rfl ?_
  refine Gr.cons (v := (.bool false)) (σ1 := _) rfl ?_
  refine Gr.cons (v := (.bool false)) (σ1 := _) rfl ?_
  refine Gr.cons (v := uv) (σ1 := _) rfl ?_
  refine Gr.cons (v := uv) (σ1 := _) rfl ?_
  refine Gr.cons (v := uv) (σ1 := _) rfl ?_
  refine Gr.cons (v := uv) (σ1 := _) rfl ?_
  refine Gr.cons (v := uv) (σ1 := _) rfl ?_
  refine Gr.cons (v := (.bool false)) (σ1 := _) rfl ?_
  refine Gr.cons (v := (.bool false)) (σ1 := _) rfl ?_
  refine Gr.nil ?_
  refine Gx.condF rfl ?_
  refine Gx.seq ?_
  refine Gx.ops ?_
  refine Gr.cons (v := (.ptr ⟨.d0, .d0, .d1, .d0, .d6⟩ 0)) (σ1 := _) rfl ?_
  refine Gr.cons (v := (.int .i64 (.ofNat 2))) (σ1 := _) rfl ?_
  refine Gr.cons (v := (.ptr ⟨.d0, .d0, .d1, .d0, .d7⟩ 0)) (σ1 := _) rfl ?_
  refine Gr.cons (v := (.int .i64 (.ofNat 0))) (σ1 := _) rfl ?_
  refine Gr.cons (v := (.bool true)) (σ1 := _) rfl ?_
  refine Gr.cons (v := (.bool true)) (σ1 := _) rfl ?_
  refine Gr.nil ?_
  refine Gx.condT rfl ?_
  refine Gx.seq ?_
  refine Gx.seq ?_
  refine Gx.ops ?_
  refine Gr.cons (v := (.ptr ⟨.d0, .d0, .d1, .d0, .d6⟩ 0)) (σ1 := _) rfl ?_
  refine Gr.cons (v := (.int .i64 (.ofNat 2))) (σ1 := _) rfl ?_
  refine Gr.cons (v := (.ptr ⟨.d0, .d0, .d1, .d0, .d7⟩ 0)) (σ1 := _) rfl ?_
  refine Gr.cons (v := (.int .i64 (.ofNat 0))) (σ1 := _) rfl ?_
  refine Gr.cons (v := (.bool true)) (σ1 := _) rfl ?_
  refine Gr.nil ?_
  refine Gx.condT rfl ?_
  refine Gx.seq ?_
  refine Gx.ops ?_
  refine Gr.cons (v := (.agg [.int .i64 (.ofNat 2), .str []])) (σ1 := _) rfl ?_
  refine Gr.cons (v := uv) (σ1 := _) rfl ?_
  refine Gr.cons (v := (.int .i64 (.ofNat 0))) (σ1 := _) rfl ?_
  refine Gr.nil ?_
  refine Gx.ret ?_
  refine ⟨(.tup [.agg [.int .i64 (.ofNat 2), .str []], .int .i64 (.ofNat 0)]), rfl, ?_⟩
  refine Gr.cons (v := (.tup [.agg [.int .i64 (.ofNat 2), .str []], .int .i64 (.ofNat 0)])) (σ1 := _) rfl ?_
  refine Gr.cons (v := (.agg [.int .i64 (.ofNat 2), .str []])) (σ1 := _) rfl ?_
  refine Gr.cons (v := (.int .i64 (.ofNat 0))) (σ1 := _) rfl ?_
  refine Gr.cons (v := (.ptr ⟨.d0, .d0, .d1, .d1, .d1⟩ 0)) (σ1 := _) rfl ?_
  refine Gr.cons (v := uv) (σ1 := _) rfl ?_
  refine Gr.cons (v := (.int .i64 (.ofNat 0))) (σ1 := _) rfl ?_
  refine Gr.nil ?_
  refine Gx.seq ?_
  refine Gx.ops ?_
  refine Gr.cons (v := (.agg [.int .i64 (.ofNat 2), .str []])) (σ1 := _) rfl ?_
  refine Gr.cons (v := (.agg [.int .i64 (.ofNat 2), .str []])) (σ1 := _) rfl ?_
  refine Gr.eqF rfl rfl ?_
  refine Gr.cons (v := (.bool true)) (σ1 := _) rfl ?_
  refine Gr.cons (v := (.int .i64 (.ofNat 0))) (σ1 := _) rfl ?_
  refine Gr.cons (v := (.int .i64 (.ofNat 0))) (σ1 := _) rfl ?_
  refine Gr.cons (v := (.bool true)) (σ1 := _) rfl ?_
  refine Gr.cons (v := (.bool true)) (σ1 := _) rfl ?_
  refine Gr.cons (v := (.bool true)) (σ1 := _) rfl ?_
  refine Gr.cons (v := (.bool true)) (σ1 := _) rfl ?_
  refine Gr.cons (v := (.bool true)) (σ1 := _) rfl ?_
  refine Gr.cons (v := (.bool true)) (σ1 := _) rfl ?_
  refine Gr.nil ?_
  refine Gx.ret ?_
  refine ⟨(.bool true), rfl, ?_⟩
  rfl
theorem c2g0b (lb : List Nat)  (hlb : seq8 lb [98, 105, 110, 97, 114, 121] = false) : Gc FA3 9 i4 [.agg [.int .i64 (.ofNat 2), .str []], .agg [.int .i64 (.ofNat 0), .str lb]] σE fun v _ => v = .bool true := by
  refine Gc.code rfl rfl ?_
  refine Gx.seq ?_
  refine Gx.ops ?_
  refine Gr.cons (v := (.ptr ⟨.d0, .d0, .d1, .d0, .d0⟩ 0)) (σ1 := _) rfl ?_
  refine Gr.cons (v := (.ptr ⟨.d0, .d0, .d1, .d0, .d1⟩ 0)) (σ1 := _) rfl ?_
  refine Gr.cons (v := (.bool false)) (σ1 := _) rfl ?_
  refine Gr.nil ?_
  refine Gx.seq ?_
  refine Gx.seq ?_
  refine Gx.ops ?_
  refine Gr.cons (v := (.ptr ⟨.d0, .d0, .d1, .d0, .d0⟩ 0)) (σ1 := _) rfl ?_
  refine Gr.cons (v := (.int .i64 (.ofNat 2))) (σ1 := _) rfl ?_
  refine Gr.cons (v := (.bool false)) (σ1 := _) rfl ?_
  refine Gr.cons (v := (.bool false)) (σ1 := _) rfl ?_
  refine Gr.cons (v := (.ptr ⟨.d0, .d0, .d1, .d0, .d0⟩ 0)) (σ1 := _) rfl ?_
  refine Gr.cons (v := (.int .i64 (.ofNat 2))) (σ1 := _) rfl ?_
  refine Gr.cons (v := (.bool false)) (σ1 := _) rfl ?_
  refine Gr.cons (v := (.bool false)) (σ1 := _) rfl ?_
  refine Gr.cons (v := (.bool false)) (σ1 := _) rfl ?_
  refine Gr.cons (v := (.ptr ⟨.d0, .d0, .d1, .d0, .d1⟩ 0)) (σ1 := _) rfl ?_
  refine Gr.cons (v := (.int .i64 (.ofNat 0))) (σ1 := _) rfl ?_
  refine Gr.cons (v := (.bool false)) (σ1 := _) rfl ?_
  refine Gr.cons (v := (.bool false)) (σ1 := _) rfl ?_
  refine Gr.cons (v := (.bool false)) (σ1 := _) rfl ?_
  refine Gr.cons (v := (.ptr ⟨.d0, .d0, .d1, .d0, .d1⟩ 0)) (σ1 := _) rfl ?_
  refine Gr.cons (v := (.int .i64 (.ofNat 0))) (σ1 := _) rfl ?_
  refine Gr.cons (v := (.bool false)) (σ1 := _) rfl ?_
  refine Gr.cons (v := (.bool false)) (σ1 := _) rfl ?_
  refine Gr.cons (v := (.bool false)) (σ1 := _) rfl ?_
  refine Gr.cons (v := (.ptr ⟨.d0, .d0, .d1, .d0, .d0⟩ 0)) (σ1 := _) rfl ?_
  refine Gr.cons (v := (.int .i64 (.ofNat 2))) (σ1 := _) rfl ?_
  refine Gr.cons (v := (.bool true)) (σ1 := _) rfl ?_
  refine Gr.cons (v := (.bool true)) (σ1 := _) rfl ?_
  refine Gr.cons (v := (.ptr ⟨.d0, .d0, .d1, .d0, .d0⟩ 1)) (σ1 := _) rfl ?_
  refine Gr.cons (v := (.str [])) (σ1 := _) rfl ?_
  refine Gr.cons (v := (.bool false)) (σ1 := _) rfl ?_
  refine Gr.cons (v := (.bool false)) (σ1 := _) rfl ?_
  refine Gr.cons (v := (.bool false)) (σ1 := _) rfl ?_
  refine Gr.cons (v := (.bool false)) (σ1 := _) rfl ?_
  refine Gr.cons (v := (.ptr ⟨.d0, .d0, .d1, .d0, .d1⟩ 0)) (σ1 := _) rfl ?_
  refine Gr.cons (v := (.int .i64 (.ofNat 0))) (σ1 := _) rfl ?_
  refine Gr.cons (v := (.bool false)) (σ1 := _) rfl ?_
  refine Gr.cons (v := (.bool false)) (σ1 := _) rfl ?_
  refine Gr.cons (v := uv) (σ1 := _) rfl ?_
  refine Gr.cons (v := uv) (σ1 := _) rfl ?_
  refine Gr.cons (v := uv) (σ1 := _) rfl ?_
  refine Gr.cons (v := (.bool false)) (σ1 := _) rfl ?_
  refine Gr.cons (v := (.bool false)) (σ1 := _) rfl ?_
  refine Gr.cons (v := (.bool false)) (σ1 := _) rfl ?_
  refine Gr.cons (v := (.ptr ⟨.d0, .d0, .d1, .d0, .d0⟩ 0)) (σ1 := _) rfl ?_
  refine Gr.cons (v := (.int .i64 (.ofNat 2))) (σ1 := _) rfl ?_
  refine Gr.cons (v := (.bool false)) (σ1 := _) rfl ?_
  refine Gr.cons (v := (.bool false)) (σ1 := _) rfl ?_
  refine Gr.cons (v := uv) (σ1 := _) rfl ?_
  refine Gr.cons (v := uv) (σ1 := _) rfl ?_
  refine Gr.cons (v := uv) (σ1 := _) rfl ?_
  refine Gr.cons (v := (.bool false)) (σ1 := _) rfl ?_
  refine Gr.cons (v := (.bool false)) (σ1 := _) rfl ?_
  refine Gr.cons (v := (.bool false)) (σ1 := _) rfl ?_
  refine Gr.cons (v := (.ptr ⟨.d0, .d0, .d1, .d0, .d1⟩ 0)) (σ1 := _) rfl ?_
  refine Gr.cons (v := (.int .i64 (.ofNat 0))) (σ1 := _) rfl ?_
  refine Gr.cons (v := (.bool true)) (σ1 := _) rfl ?_
  refine Gr.cons (v := (.bool true)) (σ1 := _) rfl ?_
  refine Gr.cons (v := (.ptr ⟨.d0, .d0, .d1, .d0, .d1⟩ 1)) (σ1 := _) rfl ?_
  refine Gr.cons (v := (.str lb)) (σ1 := _) rfl ?_
  refine Gr.binS (b := (not8 (seq8 lb [98, 105, 110, 97, 114, 121]))) (b' := true) rfl (by rw [hlb]; rfl) ?_
  refine Gr.cons (v := (.bool true)) (σ1 := _) rfl ?_
  refine Gr.cons (v := (.bool true)) (σ1 := _) rfl ?_
  refine Gr.nil ?_
  refine Gx.condT rfl ?_
  refine Gx.seq ?_
  refine Gx.ops ?_
  refine Gr.cons (v := (.bool true)) (σ1 := _) rfl ?_
  refine Gr.cons (v := (.bool true)) (σ1 := _) rfl ?_
  refine Gr.nil ?_
  refine Gx.ret ?_
  refine ⟨(.bool true), rfl, ?_⟩
  rfl
theorem c2b0g (la : List Nat) (hla : seq8 la [] = false)  : Gc FA3 9 i4 [.agg [.int .i64 (.ofNat 2), .str la], .agg [.int .i64 (.ofNat 0), .str [98, 105, 110, 97, 114, 121]]] σE fun v _ => v = .bool true := by
  refine Gc.code rfl rfl ?_
  refine Gx.seq ?_
  refine Gx.ops ?_
  refine Gr.cons (v := (.ptr ⟨.d0, .d0, .d1, .d0, .d0⟩ 0)) (σ1 := _) rfl ?_
  refine Gr.cons (v := (.ptr ⟨.d0, .d0, .d1, .d0, .d1⟩ 0)) (σ1 := _) rfl ?_
  refine Gr.cons (v := (.bool false)) (σ1 := _) rfl ?_
  refine Gr.nil ?_
  refine Gx.seq ?_
  refine Gx.seq ?_
  refine Gx.ops ?_
  refine Gr.cons (v := (.ptr ⟨.d0, .d0, .d1, .d0, .d0⟩ 0)) (σ1 := _) rfl ?_
  refine Gr.cons (v := (.int .i64 (.ofNat 2))) (σ1 := _) rfl ?_
  refine Gr.cons (v := (.bool false)) (σ1 := _) rfl ?_
  refine Gr.cons (v := (.bool false)) (σ1 := _) rfl ?_
  refine Gr.cons (v := (.ptr ⟨.d0, .d0, .d1, .d0, .d0⟩ 0)) (σ1 := _) rfl ?_
  refine Gr.cons (v := (.int .i64 (.ofNat 2))) (σ1 := _) rfl ?_
  refine Gr.cons (v := (.bool false)) (σ1 := _) rfl ?_
  refine Gr.cons (v := (.bool false)) (σ1 := _) rfl ?_
  refine Gr.cons (v := (.bool false)) (σ1 := _) rfl ?_
  refine Gr.cons (v := (.ptr ⟨.d0, .d0, .d1, .d0, .d1⟩ 0)) (σ1 := _) rfl ?_
  refine Gr.cons (v := (.int .i64 (.ofNat 0))) (σ1 := _) rfl ?_
  refine Gr.cons (v := (.bool false)) (σ1 := _) rfl ?_
  refine Gr.cons (v := (.bool false)) (σ1 := _) rfl ?_
  refine Gr.cons (v := (.bool false)) (σ1 := _) rfl ?_
  refine Gr.cons (v := (.ptr ⟨.d0, .d0, .d1, .d0, .d1⟩ 0)) (σ1 := _) rfl ?_
  refine Gr.cons (v := (.int .i64 (.ofNat 0))) (σ1 := _) rfl ?_
  refine Gr.cons (v := (.bool false)) (σ1 := _) rfl ?_
  refine Gr.cons (v := (.bool false)) (σ1 := _) rfl ?_
  refine Gr.cons (v := (.bool false)) (σ1 := _) rfl ?_
  refine Gr.cons (v := (.ptr ⟨.d0, .d0, .d1, .d0, .d0⟩ 0)) (σ1 := _) rfl ?_
  refine Gr.cons (v := (.int .i64 (.ofNat 2))) (σ1 := _) rfl ?_
  refine Gr.cons (v := (.bool true)) (σ1 := _) rfl ?_
  refine Gr.cons (v := (.bool true)) (σ1 := _) rfl ?_
  refine Gr.cons (v := (.ptr ⟨.d0, .d0, .d1, .d0, .d0⟩ 1)) (σ1 := _) rfl ?_
  refine Gr.cons (v := (.str la)) (σ1 := _) rfl ?_
  refine Gr.binS (b := (not8 (seq8 la []))) (b' := true) rfl (by rw [hla]; rfl) ?_
  refine Gr.cons (v := (.bool true)) (σ1 := _) rfl ?_
  refine Gr.cons (v := (.bool true)) (σ1 := _) rfl ?_
  refine Gr.cons (v := (.bool true)) (σ1 := _) rfl ?_
  refine Gr.cons (v := uv) (σ1 := _) rfl ?_
  refine Gr.cons (v := uv) (σ1 := _) rfl ?_
  refine Gr.cons (v := uv) (σ1 := _) rfl ?_
  refine Gr.cons (v := uv) (σ1 := _) rfl ?_
  refine Gr.cons (v := uv) (σ1 := _) rfl ?_
  refine Gr.cons (v := uv) (σ1 := _) rfl ?_
  refine Gr.cons (v := uv) (σ1 := _) rfl ?_
  refine Gr.cons (v := uv) (σ1 := _) rfl ?_
  refine Gr.cons (v := (.bool true)) (σ1 := _) rfl ?_
  refine Gr.cons (v := (.bool true)) (σ1 := _) rfl ?_
  refine Gr.cons (v := uv) (σ1 := _) rfl ?_
  refine Gr.cons (v := uv) (σ1 := _) rfl ?_
  refine Gr.cons (v := uv) (σ1 := _) rfl ?_
  refine Gr.cons (v := uv) (σ1 := _) rfl ?_
  refine Gr.cons (v := uv) (σ1 := _) rfl ?_
  refine Gr.cons (v := uv) (σ1 := _) rfl ?_
  refine Gr.cons (v := uv) (σ1 := _) rfl ?_
  refine Gr.cons (v := uv) (σ1 := _) rfl ?_
  refine Gr.cons (v := (.bool true)) (σ1 := _) rfl ?_
  refine Gr.cons (v := (.bool true)) (σ1 := _) rfl ?_
  refine Gr.cons (v := uv) (σ1 := _) rfl ?_
  refine Gr.cons (v := uv) (σ1 := _) rfl ?_
  refine Gr.cons (v := uv) (σ1 := _) rfl ?_
  refine Gr.cons (v := uv) (σ1 := _) rfl ?_
  refine Gr.cons (v := uv) (σ1 := _) rfl ?_
  refine Gr.cons (v := uv) (σ1 := _) rfl ?_
  refine Gr.cons (v := uv) (σ1 := _) rfl ?_
  refine Gr.cons (v := uv) (σ1 := _) rfl ?_
  refine Gr.cons (v := (.bool true)) (σ1 := _) rfl ?_
  refine Gr.nil ?_
  refine Gx.condT rfl ?_
  refine Gx.seq ?_
  refine Gx.ops ?_
  refine Gr.cons (v := (.bool true)) (σ1 := _) rfl ?_
  refine Gr.cons (v := (.bool true)) (σ1 := _) rfl ?_
  refine Gr.nil ?_
  refine Gx.ret ?_
  refine ⟨(.bool true), rfl, ?_⟩
  rfl
theorem c2b0b (la : List Nat) (lb : List Nat) (hla : seq8 la [] = false) (hlb : seq8 lb [98, 105, 110, 97, 114, 121] = false) : Gc FA3 9 i4 [.agg [.int .i64 (.ofNat 2), .str la], .agg [.int .i64 (.ofNat 0), .str lb]] σE fun v _ => v = .bool true := by
  refine Gc.code rfl rfl ?_
  refine Gx.seq ?_
  refine Gx.ops ?_
  refine Gr.cons (v := (.ptr ⟨.d0, .d0, .d1, .d0, .d0⟩ 0)) (σ1 := _) rfl ?_
  refine Gr.cons (v := (.ptr ⟨.d0, .d0, .d1, .d0, .d1⟩ 0)) (σ1 := _) rfl ?_
  refine Gr.cons (v := (.bool false)) (σ1 := _) rfl ?_
  refine Gr.nil ?_
  refine Gx.seq ?_
  refine Gx.seq ?_
  refine Gx.ops ?_
  refine Gr.cons (v := (.ptr ⟨.d0, .d0, .d1, .d0, .d0⟩ 0)) (σ1 := _) rfl ?_
  refine Gr.cons (v := (.int .i64 (.ofNat 2))) (σ1 := _) rfl ?_
  refine Gr.cons (v := (.bool false)) (σ1 := _) rfl ?_
  refine Gr.cons (v := (.bool false)) (σ1 := _) rfl ?_
  refine Gr.cons (v := (.ptr ⟨.d0, .d0, .d1, .d0, .d0⟩ 0)) (σ1 := _) rfl ?_
  refine Gr.cons (v := (.int .i64 (.ofNat 2))) (σ1 := _) rfl ?_
  refine Gr.cons (v := (.bool false)) (σ1 := _) rfl ?_
  refine Gr.cons (v := (.bool false)) (σ1 := _) rfl ?_
  refine Gr.cons (v := (.bool false)) (σ1 := _) rfl ?_
  refine Gr.cons (v := (.ptr ⟨.d0, .d0, .d1, .d0, .d1⟩ 0)) (σ1 := _) rfl ?_
  refine Gr.cons (v := (.int .i64 (.ofNat 0))) (σ1 := _) rfl ?_
  refine Gr.cons (v := (.bool false)) (σ1 := _) rfl ?_
  refine Gr.cons (v := (.bool false)) (σ1 := _) rfl ?_
  refine Gr.cons (v := (.bool false)) (σ1 := _) rfl ?_
  refine Gr.cons (v := (.ptr ⟨.d0, .d0, .d1, .d0, .d1⟩ 0)) (σ1 := _) rfl ?_
  refine Gr.cons (v := (.int .i64 (.ofNat 0))) (σ1 := _) rfl ?_
  refine Gr.cons (v := (.bool false)) (σ1 := _) rfl ?_
  refine Gr.cons (v := (.bool false)) (σ1 := _) rfl ?_
  refine Gr.cons (v := (.bool false)) (σ1 := _) rfl ?_
  refine Gr.cons (v := (.ptr ⟨.d0, .d0, .d1, .d0, .d0⟩ 0)) (σ1 := _) rfl ?_
  refine Gr.cons (v := (.int .i64 (.ofNat 2))) (σ1 := _) rfl ?_
  refine Gr.cons (v := (.bool true)) (σ1 := _) rfl ?_
  refine Gr.cons (v := (.bool true)) (σ1 := _) rfl ?_
  refine Gr.cons (v := (.ptr ⟨.d0, .d0, .d1, .d0, .d0⟩ 1)) (σ1 := _) rfl ?_
  refine Gr.cons (v := (.str la)) (σ1 := _) rfl ?_
  refine Gr.binS (b := (not8 (seq8 la []))) (b' := true) rfl (by rw [hla]; rfl) ?_
  refine Gr.cons (v := (.bool true)) (σ1 := _) rfl ?_
  refine Gr.cons (v := (.bool true)) (σ1 := _) rfl ?_
  refine Gr.cons (v := (.bool true)) (σ1 := _) rfl ?_
  refine Gr.cons (v := uv) (σ1 := _) rfl ?_
  refine Gr.cons (v := uv) (σ1 := _) rfl ?_
  refine Gr.cons (v := uv) (σ1 := _) rfl ?_
  refine Gr.cons (v := uv) (σ1 := _) rfl ?_
  refine Gr.cons (v := uv) (σ1 := _) rfl ?_
  refine Gr.cons (v := uv) (σ1 := _) rfl ?_
  refine Gr.cons (v := uv) (σ1 := _) rfl ?_
  refine Gr.cons (v := uv) (σ1 := _) rfl ?_
  refine Gr.cons (v := (.bool true)) (σ1 := _) rfl ?_
  refine Gr.cons (v := (.bool true)) (σ1 := _) rfl ?_
  refine Gr.cons (v := uv) (σ1 := _) rfl ?_
  refine Gr.cons (v := uv) (σ1 := _) rfl ?_
  refine Gr.cons (v := uv) (σ1 := _) rfl ?_
  refine Gr.cons (v := uv) (σ1 := _) rfl ?_
  refine Gr.cons (v := uv) (σ1 := _) rfl ?_
  refine Gr.cons (v := uv) (σ1 := _) rfl ?_
  refine Gr.cons (v := uv) (σ1 := _) rfl ?_
  refine Gr.cons (v := uv) (σ1 := _) rfl ?_
  refine Gr.cons (v := (.bool true)) (σ1 := _) rfl ?_
  refine Gr.cons (v := (.bool true)) (σ1 := _) rfl ?_
  refine Gr.cons (v := uv) (σ1 := _) rfl ?_
  refine Gr.cons (v := uv) (σ1 := _) rfl ?_
  refine Gr.cons (v := uv) (σ1 := _) rfl ?_
  refine Gr.cons (v := uv) (σ1 := _) rfl ?_
  refine Gr.cons (v := uv) (σ1 := _) rfl ?_
  refine Gr.cons (v := uv) (σ1 := _) rfl ?_
  refine Gr.cons (v := uv) (σ1 := _) rfl ?_
  refine Gr.cons (v := uv) (σ1 := _) rfl ?_
  refine Gr.cons (v := (.bool true)) (σ1 := _) rfl ?_
  refine Gr.nil ?_
  refine Gx.condT rfl ?_
  refine Gx.seq ?_
  refine Gx.ops ?_
  refine Gr.cons (v := (.bool true)) (σ1 := _) rfl ?_
  refine Gr.cons (v := (.bool true)) (σ1 := _) rfl ?_
  refine Gr.nil ?_
  refine Gx.ret ?_
  refine ⟨(.bool true), rfl, ?_⟩
  rfl
theorem c2g1s (lb : List Nat)  (hlb : seq8 lb lb = true) : Gc FA3 9 i4 [.agg [.int .i64 (.ofNat 2), .str []], .agg [.int .i64 (.ofNat 1), .str lb]] σE fun v _ => v = .bool true := by
  refine Gc.code rfl rfl ?_
  refine Gx.seq ?_
  refine Gx.ops ?_
  refine Gr.cons (v := (.ptr ⟨.d0, .d0, .d1, .d0, .d0⟩ 0)) (σ1 := _) rfl ?_
  refine Gr.cons (v := (.ptr ⟨.d0, .d0, .d1, .d0, .d1⟩ 0)) (σ1 := _) rfl ?_
  refine Gr.cons (v := (.bool false)) (σ1 := _) rfl ?_
  refine Gr.nil ?_
  refine Gx.seq ?_
  refine Gx.seq ?_
  refine Gx.ops ?_
  refine Gr.cons (v := (.ptr ⟨.d0, .d0, .d1, .d0, .d0⟩ 0)) (σ1 := _) rfl ?_
  refine Gr.cons (v := (.int .i64 (.ofNat 2))) (σ1 := _) rfl ?_
  refine Gr.cons (v := (.bool false)) (σ1 := _) rfl ?_
  refine Gr.cons (v := (.bool false)) (σ1 := _) rfl ?_
  refine Gr.cons (v := (.ptr ⟨.d0, .d0, .d1, .d0, .d0⟩ 0)) (σ1 := _) rfl ?_
  refine Gr.cons (v := (.int .i64 (.ofNat 2))) (σ1 := _) rfl ?_
  refine Gr.cons (v := (.bool false)) (σ1 := _) rfl ?_
  refine Gr.cons (v := (.bool false)) (σ1 := _) rfl ?_
  refine Gr.cons (v := (.bool false)) (σ1 := _) rfl ?_
  refine Gr.cons (v := (.ptr ⟨.d0, .d0, .d1, .d0, .d1⟩ 0)) (σ1 := _) rfl ?_
  refine Gr.cons (v := (.int .i64 (.ofNat 1))) (σ1 := _) rfl ?_
  refine Gr.cons (v := (.bool false)) (σ1 := _) rfl ?_
  refine Gr.cons (v := (.bool false)) (σ1 := _) rfl ?_
  refine Gr.cons (v := (.bool false)) (σ1 := _) rfl ?_
  refine Gr.cons (v := (.ptr ⟨.d0, .d0, .d1, .d0, .d1⟩ 0)) (σ1 := _) rfl ?_
  refine Gr.cons (v := (.int .i64 (.ofNat 1))) (σ1 := _) rfl ?_
  refine Gr.cons (v := (.bool false)) (σ1 := _) rfl ?_
  refine Gr.cons (v := (.bool false)) (σ1 := _) rfl ?_
  refine Gr.cons (v := (.bool false)) (σ1 := _) rfl ?_
  refine Gr.cons (v := (.ptr ⟨.d0, .d0, .d1, .d0, .d0⟩ 0)) (σ1 := _) rfl ?_
  refine Gr.cons (v := (.int .i64 (.ofNat 2))) (σ1 := _) rfl ?_
  refine Gr.cons (v := (.bool true)) (σ1 := _) rfl ?_
  refine Gr.cons (v := (.bool true)) (σ1 := _) rfl ?_
  refine Gr.cons (v := (.ptr ⟨.d0, .d0, .d1, .d0, .d0⟩ 1)) (σ1 := _) rfl ?_
  refine Gr.cons (v := (.str [])) (σ1 := _) rfl ?_
  refine Gr.cons (v := (.bool false)) (σ1 := _) rfl ?_
  refine Gr.cons (v := (.bool false)) (σ1 := _) rfl ?_
  refine Gr.cons (v := (.bool false)) (σ1 := _) rfl ?_
  refine Gr.cons (v := (.bool false)) (σ1 := _) rfl ?_
  refine Gr.cons (v := (.ptr ⟨.d0, .d0, .d1, .d0, .d1⟩ 0)) (σ1 := _) rfl ?_
  refine Gr.cons (v := (.int .i64 (.ofNat 1))) (σ1 := _) rfl ?_
  refine Gr.cons (v := (.bool false)) (σ1 := _) rfl ?_
  refine Gr.cons (v := (.bool false)) (σ1 := _) rfl ?_
  refine Gr.cons (v := uv) (σ1 := _) rfl ?_
  refine Gr.cons (v := uv) (σ1 := _) rfl ?_
  refine Gr.cons (v := uv) (σ1 := _) rfl ?_
  refine Gr.cons (v := (.bool false)) (σ1 := _) rfl ?_
  refine Gr.cons (v := (.bool false)) (σ1 := _) rfl ?_
  refine Gr.cons (v := (.bool false)) (σ1 := _) rfl ?_
  refine Gr.cons (v := (.ptr ⟨.d0, .d0, .d1, .d0, .d0⟩ 0)) (σ1 := _) rfl ?_
  refine Gr.cons (v := (.int .i64 (.ofNat 2))) (σ1 := _) rfl ?_
  refine Gr.cons (v := (.bool false)) (σ1 := _) rfl ?_
  refine Gr.cons (v := (.bool false)) (σ1 := _) rfl ?_
  refine Gr.cons (v := uv) (σ1 := _) rfl ?_
  refine Gr.cons (v := uv) (σ1 := _) rfl ?_
  refine Gr.cons (v := uv) (σ1 := _) rfl ?_
  refine Gr.cons (v := (.bool false)) (σ1 := _) rfl ?_
  refine Gr.cons (v := (.bool false)) (σ1 := _) rfl ?_
  refine Gr.cons (v := (.bool false)) (σ1 := _) rfl ?_
  refine Gr.cons (v := (.ptr ⟨.d0, .d0, .d1, .d0, .d1⟩ 0)) (σ1 := _) rfl ?_
  refine Gr.cons (v := (.int .i64 (.ofNat 1))) (σ1 := _) rfl ?_
  refine Gr.cons (v := (.bool false)) (σ1 := _) rfl ?_
  refine Gr.cons (v := (.bool false)) (σ1 := _) rfl ?_
  refine Gr.cons (v := uv) (σ1 := _) rfl ?_
  refine Gr.cons (v := uv) (σ1 := _) rfl ?_
  refine Gr.cons (v := uv) (σ1 := _) rfl ?_
  refine Gr.cons (v := (.bool false)) (σ1 := _) rfl ?_
  refine Gr.cons (v := (.bool false)) (σ1 := _) rfl ?_
  refine Gr.nil ?_
  refine Gx.condF rfl ?_
  refine Gx.skip ?_
  refine Gx.seq ?_
  refine Gx.ops ?_
  refine Gr.cons (v := (.agg [.int .i64 (.ofNat 2), .str []])) (σ1 := _) rfl ?_
  refine Gr.cons (v := (.agg [.int .i64 (.ofNat 1), .str lb])) (σ1 := _) rfl ?_
  refine Gr.callF (Gc.code rfl rfl ?_)
  refine Gx.seq ?_
  refine Gx.ops ?_
  refine Gr.cons (v := (.ptr ⟨.d0, .d0, .d1, .d0, .d2⟩ 0)) (σ1 := _) rfl ?_
  refine Gr.cons (v := (.ptr ⟨.d0, .d0, .d1, .d0, .d3⟩ 0)) (σ1 := _) rfl ?_
  refine Gr.cons (v := (.ptr ⟨.d0, .d0, .d1, .d0, .d4⟩ 0)) (σ1 := _) rfl ?_
  refine Gr.cons (v := (.int .i64 (.ofNat 0))) (σ1 := _) rfl ?_
  refine Gr.nil ?_
  refine Gx.seq ?_
  refine Gx.seq ?_
  refine Gx.ops ?_
  refine Gr.cons (v := (.ptr ⟨.d0, .d0, .d1, .d0, .d2⟩ 0)) (σ1 := _) rfl ?_
  refine Gr.cons (v := (.int .i64 (.ofNat 2))) (σ1 := _) rfl ?_
  refine Gr.cons (v := (.ptr ⟨.d0, .d0, .d1, .d0, .d3⟩ 0)) (σ1 := _) rfl ?_
  refine Gr.cons (v := (.int .i64 (.ofNat 1))) (σ1 := _) rfl ?_
  refine Gr.cons (v := (.agg [.int .i64 (.ofNat 2), .int .i64 (.ofNat 1)])) (σ1 := _) rfl ?_
  refine Gr.nil ?_
  refine Gx.block ?_
  refine Gx.seq ?_
  refine Gx.ops ?_
  refine Gr.cons (v := (.agg [.int .i64 (.ofNat 3), .int .i64 (.ofNat 3)])) (σ1 := _) rfl ?_
  refine Gr.cons (v := (.bool false)) (σ1 := _) rfl ?_
  refine Gr.cons (v := (.bool false)) (σ1 := _) rfl ?_
  refine Gr.nil ?_
  refine Gx.condF rfl ?_
  refine Gx.seq ?_
  refine Gx.ops ?_
  refine Gr.cons (v := (.agg [.int .i64 (.ofNat 1), .int .i64 (.ofNat 1)])) (σ1 := _) rfl ?_
  refine Gr.cons (v := (.bool false)) (σ1 := _) rfl ?_
  refine Gr.cons (v := (.bool false)) (σ1 := _) rfl ?_
  refine Gr.nil ?_
  refine Gx.condF rfl ?_
  refine Gx.skip ?_
  refine Gx.seq ?_
  refine Gx.seq ?_
  refine Gx.ops ?_
  refine Gr.cons (v := (.ptr ⟨.d0, .d0, .d1, .d0, .d3⟩ 0)) (σ1 := _) rfl ?_
  refine Gr.cons (v := (.int .i64 (.ofNat 1))) (σ1 := _) rfl ?_
  refine Gr.cons (v := (.ptr ⟨.d0, .d0, .d1, .d0, .d2⟩ 0)) (σ1 := _) rfl ?_
  refine Gr.cons (v := (.int .i64 (.ofNat 2))) (σ1 := _) rfl ?_
  refine Gr.cons (v := (.bool false)) (σ1 := _) rfl ?_
  refine Gr.nil ?_
  refine Gx.condF rfl ?_
  refine Gx.skip ?_
  refine Gx.seq ?_
  refine Gx.ops ?_
  refine Gr.cons (v := (.agg [.int .i64 (.ofNat 2), .str []])) (σ1 := _) rfl ?_
  refine Gr.cons (v := uv) (σ1 := _) rfl ?_
  refine Gr.cons (v := (.int .i64 (.ofNat 0))) (σ1 := _) rfl ?_
  refine Gr.nil ?_
  refine Gx.ret ?_
  refine ⟨(.tup [.agg [.int .i64 (.ofNat 2), .str []], .int .i64 (.ofNat 0)]), rfl, ?_⟩
  refine Gr.cons (v := (.tup [.agg [.int .i64 (.ofNat 2), .str []], .int .i64 (.ofNat 0)])) (σ1 := _) rfl ?_
  refine Gr.cons (v := (.agg [.int .i64 (.ofNat 2), .str []])) (σ1 := _) rfl ?_
  refine Gr.cons (v := (.int .i64 (.ofNat 0))) (σ1 := _) rfl ?_
  refine Gr.cons (v := (.ptr ⟨.d0, .d0, .d1, .d0, .d5⟩ 0)) (σ1 := _) rfl ?_
  refine Gr.cons (v := uv) (σ1 := _) rfl ?_
  refine Gr.cons (v := (.int .i64 (.ofNat 0))) (σ1 := _) rfl ?_
  refine Gr.nil ?_
  refine Gx.seq ?_
  refine Gx.ops ?_
  refine Gr.cons (v := (.agg [.int .i64 (.ofNat 2), .str []])) (σ1 := _) rfl ?_
  refine Gr.cons (v := (.agg [.int .i64 (.ofNat 1), .str lb])) (σ1 := _) rfl ?_
  refine Gr.callF (Gc.code rfl rfl ?_)
  refine Gx.seq ?_
  refine Gx.ops ?_
  refine Gr.cons (v := (.ptr ⟨.d0, .d0, .d1, .d0, .d6⟩ 0)) (σ1 := _) rfl ?_
  refine Gr.cons (v := (.ptr ⟨.d0, .d0, .d1, .d0, .d7⟩ 0)) (σ1 := _) rfl ?_
  refine Gr.cons (v := (.ptr ⟨.d0, .d0, .d1, .d1, .d0⟩ 0)) (σ1 := _) rfl ?_
  refine Gr.cons (v := (.int .i64 (.ofNat 0))) (σ1 := _) rfl ?_
  refine Gr.nil ?_
  refine Gx.seq ?_
  refine Gx.block ?_
  refine Gx.seq ?_
  refine Gx.ops ?_
  refine Gr.cons (v := (.ptr ⟨.d0, .d0, .d1, .d0, .d6⟩ 0)) (σ1 := _) rfl ?_
  refine Gr.cons (v := (.int .i64 (.ofNat 2))) (σ1 := _) rfl ?_
  refine Gr.cons (v := (.bool false)) (σ1 := _) rfl ?_
  refine Gr.cons (v := (.bool false)) (σ1 := _) rfl ?_
  refine Gr.cons (v := uv) (σ1 := _) rfl ?_
  refine Gr.cons (v := uv) (σ1 := _) rfl ?_
  refine Gr.cons (v := uv) (σ1 := _) rfl ?_
  refine Gr.cons (v := (.bool false)) (σ1 := _) rfl ?_
  refine Gr.cons (v := (.bool false)) (σ1 := _) rfl ?_
  refine Gr.cons (v := uv) (σ1 := _) rfl ?_
  refine Gr.cons (v := uv) (σ1 := _) rfl ?_
  refine Gr.cons (v := uv) (σ1 := _) rfl ?_
  refine Gr.cons (v := uv) (σ1 := _) rfl ?_
  refine Gr.cons (v := uv) (σ1 := _) rfl ?_
  refine Gr.cons (v := (.bool false)) (σ1 := _) rfl ?_
  refine Gr.cons (v := (.bool false)) (σ1 := _) rfl ?_
  refine Gr.nil ?_
  refine Gx.condF rfl ?_
  refine Gx.seq ?_
  refine Gx.ops ?_
  refine Gr.cons (v := (.ptr ⟨.d0, .d0, .d1, .d0, .d6⟩ 0)) (σ1 := _) rfl ?_
  refine Gr.cons (v := (.int .i64 (.ofNat 2))) (σ1 := _) rfl ?_
  refine Gr.cons (v := (.ptr ⟨.d0, .d0, .d1, .d0, .d7⟩ 0)) (σ1 := _) rfl ?_
  refine Gr.cons (v := (.int .i64 (.ofNat 1))) (σ1 := _) rfl ?_
  refine Gr.cons (v := (.bool true)) (σ1 := _) rfl ?_
  refine Gr.cons (v := (.bool true)) (σ1 := _) rfl ?_
  refine Gr.nil ?_
  refine Gx.condT rfl ?_
  refine Gx.seq ?_
  refine Gx.seq ?_
  refine Gx.ops ?_
  refine Gr.cons (v := (.ptr ⟨.d0, .d0, .d1, .d0, .d6⟩ 0)) (σ1 := _) rfl ?_
  refine Gr.cons (v := (.int .i64 (.ofNat 2))) (σ1 := _) rfl ?_
  refine Gr.cons (v := (.ptr ⟨.d0, .d0, .d1, .d0, .d7⟩ 0)) (σ1 := _) rfl ?_
  refine Gr.cons (v := (.int .i64 (.ofNat 1))) (σ1 := _) rfl ?_
  refine Gr.cons (v := (.bool true)) (σ1 := _) rfl ?_
  refine Gr.nil ?_
  refine Gx.condT rfl ?_
  refine Gx.seq ?_
  refine Gx.ops ?_
  refine Gr.cons (v := (.agg [.int .i64 (.ofNat 2), .str []])) (σ1 := _) rfl ?_
  refine Gr.cons (v := uv) (σ1 := _) rfl ?_
  refine Gr.cons (v := (.int .i64 (.ofNat 0))) (σ1 := _) rfl ?_
  refine Gr.nil ?_
  refine Gx.ret ?_
  refine ⟨(.tup [.agg [.int .i64 (.ofNat 2), .str []], .int .i64 (.ofNat 0)]), rfl, ?_⟩
  refine Gr.cons (v := (.tup [.agg [.int .i64 (.ofNat 2), .str []], .int .i64 (.ofNat 0)])) (σ1 := _) rfl ?_
  refine Gr.cons (v := (.agg [.int .i64 (.ofNat 2), .str []])) (σ1 := _) rfl ?_
  refine Gr.cons (v := (.int .i64 (.ofNat 0))) (σ1 := _) rfl ?_
  refine Gr.cons (v := (.ptr ⟨.d0, .d0, .d1, .d1, .d1⟩ 0)) (σ1 := _) rfl ?_
  refine Gr.cons (v := uv) (σ1 := _) rfl ?_
  refine Gr.cons (v := (.int .i64 (.ofNat 0))) (σ1 := _) rfl ?_
  refine Gr.nil ?_
  refine Gx.seq ?_
  refine Gx.ops ?_
  refine Gr.cons (v := (.agg [.int .i64 (.ofNat 2), .str []])) (σ1 := _) rfl ?_
  refine Gr.cons (v := (.agg [.int .i64 (.ofNat 2), .str []])) (σ1 := _) rfl ?_
  refine Gr.eqF rfl rfl ?_
  refine Gr.cons (v := (.bool true)) (σ1 := _) rfl ?_
  refine Gr.cons (v := (.int .i64 (.ofNat 0))) (σ1 := _) rfl ?_
  refine Gr.cons (v := (.int .i64 (.ofNat 0))) (σ1 := _) rfl ?_
  refine Gr.cons (v := (.bool true)) (σ1 := _) rfl ?_
  refine Gr.cons (v := (.bool true)) (σ1 := _) rfl ?_
  refine Gr.cons (v := (.bool true)) (σ1 := _) rfl ?_
  refine Gr.cons (v := (.bool true)) (σ1 := _) rfl ?_
  refine Gr.cons (v := (.bool true)) (σ1 := _) rfl ?_
  refine Gr.cons (v := (.bool true)) (σ1 := _) rfl ?_
  refine Gr.nil ?_
  refine Gx.ret ?_
  refine ⟨(.bool true), rfl, ?_⟩
  rfl
theorem c2b1s (la : List Nat) (lb : List Nat) (hla : seq8 la [] = false) (hlb : seq8 lb lb = true) : Gc FA3 9 i4 [.agg [.int .i64 (.ofNat 2), .str la], .agg [.int .i64 (.ofNat 1), .str lb]] σE fun v _ => v = .bool true := by
  refine Gc.code rfl rfl ?_
  refine Gx.seq ?_
  refine Gx.ops ?_
  refine Gr.cons (v := (.ptr ⟨.d0, .d0, .d1, .d0, .d0⟩ 0)) (σ1 := _) rfl ?_
  refine Gr.cons (v := (.ptr ⟨.d0, .d0, .d1, .d0, .d1⟩ 0)) (σ1 := _) rfl ?_
  refine Gr.cons (v := (.bool false)) (σ1 := _) rfl ?_
  refine Gr.nil ?_
  refine Gx.seq ?_
  refine Gx.seq ?_
  refine Gx.ops ?_
  refine Gr.cons (v := (.ptr ⟨.d0, .d0, .d1, .d0, .d0⟩ 0)) (σ1 := _) rfl ?_
  refine Gr.cons (v := (.int .i64 (.ofNat 2))) (σ1 := _) rfl ?_
  refine Gr.cons (v := (.bool false)) (σ1 := _) rfl ?_
  refine Gr.cons (v := (.bool false)) (σ1 := _) rfl ?_
  refine Gr.cons (v := (.ptr ⟨.d0, .d0, .d1, .d0, .d0⟩ 0)) (σ1 := _) rfl ?_
  refine Gr.cons (v := (.int .i64 (.ofNat 2))) (σ1 := _) rfl ?_
  refine Gr.cons (v := (.bool false)) (σ1 := _) rfl ?_
  refine Gr.cons (v := (.bool false)) (σ1 := _) rfl ?_
  refine Gr.cons (v := (.bool false)) (σ1 := _) rfl ?_
  refine Gr.cons (v := (.ptr ⟨.d0, .d0, .d1, .d0, .d1⟩ 0)) (σ1 := _) rfl ?_
  refine Gr.cons (v := (.int .i64 (.ofNat 1))) (σ1 := _) rfl ?_
  refine Gr.cons (v := (.bool false)) (σ1 := _) rfl ?_
  refine Gr.cons (v := (.bool false)) (σ1 := _) rfl ?_
  refine Gr.cons (v := (.bool false)) (σ1 := _) rfl ?_
  refine Gr.cons (v := (.ptr ⟨.d0, .d0, .d1, .d0, .d1⟩ 0)) (σ1 := _) rfl ?_
  refine Gr.cons (v := (.int .i64 (.ofNat 1))) (σ1 := _) rfl ?_
  refine Gr.cons (v := (.bool false)) (σ1 := _) rfl ?_
  refine Gr.cons (v := (.bool false)) (σ1 := _) rfl ?_
  refine Gr.cons (v := (.bool false)) (σ1 := _) rfl ?_
  refine Gr.cons (v := (.ptr ⟨.d0, .d0, .d1, .d0, .d0⟩ 0)) (σ1 := _) rfl ?_
  refine Gr.cons (v := (.int .i64 (.ofNat 2))) (σ1 := _) rfl ?_
  refine Gr.cons (v := (.bool true)) (σ1 := _) rfl ?_
  refine Gr.cons (v := (.bool true)) (σ1 := _) rfl ?_
  refine Gr.cons (v := (.ptr ⟨.d0, .d0, .d1, .d0, .d0⟩ 1)) (σ1 := _) rfl ?_
  refine Gr.cons (v := (.str la)) (σ1 := _) rfl ?_
  refine Gr.binS (b := (not8 (seq8 la []))) (b' := true) rfl (by rw [hla]; rfl) ?_
  refine Gr.cons (v := (.bool true)) (σ1 := _) rfl ?_
  refine Gr.cons (v := (.bool true)) (σ1 := _) rfl ?_
  refine Gr.cons (v := (.bool true)) (σ1 := _) rfl ?_
  refine Gr.cons (v := uv) (σ1 := _) rfl ?_
  refine Gr.cons (v := uv) (σ1 := _) rfl ?_
  refine Gr.cons (v := uv) (σ1 := _) rfl ?_
  refine Gr.cons (v := uv) (σ1 := _) rfl ?_
  refine Gr.cons (v := uv) (σ1 := _) rfl ?_
  refine Gr.cons (v := uv) (σ1 := _) rfl ?_
  refine Gr.cons (v := uv) (σ1 := _) rfl ?_
  refine Gr.cons (v := uv) (σ1 := _) rfl ?_
  refine Gr.cons (v := (.bool true)) (σ1 := _) rfl ?_
  refine Gr.cons (v := (.bool true)) (σ1 := _) rfl ?_
  refine Gr.cons (v := uv) (σ1 := _) rfl ?_
  refine Gr.cons (v := uv) (σ1 := _) rfl ?_
  refine Gr.cons (v := uv) (σ1 := _) rfl ?_
  refine Gr.cons (v := uv) (σ1 := _) rfl ?_
  refine Gr.cons (v := uv) (σ1 := _) rfl ?_
  refine Gr.cons (v := uv) (σ1 := _) rfl ?_
  refine Gr.cons (v := uv) (σ1 := _) rfl ?_
  refine Gr.cons (v := uv) (σ1 := _) rfl ?_
  refine Gr.cons (v := (.bool true)) (σ1 := _) rfl ?_
  refine Gr.cons (v := (.bool true)) (σ1 := _) rfl ?_
  refine Gr.cons (v := uv) (σ1 := _) rfl ?_
  refine Gr.cons (v := uv) (σ1 := _) rfl ?_
  refine Gr.cons (v := uv) (σ1 := _) rfl ?_
  refine Gr.cons (v := uv) (σ1 := _) rfl ?_
  refine Gr.cons (v := uv) (σ1 := _) rfl ?_
  refine Gr.cons (v := uv) (σ1 := _) rfl ?_
  refine Gr.cons (v := uv) (σ1 := _) rfl ?_
  refine Gr.cons (v := uv) (σ1 := _) rfl ?_
  refine Gr.cons (v := (.bool true)) (σ1 := _) rfl ?_
  refine Gr.nil ?_
  refine Gx.condT rfl ?_
  refine Gx.seq ?_
  refine Gx.ops ?_
  refine Gr.cons (v := (.bool true)) (σ1 := _) rfl ?_
  refine Gr.cons (v := (.bool true)) (σ1 := _) rfl ?_
  refine Gr.nil ?_
  refine Gx.ret ?_
  refine ⟨(.bool true), rfl, ?_⟩
  rfl
theorem c2g2g    : Gc FA3 9 i4 [.agg [.int .i64 (.ofNat 2), .str []], .agg [.int .i64 (.ofNat 2), .str []]] σE fun v _ => v = .bool true := by
  refine Gc.code rfl rfl ?_
  refine Gx.seq ?_
  refine Gx.ops ?_
  refine Gr.cons (v := (.ptr ⟨.d0, .d0, .d1, .d0, .d0⟩ 0)) (σ1 := _) rfl ?_
  refine Gr.cons (v := (.ptr ⟨.d0, .d0, .d1, .d0, .d1⟩ 0)) (σ1 := _) rfl ?_
  refine Gr.cons (v := (.bool false)) (σ1 := _) rfl ?_
  refine Gr.nil ?_
  refine Gx.seq ?_
  refine Gx.seq ?_
  refine Gx.ops ?_
  refine Gr.cons (v := (.ptr ⟨.d0, .d0, .d1, .d0, .d0⟩ 0)) (σ1 := _) rfl ?_
  refine Gr.cons (v := (.int .i64 (.ofNat 2))) (σ1 := _) rfl ?_
  refine Gr.cons (v := (.bool false)) (σ1 := _) rfl ?_
  refine Gr.cons (v := (.bool false)) (σ1 := _) rfl ?_
  refine Gr.cons (v := (.ptr ⟨.d0, .d0, .d1, .d0, .d0⟩ 0)) (σ1 := _) rfl ?_
  refine Gr.cons (v := (.int .i64 (.ofNat 2))) (σ1 := _) rfl ?_
  refine Gr.cons (v := (.bool false)) (σ1 := _) rfl ?_
  refine Gr.cons (v := (.bool false)) (σ1 := _) rfl ?_
  refine Gr.cons (v := (.bool false)) (σ1 := _) rfl ?_
  refine Gr.cons (v := (.ptr ⟨.d0, .d0, .d1, .d0, .d1⟩ 0)) (σ1 := _) rfl ?_
  refine Gr.cons (v := (.int .i64 (.ofNat 2))) (σ1 := _) rfl ?_
  refine Gr.cons (v := (.bool false)) (σ1 := _) rfl ?_
  refine Gr.cons (v := (.bool false)) (σ1 := _) rfl ?_
  refine Gr.cons (v := (.bool false)) (σ1 := _) rfl ?_
  refine Gr.cons (v := (.ptr ⟨.d0, .d0, .d1, .d0, .d1⟩ 0)) (σ1 := _) rfl ?_
  refine Gr.cons (v := (.int .i64 (.ofNat 2))) (σ1 := _) rfl ?_
  refine Gr.cons (v := (.bool false)) (σ1 := _) rfl ?_
  refine Gr.cons (v := (.bool false)) (σ1 := _) rfl ?_
  refine Gr.cons (v := (.bool false)) (σ1 := _) rfl ?_
  refine Gr.cons (v := (.ptr ⟨.d0, .d0, .d1, .d0, .d0⟩ 0)) (σ1 := _) rfl ?_
  refine Gr.cons (v := (.int .i64 (.ofNat 2))) (σ1 := _) rfl ?_
  refine Gr.cons (v := (.bool true)) (σ1 := _) rfl ?_
  refine Gr.cons (v := (.bool true)) (σ1 := _) rfl ?_
  refine Gr.cons (v := (.ptr ⟨.d0, .d0, .d1, .d0, .d0⟩ 1)) (σ1 := _) rfl ?_
  refine Gr.cons (v := (.str [])) (σ1 := _) rfl ?_
  refine Gr.cons (v := (.bool false)) (σ1 := _) rfl ?_
  refine Gr.cons (v := (.bool false)) (σ1 := _) rfl ?_
  refine Gr.cons (v := (.bool false)) (σ1 := _) rfl ?_
  refine Gr.cons (v := (.bool false)) (σ1 := _) rfl ?_
  refine Gr.cons (v := (.ptr ⟨.d0, .d0, .d1, .d0, .d1⟩ 0)) (σ1 := _) rfl ?_
  refine Gr.cons (v := (.int .i64 (.ofNat 2))) (σ1 := _) rfl ?_
  refine Gr.cons (v := (.bool true)) (σ1 := _) rfl ?_
  refine Gr.cons (v := (.bool true)) (σ1 := _) rfl ?_
  refine Gr.cons (v := (.ptr ⟨.d0, .d0, .d1, .d0, .d1⟩ 1)) (σ1 := _) rfl ?_
  refine Gr.cons (v := (.str [])) (σ1 := _) rfl ?_
  refine Gr.cons (v := (.bool false)) (σ1 := _) rfl ?_
  refine Gr.cons (v := (.bool false)) (σ1 := _) rfl ?_
  refine Gr.cons (v := (.bool false)) (σ1 := _) rfl ?_
  refine Gr.cons (v := (.bool false)) (σ1 := _) rfl ?_
  refine Gr.cons (v := (.ptr ⟨.d0, .d0, .d1, .d0, .d0⟩ 0)) (σ1 := _) rfl ?_
  refine Gr.cons (v := (.int .i64 (.ofNat 2))) (σ1 := _) rfl ?_
  refine Gr.cons (v := (.bool false)) (σ1 := _) rfl ?_
  refine Gr.cons (v := (.bool false)) (σ1 := _) rfl ?_
  refine Gr.cons (v := uv) (σ1 := _) rfl ?_
  refine Gr.cons (v := uv) (σ1 := _) rfl ?_
  refine Gr.cons (v := uv) (σ1 := _) rfl ?_
  refine Gr.cons (v := (.bool false)) (σ1 := _) rfl ?_
  refine Gr.cons (v := (.bool false)) (σ1 := _) rfl ?_
  refine Gr.cons (v := (.bool false)) (σ1 := _) rfl ?_
  refine Gr.cons (v := (.ptr ⟨.d0, .d0, .d1, .d0, .d1⟩ 0)) (σ1 := _) rfl ?_
  refine Gr.cons (v := (.int .i64 (.ofNat 2))) (σ1 := _) rfl ?_
  refine Gr.cons (v := (.bool false)) (σ1 := _) rfl ?_
  refine Gr.cons (v := (.bool false)) (σ1 := _) rfl ?_
  refine Gr.cons (v := uv) (σ1 := _) rfl ?_
  refine Gr.cons (v := uv) (σ1 := _) rfl ?_
  refine Gr.cons (v := uv) (σ1 := _) rfl ?_
  refine Gr.cons (v := (.bool false)) (σ1 := _) rfl ?_
  refine Gr.cons (v := (.bool false)) (σ1 := _) rfl ?_
  refine Gr.nil ?_
  refine Gx.condF rfl ?_
  refine Gx.skip ?_
  refine Gx.seq ?_
  refine Gx.ops ?_
  refine Gr.cons (v := (.agg [.int .i64 (.ofNat 2), .str []])) (σ1 := _) rfl ?_
  refine Gr.cons (v := (.agg [.int .i64 (.ofNat 2), .str []])) (σ1 := _) rfl ?_
  refine Gr.callF (Gc.code rfl rfl ?_)
  refine Gx.seq ?_
  refine Gx.ops ?_
  refine Gr.cons (v := (.ptr ⟨.d0, .d0, .d1, .d0, .d2⟩ 0)) (σ1 := _) rfl ?_
  refine Gr.cons (v := (.ptr ⟨.d0, .d0, .d1, .d0, .d3⟩ 0)) (σ1 := _) rfl ?_
  refine Gr.cons (v := (.ptr ⟨.d0, .d0, .d1, .d0, .d4⟩ 0)) (σ1 := _) rfl ?_
  refine Gr.cons (v := (.int .i64 (.ofNat 0))) (σ1 := _) rfl ?_
  refine Gr.nil ?_
  refine Gx.seq ?_
  refine Gx.seq ?_
  refine Gx.ops ?_
  refine Gr.cons (v := (.ptr ⟨.d0, .d0, .d1, .d0, .d2⟩ 0)) (σ1 := _) rfl ?_
  refine Gr.cons (v := (.int .i64 (.ofNat 2))) (σ1 := _) rfl ?_
  refine Gr.cons (v := (.ptr ⟨.d0, .d0, .d1, .d0, .d3⟩ 0)) (σ1 := _) rfl ?_
  refine Gr.cons (v := (.int .i64 (.ofNat 2))) (σ1 := _) rfl ?_
  refine Gr.cons (v := (.agg [.int .i64 (.ofNat 2), .int .i64 (.ofNat 2)])) (σ1 := _) rfl ?_
  refine Gr.nil ?_
  refine Gx.block ?_
  refine Gx.seq ?_
  refine Gx.ops ?_
  refine Gr.cons (v := (.agg [.int .i64 (.ofNat 3), .int .i64 (.ofNat 3)])) (σ1 := _) rfl ?_
  refine Gr.cons (v := (.bool false)) (σ1 := _) rfl ?_
  refine Gr.cons (v := (.bool false)) (σ1 := _) rfl ?_
  refine Gr.nil ?_
  refine Gx.condF rfl ?_
  refine Gx.seq ?_
  refine Gx.ops ?_
  refine Gr.cons (v := (.agg [.int .i64 (.ofNat 1), .int .i64 (.ofNat 1)])) (σ1 := _) rfl ?_
  refine Gr.cons (v := (.bool false)) (σ1 := _) rfl ?_
  refine Gr.cons (v := (.bool false)) (σ1 := _) rfl ?_
  refine Gr.nil ?_
  refine Gx.condF rfl ?_
  refine Gx.skip ?_
  refine Gx.seq ?_
  refine Gx.seq ?_
  refine Gx.ops ?_
  refine Gr.cons (v := (.ptr ⟨.d0, .d0, .d1, .d0, .d3⟩ 0)) (σ1 := _) rfl ?_
  refine Gr.cons (v := (.int .i64 (.ofNat 2))) (σ1 := _) rfl ?_
  refine Gr.cons (v := (.ptr ⟨.d0, .d0, .d1, .d0, .d2⟩ 0)) (σ1 := _) rfl ?_
  refine Gr.cons (v := (.int .i64 (.ofNat 2))) (σ1 := _) rfl ?_
  refine Gr.cons (v := (.bool false)) (σ1 := _) rfl ?_
  refine Gr.nil ?_
  refine Gx.condF rfl ?_
  refine Gx.skip ?_
  refine Gx.seq ?_
  refine Gx.ops ?_
  refine Gr.cons (v := (.agg [.int .i64 (.ofNat 2), .str []])) (σ1 := _) rfl ?_
  refine Gr.cons (v := uv) (σ1 := _) rfl ?_
  refine Gr.cons (v := (.int .i64 (.ofNat 0))) (σ1 := _) rfl ?_
  refine Gr.nil ?_
  refine Gx.ret ?_
  refine ⟨(.tup [.agg [.int .i64 (.ofNat 2), .str []], .int .i64 (.ofNat 0)]), rfl, ?_⟩
  refine Gr.cons (v := (.tup [.agg [.int .i64 (.ofNat 2), .str []], .int .i64 (.ofNat 0)])) (σ1 := _) rfl ?_
  refine Gr.cons (v := (.agg [.int .i64 (.ofNat 2), .str []])) (σ1 := _) rfl ?_
  refine Gr.cons (v := (.int .i64 (.ofNat 0))) (σ1 := _) rfl ?_
  refine Gr.cons (v := (.ptr ⟨.d0, .d0, .d1, .d0, .d5⟩ 0)) (σ1 := _) rfl ?_
  refine Gr.cons (v := uv) (σ1 := _) rfl ?_
  refine Gr.cons (v := (.int .i64 (.ofNat 0))) (σ1 := _) rfl ?_
  refine Gr.nil ?_
  refine Gx.seq ?_
  refine Gx.ops ?_
  refine Gr.cons (v := (.agg [.int .i64 (.ofNat 2), .str []])) (σ1 := _) rfl ?_
  refine Gr.cons (v := (.agg [.int .i64 (.ofNat 2), .str []])) (σ1 := _) rfl ?_
  refine Gr.callF (Gc.code rfl rfl ?_)
  refine Gx.seq ?_
  refine Gx.ops ?_
  refine Gr.cons (v := (.ptr ⟨.d0, .d0, .d1, .d0, .d6⟩ 0)) (σ1 := _) rfl ?_
  refine Gr.cons (v := (.ptr ⟨.d0, .d0, .d1, .d0, .d7⟩ 0)) (σ1 := _) rfl ?_
  refine Gr.cons (v := (.ptr ⟨.d0, .d0, .d1, .d1, .d0⟩ 0)) (σ1 := _) rfl ?_
  refine Gr.cons (v := (.int .i64 (.ofNat 0))) (σ1 := _) rfl ?_
  refine Gr.nil ?_
  refine Gx.seq ?_
  refine Gx.block ?_
  refine Gx.seq ?_
  refine Gx.ops ?_
  refine Gr.cons (v := (.ptr ⟨.d0, .d0, .d1, .d0, .d6⟩ 0)) (σ1 := _) rfl ?_
  refine Gr.cons (v := (.int .i64 (.ofNat 2))) (σ1 := _) rfl ?_
  refine Gr.cons (v := (.bool false)) (σ1 := _) rfl ?_
  refine Gr.cons (v := (.bool false)) (σ1 := _) rfl ?_
  refine Gr.cons (v := uv) (σ1 := _) rfl ?_
  refine Gr.cons (v := uv) (σ1 := _) rfl ?_
  refine Gr.cons (v := uv) (σ1 := _) rfl ?_
  refine Gr.cons (v := (.bool false)) (σ1 := _) rfl ?_
  refine Gr.cons (v := (.bool false)) (σ1 := _) rfl ?_
  refine Gr.cons (v := uv) (σ1 := _) rfl ?_
  refine Gr.cons (v := uv) (σ1 := _) rfl ?_
  refine Gr.cons (v := uv) (σ1 := _) rfl ?_
  refine Gr.cons (v := uv) (σ1 := _) rfl ?_
  refine Gr.cons (v := uv) (σ1 := _) rfl ?_
  refine Gr.cons (v := (.bool false)) (σ1 := _) rfl ?_
  refine Gr.cons (v := (.bool false)) (σ1 := _) rfl ?_
  refine Gr.nil ?_
  refine Gx.condF rfl ?_
  refine Gx.seq ?_
  refine Gx.ops ?_
  refine Gr.cons (v := (.ptr ⟨.d0, .d0, .d1, .d0, .d6⟩ 0)) (σ1 := _) rfl ?_
  refine Gr.cons (v := (.int .i64 (.ofNat 2))) (σ1 := _) rfl ?_
  refine Gr.cons (v := (.ptr ⟨.d0, .d0, .d1, .d0, .d7⟩ 0)) (σ1 := _) rfl ?_
  refine Gr.cons (v := (.int .i64 (.ofNat 2))) (σ1 := _) rfl ?_
  refine Gr.cons (v := (.bool false)) (σ1 := _) rfl ?_
  refine Gr.cons (v := (.bool false)) (σ1 := _) rfl ?_
  refine Gr.nil ?_
  refine Gx.condF rfl ?_
  refine Gx.seq ?_
  refine Gx.ops ?_
  refine Gr.cons (v := (.ptr ⟨.d0, .d0, .d1, .d0, .d6⟩ 0)) (σ1 := _) rfl ?_
  refine Gr.cons (v := (.int .i64 (.ofNat 2))) (σ1 := _) rfl ?_
  refine Gr.cons (v := (.bool false)) (σ1 := _) rfl ?_
  refine Gr.cons (v := (.bool false)) (σ1 := _) rfl ?_
  refine Gr.cons (v := uv) (σ1 := _) rfl ?_
  refine Gr.cons (v := uv) (σ1 := _) rfl ?_
  refine Gr.cons (v := uv) (σ1 := _) rfl ?_
  refine Gr.cons (v := uv) (σ1 := _) rfl ?_
  refine Gr.cons (v := uv) (σ1 := _) rfl ?_
  refine Gr.cons (v := (.bool false)) (σ1 := _) rfl ?_
  refine Gr.cons (v := (.bool false)) (σ1 := _) rfl ?_
  refine Gr.nil ?_
  refine Gx.condF rfl ?_
  refine Gx.skip ?_
  refine Gx.seq ?_
  refine Gx.ops ?_
  refine Gr.cons (v := (.agg [.int .i64 (.ofNat 2), .str []])) (σ1 := _) rfl ?_
  refine Gr.cons (v := uv) (σ1 := _) rfl ?_
  refine Gr.cons (v := (.int .i64 (.ofNat 0))) (σ1 := _) rfl ?_
  refine Gr.nil ?_
  refine Gx.ret ?_
  refine ⟨(.tup [.agg [.int .i64 (.ofNat 2), .str []], .int .i64 (.ofNat 0)]), rfl, ?_⟩
  refine Gr.cons (v := (.tup [.agg [.int .i64 (.ofNat 2), .str []], .int .i64 (.ofNat 0)])) (σ1 := _) rfl ?_
  refine Gr.cons (v := (.agg [.int .i64 (.ofNat 2), .str []])) (σ1 := _) rfl ?_
  refine Gr.cons (v := (.int .i64 (.ofNat 0))) (σ1 := _) rfl ?_
  refine Gr.cons (v := (.ptr ⟨.d0, .d0, .d1, .d1, .d1⟩ 0)) (σ1 := _) rfl ?_
  refine Gr.cons (v := uv) (σ1 := _) rfl ?_
  refine Gr.cons (v := (.int .i64 (.ofNat 0))) (σ1 := _) rfl ?_
  refine Gr.nil ?_
  refine Gx.seq ?_
  refine Gx.ops ?_
  refine Gr.cons (v := (.agg [.int .i64 (.ofNat 2), .str []])) (σ1 := _) rfl ?_
  refine Gr.cons (v := (.agg [.int .i64 (.ofNat 2), .str []])) (σ1 := _) rfl ?_
  refine Gr.eqF rfl rfl ?_
  refine Gr.cons (v := (.bool true)) (σ1 := _) rfl ?_
  refine Gr.cons (v := (.int .i64 (.ofNat 0))) (σ1 := _) rfl ?_
  refine Gr.cons (v := (.int .i64 (.ofNat 0))) (σ1 := _) rfl ?_
  refine Gr.cons (v := (.bool true)) (σ1 := _) rfl ?_
  refine Gr.cons (v := (.bool true)) (σ1 := _) rfl ?_
  refine Gr.cons (v := (.bool true)) (σ1 := _) rfl ?_
  refine Gr.cons (v := (.bool true)) (σ1 := _) rfl ?_
  refine Gr.cons (v := (.bool true)) (σ1 := _) rfl ?_
  refine Gr.cons (v := (.bool true)) (σ1 := _) rfl ?_
  refine Gr.nil ?_
  refine Gx.ret ?_
  refine ⟨(.bool true), rfl, ?_⟩
  rfl
theorem c2g2b (lb : List Nat)  (hlb : seq8 lb [] = false) : Gc FA3 9 i4 [.agg [.int .i64 (.ofNat 2), .str []], .agg [.int .i64 (.ofNat 2), .str lb]] σE fun v _ => v = .bool true := by
  refine Gc.code rfl rfl ?_
  refine Gx.seq ?_
  refine Gx.ops ?_
  refine Gr.cons (v := (.ptr ⟨.d0, .d0, .d1, .d0, .d0⟩ 0)) (σ1 := _) rfl ?_
  refine Gr.cons (v := (.ptr ⟨.d0, .d0, .d1, .d0, .d1⟩ 0)) (σ1 := _) rfl ?_
  refine Gr.cons (v := (.bool false)) (σ1 := _) rfl ?_
  refine Gr.nil ?_
  refine Gx.seq ?_
  refine Gx.seq ?_
  refine Gx.ops ?_
  refine Gr.cons (v := (.ptr ⟨.d0, .d0, .d1, .d0, .d0⟩ 0)) (σ1 := _) rfl ?_
  refine Gr.cons (v := (.int .i64 (.ofNat 2))) (σ1 := _) rfl ?_
  refine Gr.cons (v := (.bool false)) (σ1 := _) rfl ?_
  refine Gr.cons (v := (.bool false)) (σ1 := _) rfl ?_
  refine Gr.cons (v := (.ptr ⟨.d0, .d0, .d1, .d0, .d0⟩ 0)) (σ1 := _) rfl ?_
  refine Gr.cons (v := (.int .i64 (.ofNat 2))) (σ1 := _) rfl ?_
  refine Gr.cons (v := (.bool false)) (σ1 := _) rfl ?_
  refine Gr.cons (v := (.bool false)) (σ1 := _) rfl ?_
  refine Gr.cons (v := (.bool false)) (σ1 := _) rfl ?_
  refine Gr.cons (v := (.ptr ⟨.d0, .d0, .d1, .d0, .d1⟩ 0)) (σ1 := _) rfl ?_
  refine Gr.cons (v := (.int .i64 (.ofNat 2))) (σ1 := _) rfl ?_
  refine Gr.cons (v := (.bool false)) (σ1 := _) rfl ?_
  refine Gr.cons (v := (.bool false)) (σ1 := _) rfl ?_
  refine Gr.cons (v := (.bool false)) (σ1 := _) rfl ?_
  refine Gr.cons (v := (.ptr ⟨.d0, .d0, .d1, .d0, .d1⟩ 0)) (σ1 := _) rfl ?_
  refine Gr.cons (v := (.int .i64 (.ofNat 2))) (σ1 := _) rfl ?_
  refine Gr.cons (v := (.bool false)) (σ1 := _) rfl ?_
  refine Gr.cons (v := (.bool false)) (σ1 := _) rfl ?_
  refine Gr.cons (v := (.bool false)) (σ1 := _) rfl ?_
  refine Gr.cons (v := (.ptr ⟨.d0, .d0, .d1, .d0, .d0⟩ 0)) (σ1 := _) rfl ?_
  refine Gr.cons (v := (.int .i64 (.ofNat 2))) (σ1 := _) rfl ?_
  refine Gr.cons (v := (.bool true)) (σ1 := _) rfl ?_
  refine Gr.cons (v := (.bool true)) (σ1 := _) rfl ?_
  refine Gr.cons (v := (.ptr ⟨.d0, .d0, .d1, .d0, .d0⟩ 1)) (σ1 := _) rfl ?_
  refine Gr.cons (v := (.str [])) (σ1 := _) rfl ?_
  refine Gr.cons (v := (.bool false)) (σ1 := _) rfl ?_
  refine Gr.cons (v := (.bool false)) (σ1 := _) rfl ?_
  refine Gr.cons (v := (.bool false)) (σ1 := _) rfl ?_
  refine Gr.cons (v := (.bool false)) (σ1 := _) rfl ?_
  refine Gr.cons (v := (.ptr ⟨.d0, .d0, .d1, .d0, .d1⟩ 0)) (σ1 := _) rfl ?_
  refine Gr.cons (v := (.int .i64 (.ofNat 2))) (σ1 := _) rfl ?_
  refine Gr.cons (v := (.bool true)) (σ1 := _) rfl ?_
  refine Gr.cons (v := (.bool true)) (σ1 := _) rfl ?_
  refine Gr.cons (v := (.ptr ⟨.d0, .d0, .d1, .d0, .d1⟩ 1)) (σ1 := _) rfl ?_
  refine Gr.cons (v := (.str lb)) (σ1 := _) rfl ?_
  refine Gr.binS (b := (not8 (seq8 lb []))) (b' := true) rfl (by rw [hlb]; rfl) ?_
  refine Gr.cons (v := (.bool true)) (σ1 := _) rfl ?_
  refine Gr.cons (v := (.bool true)) (σ1 := _) rfl ?_
  refine Gr.cons (v := (.bool true)) (σ1 := _) rfl ?_
  refine Gr.cons (v := uv) (σ1 := _) rfl ?_
  refine Gr.cons (v := uv) (σ1 := _) rfl ?_
  refine Gr.cons (v := uv) (σ1 := _) rfl ?_
  refine Gr.cons (v := uv) (σ1 := _) rfl ?_
  refine Gr.cons (v := uv) (σ1 := _) rfl ?_
  refine Gr.cons (v := uv) (σ1 := _) rfl ?_
  refine Gr.cons (v := uv) (σ1 := _) rfl ?_
  refine Gr.cons (v := uv) (σ1 := _) rfl ?_
  refine Gr.cons (v := (.bool true)) (σ1 := _) rfl ?_
  refine Gr.cons (v := (.bool true)) (σ1 := _) rfl ?_
  refine Gr.cons (v := uv) (σ1 := _) rfl ?_
  refine Gr.cons (v := uv) (σ1 := _) rfl ?_
  refine Gr.cons (v := uv) (σ1 := _) rfl ?_
  refine Gr.cons (v := uv) (σ1 := _) rfl ?_
  refine Gr.cons (v := uv) (σ1 := _) rfl ?_
  refine Gr.cons (v := uv) (σ1 := _) rfl ?_
  refine Gr.cons (v := uv) (σ1 := _) rfl ?_
  refine Gr.cons (v := uv) (σ1 := _) rfl ?_
  refine Gr.cons (v := (.bool true)) (σ1 := _) rfl ?_
  refine Gr.nil ?_
  refine Gx.condT rfl ?_
  refine Gx.seq ?_
  refine Gx.ops ?_
  refine Gr.cons (v := (.bool true)) (σ1 := _) rfl ?_
  refine Gr.cons (v := (.bool true)) (σ1 := _) rfl ?_
  refine Gr.nil ?_
  refine Gx.ret ?_
  refine ⟨(.bool true), rfl, ?_⟩
  rfl
theorem c2b2g (la : List Nat) (hla : seq8 la [] = false)  : Gc FA3 9 i4 [.agg [.int .i64 (.ofNat 2), .str la], .agg [.int .i64 (.ofNat 2), .str []]] σE fun v _ => v = .bool true := by
  refine Gc.code rfl rfl ?_
  refine Gx.seq ?_
  refine Gx.ops ?_
  refine Gr.cons (v := (.ptr ⟨.d0, .d0, .d1, .d0, .d0⟩ 0)) (σ1 := _) rfl ?_
  refine Gr.cons (v := (.ptr ⟨.d0, .d0, .d1, .d0, .d1⟩ 0)) (σ1 := _) rfl ?_
  refine Gr.cons (v := (.bool false)) (σ1 := _) rfl ?_
  refine Gr.nil ?_
  refine Gx.seq ?_
  refine Gx.seq ?_
  refine Gx.ops ?_
  refine Gr.cons (v := (.ptr ⟨.d0, .d0, .d1, .d0, .d0⟩ 0)) (σ1 := _) rfl ?_
  refine Gr.cons (v := (.int .i64 (.ofNat 2))) (σ1 := _) rfl ?_
  refine Gr.cons (v := (.bool false)) (σ1 := _) rfl ?_
  refine Gr.cons (v := (.bool false)) (σ1 := _) rfl ?_
  refine Gr.cons (v := (.ptr ⟨.d0, .d0, .d1, .d0, .d0⟩ 0)) (σ1 := _) rfl ?_
  refine Gr.cons (v := (.int .i64 (.ofNat 2))) (σ1 := _) rfl ?_
  refine Gr.cons (v := (.bool false)) (σ1 := _) rfl ?_
  refine Gr.cons (v := (.bool false)) (σ1 := _) rfl ?_
  refine Gr.cons (v := (.bool false)) (σ1 := _) rfl ?_
  refine Gr.cons (v := (.ptr ⟨.d0, .d0, .d1, .d0, .d1⟩ 0)) (σ1 := _) rfl ?_
  refine Gr.cons (v := (.int .i64 (.ofNat 2))) (σ1 := _) rfl ?_
  refine Gr.cons (v := (.bool false)) (σ1 := _) rfl ?_
  refine Gr.cons (v := (.bool false)) (σ1 := _) rfl ?_
  refine Gr.cons (v := (.bool false)) (σ1 := _) rfl ?_
  refine Gr.cons (v := (.ptr ⟨.d0, .d0, .d1, .d0, .d1⟩ 0)) (σ1 := _) rfl ?_
  refine Gr.cons (v := (.int .i64 (.ofNat 2))) (σ1 := _) rfl ?_
  refine Gr.cons (v := (.bool false)) (σ1 := _) rfl ?_
  refine Gr.cons (v := (.bool false)) (σ1 := _) rfl ?_
  refine Gr.cons (v := (.bool false)) (σ1 := _) rfl ?_
  refine Gr.cons (v := (.ptr ⟨.d0, .d0, .d1, .d0, .d0⟩ 0)) (σ1 := _) rfl ?_
  refine Gr.cons (v := (.int .i64 (.ofNat 2))) (σ1 := _) rfl ?_
  refine Gr.cons (v := (.bool true)) (σ1 := _) rfl ?_
  refine Gr.cons (v := (.bool true)) (σ1 := _) rfl ?_
  refine Gr.cons (v := (.ptr ⟨.d0, .d0, .d1, .d0, .d0⟩ 1)) (σ1 := _) rfl ?_
  refine Gr.cons (v := (.str la)) (σ1 := _) rfl ?_
  refine Gr.binS (b := (not8 (seq8 la []))) (b' := true) rfl (by rw [hla]; rfl) ?_
  refine Gr.cons (v := (.bool true)) (σ1 := _) rfl ?_
  refine Gr.cons (v := (.bool true)) (σ1 := _) rfl ?_
  refine Gr.cons (v := (.bool true)) (σ1 := _) rfl ?_
  refine Gr.cons (v := uv) (σ1 := _) rfl ?_
  refine Gr.cons (v := uv) (σ1 := _) rfl ?_
  refine Gr.cons (v := uv) (σ1 := _) rfl ?_
  refine Gr.cons (v := uv) (σ1 := _) rfl ?_
  refine Gr.cons (v := uv) (σ1 := _) rfl ?_
  refine Gr.cons (v := uv) (σ1 := _) rfl ?_
  refine Gr.cons (v := uv) (σ1 := _) rfl ?_
  refine Gr.cons (v := uv) (σ1 := _) rfl ?_
  refine Gr.cons (v := (.bool true)) (σ1 := _) rfl ?_
  refine Gr.cons (v := (.bool true)) (σ1 := _) rfl ?_
  refine Gr.cons (v := uv) (σ1 := _) rfl ?_
  refine Gr.cons (v := uv) (σ1 := _) rfl ?_
  refine Gr.cons (v := uv) (σ1 := _) rfl ?_
  refine Gr.cons (v := uv) (σ1 := _) rfl ?_
  refine Gr.cons (v := uv) (σ1 := _) rfl ?_
  refine Gr.cons (v := uv) (σ1 := _) rfl ?_
  refine Gr.cons (v := uv) (σ1 := _) rfl ?_
  refine Gr.cons (v := uv) (σ1 := _) rfl ?_
  refine Gr.cons (v := (.bool true)) (σ1 := _) rfl ?_
  refine Gr.cons (v := (.bool true)) (σ1 := _) rfl ?_
  refine Gr.cons (v := uv) (σ1 := _) rfl ?_
  refine Gr.cons (v := uv) (σ1 := _) rfl ?_
  refine Gr.cons (v := uv) (σ1 := _) rfl ?_
  refine Gr.cons (v := uv) (σ1 := _) rfl ?_
  refine Gr.cons (v := uv) (σ1 := _) rfl ?_
  refine Gr.cons (v := uv) (σ1 := _) rfl ?_
  refine Gr.cons (v := uv) (σ1 := _) rfl ?_
  refine Gr.cons (v := uv) (σ1 := _) rfl ?_
  refine Gr.cons (v := (.bool true)) (σ1 := _) rfl ?_
  refine Gr.nil ?_
  refine Gx.condT rfl ?_
  refine Gx.seq ?_
  refine Gx.ops ?_
  refine Gr.cons (v := (.bool true)) (σ1 := _) rfl ?_
  refine Gr.cons (v := (.bool true)) (σ1 := _) rfl ?_
  refine Gr.nil ?_
  refine Gx.ret ?_
  refine ⟨(.bool true), rfl, ?_⟩
  rfl
theorem c2b2b (la : List Nat) (lb : List Nat) (hla : seq8 la [] = false) (hlb : seq8 lb [] = false) : Gc FA3 9 i4 [.agg [.int .i64 (.ofNat 2), .str la], .agg [.int .i64 (.ofNat 2), .str lb]] σE fun v _ => v = .bool true := by
  refine Gc.code rfl rfl ?_
  refine Gx.seq ?_
  refine Gx.ops ?_
  refine Gr.cons (v := (.ptr ⟨.d0, .d0, .d1, .d0, .d0⟩ 0)) (σ1 := _) rfl ?_
  refine Gr.cons (v := (.ptr ⟨.d0, .d0, .d1, .d0, .d1⟩ 0)) (σ1 := _) rfl ?_
  refine Gr.cons (v := (.bool false)) (σ1 := _) rfl ?_
  refine Gr.nil ?_
  refine Gx.seq ?_
  refine Gx.seq ?_
  refine Gx.ops ?_
  refine Gr.cons (v := (.ptr ⟨.d0, .d0, .d1, .d0, .d0⟩ 0)) (σ1 := _) rfl ?_
  refine Gr.cons (v := (.int .i64 (.ofNat 2))) (σ1 := _) rfl ?_
  refine Gr.cons (v := (.bool false)) (σ1 := _) rfl ?_
  refine Gr.cons (v := (.bool false)) (σ1 := _) rfl ?_
  refine Gr.cons (v := (.ptr ⟨.d0, .d0, .d1, .d0, .d0⟩ 0)) (σ1 := _) rfl ?_
  refine Gr.cons (v := (.int .i64 (.ofNat 2))) (σ1 := _) rfl ?_
  refine Gr.cons (v := (.bool false)) (σ1 := _) rfl ?_
  refine Gr.cons (v := (.bool false)) (σ1 := _) rfl ?_
  refine Gr.cons (v := (.bool false)) (σ1 := _) rfl ?_
  refine Gr.cons (v := (.ptr ⟨.d0, .d0, .d1, .d0, .d1⟩ 0)) (σ1 := _) rfl ?_
  refine Gr.cons (v := (.int .i64 (.ofNat 2))) (σ1 := _) rfl ?_
  refine Gr.cons (v := (.bool false)) (σ1 := _) rfl ?_
  refine Gr.cons (v := (.bool false)) (σ1 := _) rfl ?_
  refine Gr.cons (v := (.bool false)) (σ1 := _) rfl ?_
  refine Gr.cons (v := (.ptr ⟨.d0, .d0, .d1, .d0, .d1⟩ 0)) (σ1 := _) rfl ?_
  refine Gr.cons (v := (.int .i64 (.ofNat 2))) (σ1 := _) rfl ?_
  refine Gr.cons (v := (.bool false)) (σ1 := _) rfl ?_
  refine Gr.cons (v := (.bool false)) (σ1 := _) rfl ?_
  refine Gr.cons (v := (.bool false)) (σ1 := _) rfl ?_
  refine Gr.cons (v := (.ptr ⟨.d0, .d0, .d1, .d0, .d0⟩ 0)) (σ1 := _) rfl ?_
  refine Gr.cons (v := (.int .i64 (.ofNat 2))) (σ1 := _) rfl ?_
  refine Gr.cons (v := (.bool true)) (σ1 := _) rfl ?_
  refine Gr.cons (v := (.bool true)) (σ1 := _) rfl ?_
  refine Gr.cons (v := (.ptr ⟨.d0, .d0, .d1, .d0, .d0⟩ 1)) (σ1 := _) rfl ?_
  refine Gr.cons (v := (.str la)) (σ1 := _) rfl ?_
  refine Gr.binS (b := (not8 (seq8 la []))) (b' := true) rfl (by rw [hla]; rfl) ?_
  refine Gr.cons (v := (.bool true)) (σ1 := _) rfl ?_
  refine Gr.cons (v := (.bool true)) (σ1 := _) rfl ?_
  refine Gr.cons (v := (.bool true)) (σ1 := _) rfl ?_
  refine Gr.cons (v := uv) (σ1 := _) rfl ?_
  refine Gr.cons (v := uv) (σ1 := _) rfl ?_
  refine Gr.cons (v := uv) (σ1 := _) rfl ?_
  refine Gr.cons (v := uv) (σ1 := _) rfl ?_
  refine Gr.cons (v := uv) (σ1 := _) rfl ?_
  refine Gr.cons (v := uv) (σ1 := _) rfl ?_
  refine Gr.cons (v := uv) (σ1 := _) rfl ?_
  refine Gr.cons (v := uv) (σ1 := _) rfl ?_
  refine Gr.cons (v := (.bool true)) (σ1 := _) rfl ?_
  refine Gr.cons (v := (.bool true)) (σ1 := _) rfl ?_
  refine Gr.cons (v := uv) (σ1 := _) rfl ?_
  refine Gr.cons (v := uv) (σ1 := _) rfl ?_
  refine Gr.cons (v := uv) (σ1 := _) rfl ?_
  refine Gr.cons (v := uv) (σ1 := _) rfl ?_
  refine Gr.cons (v := uv) (σ1 := _) rfl ?_
  refine Gr.cons (v := uv) (σ1 := _) rfl ?_
  refine Gr.cons (v := uv) (σ1 := _) rfl ?_
  refine Gr.cons (v := uv) (σ1 := _) rfl ?_
  refine Gr.cons (v := (.bool true)) (σ1 := _) rfl ?_
  refine Gr.cons (v := (.bool true)) (σ1 := _) rfl ?_
  refine Gr.cons (v := uv) (σ1 := _) rfl ?_
  refine Gr.cons (v := uv) (σ1 := _) rfl ?_
  refine Gr.cons (v := uv) (σ1 := _) rfl ?_
  refine Gr.cons (v := uv) (σ1 := _) rfl ?_
  refine Gr.cons (v := uv) (σ1 := _) rfl ?_
  refine Gr.cons (v := uv) (σ1 := _) rfl ?_
  refine Gr.cons (v := uv) (σ1 := _) rfl ?_
  refine Gr.cons (v := uv) (σ1 := _) rfl ?_
  refine Gr.cons (v := (.bool true)) (σ1 := _) rfl ?_
  refine Gr.nil ?_
  refine Gx.condT rfl ?_
  refine Gx.seq ?_
  refine Gx.ops ?_
  refine Gr.cons (v := (.bool true)) (σ1 := _) rfl ?_
  refine Gr.cons (v := (.bool true)) (σ1 := _) rfl ?_
  refine Gr.nil ?_
  refine Gx.ret ?_
  refine ⟨(.bool true), rfl, ?_⟩
  rfl
theorem c2g3s (lb : List Nat)  (hlb : seq8 lb lb = true) : Gc FA3 9 i4 [.agg [.int .i64 (.ofNat 2), .str []], .agg [.int .i64 (.ofNat 3), .str lb]] σE fun v _ => v = .bool true := by
  refine Gc.code rfl rfl ?_
  refine Gx.seq ?_
  refine Gx.ops ?_
  refine Gr.cons (v := (.ptr ⟨.d0, .d0, .d1, .d0, .d0⟩ 0)) (σ1 := _) rfl ?_
  refine Gr.cons (v := (.ptr ⟨.d0, .d0, .d1, .d0, .d1⟩ 0)) (σ1 := _) rfl ?_
  refine Gr.cons (v := (.bool false)) (σ1 := _) rfl ?_
  refine Gr.nil ?_
  refine Gx.seq ?_
  refine Gx.seq ?_
  refine Gx.ops ?_
  refine Gr.cons (v := (.ptr ⟨.d0, .d0, .d1, .d0, .d0⟩ 0)) (σ1 := _) rfl ?_
  refine Gr.cons (v := (.int .i64 (.ofNat 2))) (σ1 := _) rfl ?_
  refine Gr.cons (v := (.bool false)) (σ1 := _) rfl ?_
  refine Gr.cons (v := (.bool false)) (σ1 := _) rfl ?_
  refine Gr.cons (v := (.ptr ⟨.d0, .d0, .d1, .d0, .d0⟩ 0)) (σ1 := _) rfl ?_
  refine Gr.cons (v := (.int .i64 (.ofNat 2))) (σ1 := _) rfl ?_
  refine Gr.cons (v := (.bool false)) (σ1 := _) rfl ?_
  refine Gr.cons (v := (.bool false)) (σ1 := _) rfl ?_
  refine Gr.cons (v := (.bool false)) (σ1 := _) rfl ?_
  refine Gr.cons (v := (.ptr ⟨.d0, .d0, .d1, .d0, .d1⟩ 0)) (σ1 := _) rfl ?_
  refine Gr.cons (v := (.int .i64 (.ofNat 3))) (σ1 := _) rfl ?_
  refine Gr.cons (v := (.bool false)) (σ1 := _) rfl ?_
  refine Gr.cons (v := (.bool false)) (σ1 := _) rfl ?_
  refine Gr.cons (v := (.bool false)) (σ1 := _) rfl ?_
  refine Gr.cons (v := (.ptr ⟨.d0, .d0, .d1, .d0, .d1⟩ 0)) (σ1 := _) rfl ?_
  refine Gr.cons (v := (.int .i64 (.ofNat 3))) (σ1 := _) rfl ?_
  refine Gr.cons (v := (.bool false)) (σ1 := _) rfl ?_
  refine Gr.cons (v := (.bool false)) (σ1 := _) rfl ?_
  refine Gr.cons (v := (.bool false)) (σ1 := _) rfl ?_
  refine Gr.cons (v := (.ptr ⟨.d0, .d0, .d1, .d0, .d0⟩ 0)) (σ1 := _) rfl ?_
  refine Gr.cons (v := (.int .i64 (.ofNat 2))) (σ1 := _) rfl ?_
  refine Gr.cons (v := (.bool true)) (σ1 := _) rfl ?_
  refine Gr.cons (v := (.bool true)) (σ1 := _) rfl ?_
  refine Gr.cons (v := (.ptr ⟨.d0, .d0, .d1, .d0, .d0⟩ 1)) (σ1 := _) rfl ?_
  refine Gr.cons (v := (.str [])) (σ1 := _) rfl ?_
  refine Gr.cons (v := (.bool false)) (σ1 := _) rfl ?_
  refine Gr.cons (v := (.bool false)) (σ1 := _) rfl ?_
  refine Gr.cons (v := (.bool false)) (σ1 := _) rfl ?_
  refine Gr.cons (v := (.bool false)) (σ1 := _) rfl ?_
  refine Gr.cons (v := (.ptr ⟨.d0, .d0, .d1, .d0, .d1⟩ 0)) (σ1 := _) rfl ?_
  refine Gr.cons (v := (.int .i64 (.ofNat 3))) (σ1 := _) rfl ?_
  refine Gr.cons (v := (.bool false)) (σ1 := _) rfl ?_
  refine Gr.cons (v := (.bool false)) (σ1 := _) rfl ?_
  refine Gr.cons (v := uv) (σ1 := _) rfl ?_
  refine Gr.cons (v := uv) (σ1 := _) rfl ?_
  refine Gr.cons (v := uv) (σ1 := _) rfl ?_
  refine Gr.cons (v := (.bool false)) (σ1 := _) rfl ?_
  refine Gr.cons (v := (.bool false)) (σ1 := _) rfl ?_
  refine Gr.cons (v := (.bool false)) (σ1 := _) rfl ?_
  refine Gr.cons (v := (.ptr ⟨.d0, .d0, .d1, .d0, .d0⟩ 0)) (σ1 := _) rfl ?_
  refine Gr.cons (v := (.int .i64 (.ofNat 2))) (σ1 := _) rfl ?_
  refine Gr.cons (v := (.bool false)) (σ1 := _) rfl ?_
  refine Gr.cons (v := (.bool false)) (σ1 := _) rfl ?_
  refine Gr.cons (v := uv) (σ1 := _) rfl ?_
  refine Gr.cons (v := uv) (σ1 := _) rfl ?_
  refine Gr.cons (v := uv) (σ1 := _) rfl ?_
  refine Gr.cons (v := (.bool false)) (σ1 := _) rfl ?_
  refine Gr.cons (v := (.bool false)) (σ1 := _) rfl ?_
  refine Gr.cons (v := (.bool false)) (σ1 := _) rfl ?_
  refine Gr.cons (v := (.ptr ⟨.d0, .d0, .d1, .d0, .d1⟩ 0)) (σ1 := _) rfl ?_
  refine Gr.cons (v := (.int .i64 (.ofNat 3))) (σ1 := _) rfl ?_
  refine Gr.cons (v := (.bool false)) (σ1 := _) rfl ?_
  refine Gr.cons (v := (.bool false)) (σ1 := _) rfl ?_
  refine Gr.cons (v := uv) (σ1 := _) rfl ?_
  refine Gr.cons (v := uv) (σ1 := _) rfl ?_
  refine Gr.cons (v := uv) (σ1 := _) rfl ?_
  refine Gr.cons (v := (.bool false)) (σ1 := _) rfl ?_
  refine Gr.cons (v := (.bool false)) (σ1 := _) rfl ?_
  refine Gr.nil ?_
  refine Gx.condF rfl ?_
  refine Gx.skip ?_
  refine Gx.seq ?_
  refine Gx.ops ?_
  refine Gr.cons (v := (.agg [.int .i64 (.ofNat 2), .str []])) (σ1 := _) rfl ?_
  refine Gr.cons (v := (.agg [.int .i64 (.ofNat 3), .str lb])) (σ1 := _) rfl ?_
  refine Gr.callF (Gc.code rfl rfl ?_)
  refine Gx.seq ?_
  refine Gx.ops ?_
  refine Gr.cons (v := (.ptr ⟨.d0, .d0, .d1, .d0, .d2⟩ 0)) (σ1 := _) rfl ?_
  refine Gr.cons (v := (.ptr ⟨.d0, .d0, .d1, .d0, .d3⟩ 0)) (σ1 := _) rfl ?_
  refine Gr.cons (v := (.ptr ⟨.d0, .d0, .d1, .d0, .d4⟩ 0)) (σ1 := _) rfl ?_
  refine Gr.cons (v := (.int .i64 (.ofNat 0))) (σ1 := _) rfl ?_
  refine Gr.nil ?_
  refine Gx.seq ?_
  refine Gx.seq ?_
  refine Gx.ops ?_
  refine Gr.cons (v := (.ptr ⟨.d0, .d0, .d1, .d0, .d2⟩ 0)) (σ1 := _) rfl ?_
  refine Gr.cons (v := (.int .i64 (.ofNat 2))) (σ1 := _) rfl ?_
  refine Gr.cons (v := (.ptr ⟨.d0, .d0, .d1, .d0, .d3⟩ 0)) (σ1 := _) rfl ?_
  refine Gr.cons (v := (.int .i64 (.ofNat 3))) (σ1 := _) rfl ?_
  refine Gr.cons (v := (.agg [.int .i64 (.ofNat 2), .int .i64 (.ofNat 3)])) (σ1 := _) rfl ?_
  refine Gr.nil ?_
  refine Gx.block ?_
  refine Gx.seq ?_
  refine Gx.ops ?_
  refine Gr.cons (v := (.agg [.int .i64 (.ofNat 3), .int .i64 (.ofNat 3)])) (σ1 := _) rfl ?_
  refine Gr.cons (v := (.bool false)) (σ1 := _) rfl ?_
  refine Gr.cons (v := (.bool false)) (σ1 := _) rfl ?_
  refine Gr.nil ?_
  refine Gx.condF rfl ?_
  refine Gx.seq ?_
  refine Gx.ops ?_
  refine Gr.cons (v := (.agg [.int .i64 (.ofNat 1), .int .i64 (.ofNat 1)])) (σ1 := _) rfl ?_
  refine Gr.cons (v := (.bool false)) (σ1 := _) rfl ?_
  refine Gr.cons (v := (.bool false)) (σ1 := _) rfl ?_
  refine Gr.nil ?_
  refine Gx.condF rfl ?_
  refine Gx.skip ?_
  refine Gx.seq ?_
  refine Gx.seq ?_
  refine Gx.ops ?_
  refine Gr.cons (v := (.ptr ⟨.d0, .d0, .d1, .d0, .d3⟩ 0)) (σ1 := _) rfl ?_
  refine Gr.cons (v := (.int .i64 (.ofNat 3))) (σ1 := _) rfl ?_
  refine Gr.cons (v := (.ptr ⟨.d0, .d0, .d1, .d0, .d2⟩ 0)) (σ1 := _) rfl ?_
  refine Gr.cons (v := (.int .i64 (.ofNat 2))) (σ1 := _) rfl ?_
  refine Gr.cons (v := (.bool true)) (σ1 := _) rfl ?_
  refine Gr.nil ?_
  refine Gx.condT rfl ?_
  refine Gx.seq ?_
  refine Gx.ops ?_
  refine Gr.cons (v := (.agg [.int .i64 (.ofNat 3), .str lb])) (σ1 := _) rfl ?_
  refine Gr.cons (v := uv) (σ1 := _) rfl ?_
  refine Gr.cons (v := (.int .i64 (.ofNat 0))) (σ1 := _) rfl ?_
  refine Gr.nil ?_
  refine Gx.ret ?_
  refine ⟨(.tup [.agg [.int .i64 (.ofNat 3), .str lb], .int .i64 (.ofNat 0)]), rfl, ?_⟩
  refine Gr.cons (v := (.tup [.agg [.int .i64 (.ofNat 3), .str lb], .int .i64 (.ofNat 0)])) (σ1 := _) rfl ?_
  refine Gr.cons (v := (.agg [.int .i64 (.ofNat 3), .str lb])) (σ1 := _) rfl ?_
  refine Gr.cons (v := (.int .i64 (.ofNat 0))) (σ1 := _) rfl ?_
  refine Gr.cons (v := (.ptr ⟨.d0, .d0, .d1, .d0, .d5⟩ 0)) (σ1 := _) rfl ?_
  refine Gr.cons (v := uv) (σ1 := _) rfl ?_
  refine Gr.cons (v := (.int .i64 (.ofNat 0))) (σ1 := _) rfl ?_
  refine Gr.nil ?_
  refine Gx.seq ?_
  refine Gx.ops ?_
  refine Gr.cons (v := (.agg [.int .i64 (.ofNat 2), .str []])) (σ1 := _) rfl ?_
  refine Gr.cons (v := (.agg [.int .i64 (.ofNat 3), .str lb])) (σ1 := _) rfl ?_
  refine Gr.callF (Gc.code rfl rfl ?_)
  refine Gx.seq ?_
  refine Gx.ops ?_
  refine Gr.cons (v := (.ptr ⟨.d0, .d0, .d1, .d0, .d6⟩ 0)) (σ1 := _) rfl ?_
  refine Gr.cons (v := (.ptr ⟨.d0, .d0, .d1, .d0, .d7⟩ 0)) (σ1 := _) rfl ?_
  refine Gr.cons (v := (.ptr ⟨.d0, .d0, .d1, .d1, .d0⟩ 0)) (σ1 := _) rfl ?_
  refine Gr.cons (v := (.int .i64 (.ofNat 0))) (σ1 := _) rfl ?_
  refine Gr.nil ?_
  refine Gx.seq ?_
  refine Gx.block ?_
  refine Gx.seq ?_
  refine Gx.ops ?_
  refine Gr.cons (v := (.ptr ⟨.d0, .d0, .d1, .d0, .d6⟩ 0)) (σ1 := _) rfl ?_
  refine Gr.cons (v := (.int .i64 (.ofNat 2))) (σ1 := _) rfl ?_
  refine Gr.cons (v := (.bool false)) (σ1 := _) rfl ?_
  refine Gr.cons (v := (.bool false)) (σ1 := _) rfl ?_
  refine Gr.cons (v := uv) (σ1 := _) rfl ?_
  refine Gr.cons (v := uv) (σ1 := _) rfl ?_
  refine Gr.cons (v := uv) (σ1 := _) rfl ?_
  refine Gr.cons (v := (.bool false)) (σ1 := _) rfl ?_
  refine Gr.cons (v := (.bool false)) (σ1 := _) rfl ?_
  refine Gr.cons (v := uv) (σ1 := _) rfl ?_
  refine Gr.cons (v := uv) (σ1 := _) rfl ?_
  refine Gr.cons (v := uv) (σ1 := _) rfl ?_
  refine Gr.cons (v := uv) (σ1 := _) rfl ?_
  refine Gr.cons (v := uv) (σ1 := _) rfl ?_
  refine Gr.cons (v := (.bool false)) (σ1 := _) rfl ?_
  refine Gr.cons (v := (.bool false)) (σ1 := _) rfl ?_
  refine Gr.nil ?_
  refine Gx.condF rfl ?_
  refine Gx.seq ?_
  refine Gx.ops ?_
  refine Gr.cons (v := (.ptr ⟨.d0, .d0, .d1, .d0, .d6⟩ 0)) (σ1 := _) rfl ?_
  refine Gr.cons (v := (.int .i64 (.ofNat 2))) (σ1 := _) rfl ?_
  refine Gr.cons (v := (.ptr ⟨.d0, .d0, .d1, .d0, .d7⟩ 0)) (σ1 := _) rfl ?_
  refine Gr.cons (v := (.int .i64 (.ofNat 3))) (σ1 := _) rfl ?_
  refine Gr.cons (v := (.bool true)) (σ1 := _) rfl ?_
  refine Gr.cons (v := (.bool true)) (σ1 := _) rfl ?_
  refine Gr.nil ?_
  refine Gx.condT rfl ?_
  refine Gx.seq ?_
  refine Gx.seq ?_
  refine Gx.ops ?_
  refine Gr.cons (v := (.ptr ⟨.d0, .d0, .d1, .d0, .d6⟩ 0)) (σ1 := _) rfl ?_
  refine Gr.cons (v := (.int .i64 (.ofNat 2))) (σ1 := _) rfl ?_
  refine Gr.cons (v := (.ptr ⟨.d0, .d0, .d1, .d0, .d7⟩ 0)) (σ1 := _) rfl ?_
  refine Gr.cons (v := (.int .i64 (.ofNat 3))) (σ1 := _) rfl ?_
  refine Gr.cons (v := (.bool false)) (σ1 := _) rfl ?_
  refine Gr.nil ?_
  refine Gx.condF rfl ?_
  refine Gx.skip ?_
  refine Gx.seq ?_
  refine Gx.ops ?_
  refine Gr.cons (v := (.agg [.int .i64 (.ofNat 3), .str lb])) (σ1 := _) rfl ?_
  refine Gr.cons (v := uv) (σ1 := _) rfl ?_
  refine Gr.cons (v := (.int .i64 (.ofNat 0))) (σ1 := _) rfl ?_
  refine Gr.nil ?_
  refine Gx.ret ?_
  refine ⟨(.tup [.agg [.int .i64 (.ofNat 3), .str lb], .int .i64 (.ofNat 0)]), rfl, ?_⟩
  refine Gr.cons (v := (.tup [.agg [.int .i64 (.ofNat 3), .str lb], .int .i64 (.ofNat 0)])) (σ1 := _) rfl ?_
  refine Gr.cons (v := (.agg [.int .i64 (.ofNat 3), .str lb])) (σ1 := _) rfl ?_
  refine Gr.cons (v := (.int .i64 (.ofNat 0))) (σ1 := _) rfl ?_
  refine Gr.cons (v := (.ptr ⟨.d0, .d0, .d1, .d1, .d1⟩ 0)) (σ1 := _) rfl ?_
  refine Gr.cons (v := uv) (σ1 := _) rfl ?_
  refine Gr.cons (v := (.int .i64 (.ofNat 0))) (σ1 := _) rfl ?_
  refine Gr.nil ?_
  refine Gx.seq ?_
  refine Gx.ops ?_
  refine Gr.cons (v := (.agg [.int .i64 (.ofNat 3), .str lb])) (σ1 := _) rfl ?_
  refine Gr.cons (v := (.agg [.int .i64 (.ofNat 3), .str lb])) (σ1 := _) rfl ?_
  refine Gr.eqF rfl rfl ?_
  rw [hlb]
  refine Gr.cons (v := (.bool true)) (σ1 := _) rfl ?_
  refine Gr.cons (v := (.int .i64 (.ofNat 0))) (σ1 := _) rfl ?_
  refine Gr.cons (v := (.int .i64 (.ofNat 0))) (σ1 := _) rfl ?_
  refine Gr.cons (v := (.bool true)) (σ1 := _) rfl ?_
  refine Gr.cons (v := (.bool true)) (σ1 := _) rfl ?_
  refine Gr.cons (v := (.bool true)) (σ1 := _) rfl ?_
  refine Gr.cons (v := (.bool true)) (σ1 := _) rfl ?_
  refine Gr.cons (v := (.bool true)) (σ1 := _) rfl ?_
  refine Gr.cons (v := (.bool true)) (σ1 := _) rfl ?_
  refine Gr.nil ?_
  refine Gx.ret ?_
  refine ⟨(.bool true), rfl, ?_⟩
  rfl
theorem c2b3s (la : List Nat) (lb : List Nat) (hla : seq8 la [] = false) (hlb : seq8 lb lb = true) : Gc FA3 9 i4 [.agg [.int .i64 (.ofNat 2), .str la], .agg [.int .i64 (.ofNat 3), .str lb]] σE fun v _ => v = .bool true := by
  refine Gc.code rfl rfl ?_
  refine Gx.seq ?_
  refine Gx.ops ?_
  refine Gr.cons (v := (.ptr ⟨.d0, .d0, .d1, .d0, .d0⟩ 0)) (σ1 := _) rfl ?_
  refine Gr.cons (v := (.ptr ⟨.d0, .d0, .d1, .d0, .d1⟩ 0)) (σ1 := _) rfl ?_
  refine Gr.cons (v := (.bool false)) (σ1 := _) rfl ?_
  refine Gr.nil ?_
  refine Gx.seq ?_
  refine Gx.seq ?_
  refine Gx.ops ?_
  refine Gr.cons (v := (.ptr ⟨.d0, .d0, .d1, .d0, .d0⟩ 0)) (σ1 := _) rfl ?_
  refine Gr.cons (v := (.int .i64 (.ofNat 2))) (σ1 := _) rfl ?_
  refine Gr.cons (v := (.bool false)) (σ1 := _) rfl ?_
  refine Gr.cons (v := (.bool false)) (σ1 := _) rfl ?_
  refine Gr.cons (v := (.ptr ⟨.d0, .d0, .d1, .d0, .d0⟩ 0)) (σ1 := _) rfl ?_
  refine Gr.cons (v := (.int .i64 (.ofNat 2))) (σ1 := _) rfl ?_
  refine Gr.cons (v := (.bool false)) (σ1 := _) rfl ?_
  refine Gr.cons (v := (.bool false)) (σ1 := _) rfl ?_
  refine Gr.cons (v := (.bool false)) (σ1 := _) rfl ?_
  refine Gr.cons (v := (.ptr ⟨.d0, .d0, .d1, .d0, .d1⟩ 0)) (σ1 := _) rfl ?_
  refine Gr.cons (v := (.int .i64 (.ofNat 3))) (σ1 := _) rfl ?_
  refine Gr.cons (v := (.bool false)) (σ1 := _) rfl ?_
  refine Gr.cons (v := (.bool false)) (σ1 := _) rfl ?_
  refine Gr.cons (v := (.bool false)) (σ1 := _) rfl ?_
  refine Gr.cons (v := (.ptr ⟨.d0, .d0, .d1, .d0, .d1⟩ 0)) (σ1 := _) rfl ?_
  refine Gr.cons (v := (.int .i64 (.ofNat 3))) (σ1 := _) rfl ?_
  refine Gr.cons (v := (.bool false)) (σ1 := _) rfl ?_
  refine Gr.cons (v := (.bool false)) (σ1 := _) rfl ?_
  refine Gr.cons (v := (.bool false)) (σ1 := _) rfl ?_
  refine Gr.cons (v := (.ptr ⟨.d0, .d0, .d1, .d0, .d0⟩ 0)) (σ1 := _) rfl ?_
  refine Gr.cons (v := (.int .i64 (.ofNat 2))) (σ1 := _) rfl ?_
  refine Gr.cons (v := (.bool true)) (σ1 := _) rfl ?_
  refine Gr.cons (v := (.bool true)) (σ1 := _) rfl ?_
  refine Gr.cons (v := (.ptr ⟨.d0, .d0, .d1, .d0, .d0⟩ 1)) (σ1 := _) rfl ?_
  refine Gr.cons (v := (.str la)) (σ1 := _) rfl ?_
  refine Gr.binS (b := (not8 (seq8 la []))) (b' := true) rfl (by rw [hla]; rfl) ?_
  refine Gr.cons (v := (.bool true)) (σ1 := _) rfl ?_
  refine Gr.cons (v := (.bool true)) (σ1 := _) rfl ?_
  refine Gr.cons (v := (.bool true)) (σ1 := _) rfl ?_
  refine Gr.cons (v := uv) (σ1 := _) rfl ?_
  refine Gr.cons (v := uv) (σ1 := _) rfl ?_
  refine Gr.cons (v := uv) (σ1 := _) rfl ?_
  refine Gr.cons (v := uv) (σ1 := _) rfl ?_
  refine Gr.cons (v := uv) (σ1 := _) rfl ?_
  refine Gr.cons (v := uv) (σ1 := _) rfl ?_
  refine Gr.cons (v := uv) (σ1 := _) rfl ?_
  refine Gr.cons (v := uv) (σ1 := _) rfl ?_
  refine Gr.cons (v := (.bool true)) (σ1 := _) rfl ?_
  refine Gr.cons (v := (.bool true)) (σ1 := _) rfl ?_
  refine Gr.cons (v := uv) (σ1 := _) rfl ?_
  refine Gr.cons (v := uv) (σ1 := _) rfl ?_
  refine Gr.cons (v := uv) (σ1 := _) rfl ?_
  refine Gr.cons (v := uv) (σ1 := _) rfl ?_
  refine Gr.cons (v := uv) (σ1 := _) rfl ?_
  refine Gr.cons (v := uv) (σ1 := _) rfl ?_
  refine Gr.cons (v := uv) (σ1 := _) rfl ?_
  refine Gr.cons (v := uv) (σ1 := _) rfl ?_
  refine Gr.cons (v := (.bool true)) (σ1 := _) rfl ?_
  refine Gr.cons (v := (.bool true)) (σ1 := _) rfl ?_
  refine Gr.cons (v := uv) (σ1 := _) rfl ?_
  refine Gr.cons (v := uv) (σ1 := _) rfl ?_
  refine Gr.cons (v := uv) (σ1 := _) rfl ?_
  refine Gr.cons (v := uv) (σ1 := _) rfl ?_
  refine Gr.cons (v := uv) (σ1 := _) rfl ?_
  refine Gr.cons (v := uv) (σ1 := _) rfl ?_
  refine Gr.cons (v := uv) (σ1 := _) rfl ?_
  refine Gr.cons (v := uv) (σ1 := _) rfl ?_
  refine Gr.cons (v := (.bool true)) (σ1 := _) rfl ?_
  refine Gr.nil ?_
  refine Gx.condT rfl ?_
  refine Gx.seq ?_
  refine Gx.ops ?_
  refine Gr.cons (v := (.bool true)) (σ1 := _) rfl ?_
  refine Gr.cons (v := (.bool true)) (σ1 := _) rfl ?_
  refine Gr.nil ?_
  refine Gx.ret ?_
  refine ⟨(.bool true), rfl, ?_⟩
  rfl
theorem c3s0g (la : List Nat) (hla : seq8 la la = true)  : Gc FA3 9 i4 [.agg [.int .i64 (.ofNat 3), .str la], .agg [.int .i64 (.ofNat 0), .str [98, 105, 110, 97, 114, 121]]] σE fun v _ => v = .bool true := by
  refine Gc.code rfl rfl ?_
  refine Gx.seq ?_
  refine Gx.ops ?_
  refine Gr.cons (v := (.ptr ⟨.d0, .d0, .d1, .d0, .d0⟩ 0)) (σ1 := _) rfl ?_
  refine Gr.cons (v := (.ptr ⟨.d0, .d0, .d1, .d0, .d1⟩ 0)) (σ1 := _) rfl ?_
  refine Gr.cons (v := (.bool false)) (σ1 := _) rfl ?_
  refine Gr.nil ?_
  refine Gx.seq ?_
  refine Gx.seq ?_
  refine Gx.ops ?_
  refine Gr.cons (v := (.ptr ⟨.d0, .d0, .d1, .d0, .d0⟩ 0)) (σ1 := _) rfl ?_
  refine Gr.cons (v := (.int .i64 (.ofNat 3))) (σ1 := _) rfl ?_
  refine Gr.cons (v := (.bool false)) (σ1 := _) rfl ?_
  refine Gr.cons (v := (.bool false)) (σ1 := _) rfl ?_
  refine Gr.cons (v := (.ptr ⟨.d0, .d0, .d1, .d0, .d0⟩ 0)) (σ1 := _) rfl ?_
  refine Gr.cons (v := (.int .i64 (.ofNat 3))) (σ1 := _) rfl ?_
  refine Gr.cons (v := (.bool false)) (σ1 := _) rfl ?_
  refine Gr.cons (v := (.bool false)) (σ1 := _) rfl ?_
  refine Gr.cons (v := (.bool false)) (σ1 := _) rfl ?_
  refine Gr.cons (v := (.ptr ⟨.d0, .d0, .d1, .d0, .d1⟩ 0)) (σ1 := _) rfl ?_
  refine Gr.cons (v := (.int .i64 (.ofNat 0))) (σ1 := _) rfl ?_
  refine Gr.cons (v := (.bool false)) (σ1 := _) rfl ?_
  refine Gr.cons (v := (.bool false)) (σ1 := _) rfl ?_
  refine Gr.cons (v := (.bool false)) (σ1 := _) rfl ?_
  refine Gr.cons (v := (.ptr ⟨.d0, .d0, .d1, .d0, .d1⟩ 0)) (σ1 := _) rfl ?_
  refine Gr.cons (v := (.int .i64 (.ofNat 0))) (σ1 := _) rfl ?_
  refine Gr.cons (v := (.bool false)) (σ1 := _) rfl ?_
  refine Gr.cons (v := (.bool false)) (σ1 := _) rfl ?_
  refine Gr.cons (v := (.bool false)) (σ1 := _) rfl ?_
  refine Gr.cons (v := (.ptr ⟨.d0, .d0, .d1, .d0, .d0⟩ 0)) (σ1 := _) rfl ?_
  refine Gr.cons (v := (.int .i64 (.ofNat 3))) (σ1 := _) rfl ?_
  refine Gr.cons (v := (.bool false)) (σ1 := _) rfl ?_
  refine Gr.cons (v := (.bool false)) (σ1 := _) rfl ?_
  refine Gr.cons (v := uv) (σ1 := _) rfl ?_
  refine Gr.cons (v := uv) (σ1 := _) rfl ?_
  refine Gr.cons (v := uv) (σ1 := _) rfl ?_
  refine Gr.cons (v := (.bool false)) (σ1 := _) rfl ?_
  refine Gr.cons (v := (.bool false)) (σ1 := _) rfl ?_
  refine Gr.cons (v := (.bool false)) (σ1 := _) rfl ?_
  refine Gr.cons (v := (.ptr ⟨.d0, .d0, .d1, .d0, .d1⟩ 0)) (σ1 := _) rfl ?_
  refine Gr.cons (v := (.int .i64 (.ofNat 0))) (σ1 := _) rfl ?_
  refine Gr.cons (v := (.bool false)) (σ1 := _) rfl ?_
  refine Gr.cons (v := (.bool false)) (σ1 := _) rfl ?_
  refine Gr.cons (v := uv) (σ1 := _) rfl ?_
  refine Gr.cons (v := uv) (σ1 := _) rfl ?_
  refine Gr.cons (v := uv) (σ1 := _) rfl ?_
  refine Gr.cons (v := (.bool false)) (σ1 := _) rfl ?_
  refine Gr.cons (v := (.bool false)) (σ1 := _) rfl ?_
  refine Gr.cons (v := (.bool false)) (σ1 := _) rfl ?_
  refine Gr.cons (v := (.ptr ⟨.d0, .d0, .d1, .d0, .d0⟩ 0)) (σ1 := _) rfl ?_
  refine Gr.cons (v := (.int .i64 (.ofNat 3))) (σ1 := _) rfl ?_
  refine Gr.cons (v := (.bool false)) (σ1 := _) rfl ?_
  refine Gr.cons (v := (.bool false)) (σ1 := _) rfl ?_
  refine Gr.cons (v := uv) (σ1 := _) rfl ?_
  refine Gr.cons (v := uv) (σ1 := _) rfl ?_
  refine Gr.cons (v := uv) (σ1 := _) rfl ?_
  refine Gr.cons (v := (.bool false)) (σ1 := _) rfl ?_
  refine Gr.cons (v := (.bool false)) (σ1 := _) rfl ?_
  refine Gr.cons (v := (.bool false)) (σ1 := _) rfl ?_
  refine Gr.cons (v := (.ptr ⟨.d0, .d0, .d1, .d0, .d1⟩ 0)) (σ1 := _) rfl ?_
  refine Gr.cons (v := (.int .i64 (.ofNat 0))) (σ1 := _) rfl ?_
  refine Gr.cons (v := (.bool true)) (σ1 := _) rfl ?_
  refine Gr.cons (v := (.bool true)) (σ1 := _) rfl ?_
  refine Gr.cons (v := (.ptr ⟨.d0, .d0, .d1, .d0, .d1⟩ 1)) (σ1 := _) rfl ?_
  refine Gr.cons (v := (.str [98, 105, 110, 97, 114, 121])) (σ1 := _) rfl ?_
  refine Gr.cons (v := (.bool false)) (σ1 := _) rfl ?_
  refine Gr.cons (v := (.bool false)) (σ1 := _) rfl ?_
  refine Gr.cons (v := (.bool false)) (σ1 := _) rfl ?_
  refine Gr.nil ?_
  refine Gx.condF rfl ?_
  refine Gx.skip ?_
  refine Gx.seq ?_
  refine Gx.ops ?_
  refine Gr.cons (v := (.agg [.int .i64 (.ofNat 3), .str la])) (σ1 := _) rfl ?_
  refine Gr.cons (v := (.agg [.int .i64 (.ofNat 0), .str [98, 105, 110, 97, 114, 121]])) (σ1 := _) rfl ?_
  refine Gr.callF (Gc.code rfl rfl ?_)
  refine Gx.seq ?_
  refine Gx.ops ?_
  refine Gr.cons (v := (.ptr ⟨.d0, .d0, .d1, .d0, .d2⟩ 0)) (σ1 := _) rfl ?_
  refine Gr.cons (v := (.ptr ⟨.d0, .d0, .d1, .d0, .d3⟩ 0)) (σ1 := _) rfl ?_
  refine Gr.cons (v := (.ptr ⟨.d0, .d0, .d1, .d0, .d4⟩ 0)) (σ1 := _) rfl ?_
  refine Gr.cons (v := (.int .i64 (.ofNat 0))) (σ1 := _) rfl ?_
  refine Gr.nil ?_
  refine Gx.seq ?_
  refine Gx.seq ?_
  refine Gx.ops ?_
  refine Gr.cons (v := (.ptr ⟨.d0, .d0, .d1, .d0, .d2⟩ 0)) (σ1 := _) rfl ?_
  refine Gr.cons (v := (.int .i64 (.ofNat 3))) (σ1 := _) rfl ?_
  refine Gr.cons (v := (.ptr ⟨.d0, .d0, .d1, .d0, .d3⟩ 0)) (σ1 := _) rfl ?_
  refine Gr.cons (v := (.int .i64 (.ofNat 0))) (σ1 := _) rfl ?_
  refine Gr.cons (v := (.agg [.int .i64 (.ofNat 3), .int .i64 (.ofNat 0)])) (σ1 := _) rfl ?_
  refine Gr.nil ?_
  refine Gx.block ?_
  refine Gx.seq ?_
  refine Gx.ops ?_
  refine Gr.cons (v := (.agg [.int .i64 (.ofNat 3), .int .i64 (.ofNat 3)])) (σ1 := _) rfl ?_
  refine Gr.cons (v := (.bool false)) (σ1 := _) rfl ?_
  refine Gr.cons (v := (.bool false)) (σ1 := _) rfl ?_
  refine Gr.nil ?_
  refine Gx.condF rfl ?_
  refine Gx.seq ?_
  refine Gx.ops ?_
  refine Gr.cons (v := (.agg [.int .i64 (.ofNat 1), .int .i64 (.ofNat 1)])) (σ1 := _) rfl ?_
  refine Gr.cons (v := (.bool false)) (σ1 := _) rfl ?_
  refine Gr.cons (v := (.bool false)) (σ1 := _) rfl ?_
  refine Gr.nil ?_
  refine Gx.condF rfl ?_
  refine Gx.skip ?_
  refine Gx.seq ?_
  refine Gx.seq ?_
  refine Gx.ops ?_
  refine Gr.cons (v := (.ptr ⟨.d0, .d0, .d1, .d0, .d3⟩ 0)) (σ1 := _) rfl ?_
  refine Gr.cons (v := (.int .i64 (.ofNat 0))) (σ1 := _) rfl ?_
  refine Gr.cons (v := (.ptr ⟨.d0, .d0, .d1, .d0, .d2⟩ 0)) (σ1 := _) rfl ?_
  refine Gr.cons (v := (.int .i64 (.ofNat 3))) (σ1 := _) rfl ?_
  refine Gr.cons (v := (.bool false)) (σ1 := _) rfl ?_
  refine Gr.nil ?_
  refine Gx.condF rfl ?_
  refine Gx.skip ?_
  refine Gx.seq ?_
  refine Gx.ops ?_
  refine Gr.cons (v := (.agg [.int .i64 (.ofNat 3), .str la])) (σ1 := _) rfl ?_
  refine Gr.cons (v := uv) (σ1 := _) rfl ?_
  refine Gr.cons (v := (.int .i64 (.ofNat 0))) (σ1 := _) rfl ?_
  refine Gr.nil ?_
  refine Gx.ret ?_
  refine ⟨(.tup [.agg [.int .i64 (.ofNat 3), .str la], .int .i64 (.ofNat 0)]), rfl, ?_⟩
  refine Gr.cons (v := (.tup [.agg [.int .i64 (.ofNat 3), .str la], .int .i64 (.ofNat 0)])) (σ1 := _) rfl ?_
  refine Gr.cons (v := (.agg [.int .i64 (.ofNat 3), .str la])) (σ1 := _) rfl ?_
  refine Gr.cons (v := (.int .i64 (.ofNat 0))) (σ1 := _) rfl ?_
  refine Gr.cons (v := (.ptr ⟨.d0, .d0, .d1, .d0, .d5⟩ 0)) (σ1 := _) rfl ?_
  refine Gr.cons (v := uv) (σ1 := _) rfl ?_
  refine Gr.cons (v := (.int .i64 (.ofNat 0))) (σ1 := _) rfl ?_
  refine Gr.nil ?_
  refine Gx.seq ?_
  refine Gx.ops ?_
  refine Gr.cons (v := (.agg [.int .i64 (.ofNat 3), .str la])) (σ1 := _) rfl ?_
  refine Gr.cons (v := (.agg [.int .i64 (.ofNat 0), .str [98, 105, 110, 97, 114, 121]])) (σ1 := _) rfl ?_
  refine Gr.callF (Gc.code rfl rfl ?_)
  refine Gx.seq ?_
  refine Gx.ops ?_
  refine Gr.cons (v := (.ptr ⟨.d0, .d0, .d1, .d0, .d6⟩ 0)) (σ1 := _) rfl ?_
  refine Gr.cons (v := (.ptr ⟨.d0, .d0, .d1, .d0, .d7⟩ 0)) (σ1 := _) rfl ?_
  refine Gr.cons (v := (.ptr ⟨.d0, .d0, .d1, .d1, .d0⟩ 0)) (σ1 := _) rfl ?_
  refine Gr.cons (v := (.int .i64 (.ofNat 0))) (σ1 := _) rfl ?_
  refine Gr.nil ?_
  refine Gx.seq ?_
  refine Gx.block ?_
  refine Gx.seq ?_
  refine Gx.ops ?_
  refine Gr.cons (v := (.ptr ⟨.d0, .d0, .d1, .d0, .d6⟩ 0)) (σ1 := _) rfl ?_
  refine Gr.cons (v := (.int .i64 (.ofNat 3))) (σ1 := _) rfl ?_
  refine Gr.cons (v := (.bool true)) (σ1 := _) rfl ?_
  refine Gr.cons (v := (.bool true)) (σ1 := _) rfl ?_
  refine Gr.cons (v := (.ptr ⟨.d0, .d0, .d1, .d0, .d7⟩ 0)) (σ1 := _) rfl ?_
  refine Gr.cons (v := (.int .i64 (.ofNat 0))) (σ1 := _) rfl ?_
  refine Gr.cons (v := (.bool false)) (σ1 := _) rfl ?_
  refine Gr.cons (v := (.bool false)) (σ1 := _) rfl ?_
  refine Gr.cons (v := (.bool false)) (σ1 := _) rfl ?_
  refine Gr.cons (v := uv) (σ1 := _) rfl ?_
  refine Gr.cons (v := uv) (σ1 := _) rfl ?_
  refine Gr.cons (v := uv) (σ1 := _) rfl ?_
  refine Gr.cons (v := uv) (σ1 := _) rfl ?_
  refine Gr.cons (v := uv) (σ1 := _) rfl ?_
  refine Gr.cons (v := (.bool false)) (σ1 := _) rfl ?_
  refine Gr.cons (v := (.bool false)) (σ1 := _) rfl ?_
  refine Gr.nil ?_
  refine Gx.condF rfl ?_
  refine Gx.seq ?_
  refine Gx.ops ?_
  refine Gr.cons (v := (.ptr ⟨.d0, .d0, .d1, .d0, .d6⟩ 0)) (σ1 := _) rfl ?_
  refine Gr.cons (v := (.int .i64 (.ofNat 3))) (σ1 := _) rfl ?_
  refine Gr.cons (v := (.ptr ⟨.d0, .d0, .d1, .d0, .d7⟩ 0)) (σ1 := _) rfl ?_
  refine Gr.cons (v := (.int .i64 (.ofNat 0))) (σ1 := _) rfl ?_
  refine Gr.cons (v := (.bool true)) (σ1 := _) rfl ?_
  refine Gr.cons (v := (.bool true)) (σ1 := _) rfl ?_
  refine Gr.nil ?_
  refine Gx.condT rfl ?_
  refine Gx.seq ?_
  refine Gx.seq ?_
  refine Gx.ops ?_
  refine Gr.cons (v := (.ptr ⟨.d0, .d0, .d1, .d0, .d6⟩ 0)) (σ1 := _) rfl ?_
  refine Gr.cons (v := (.int .i64 (.ofNat 3))) (σ1 := _) rfl ?_
  refine Gr.cons (v := (.ptr ⟨.d0, .d0, .d1, .d0, .d7⟩ 0)) (σ1 := _) rfl ?_
  refine Gr.cons (v := (.int .i64 (.ofNat 0))) (σ1 := _) rfl ?_
  refine Gr.cons (v := (.bool true)) (σ1 := _) rfl ?_
  refine Gr.nil ?_
  refine Gx.condT rfl ?_
  refine Gx.seq ?_
  refine Gx.ops ?_
  refine Gr.cons (v := (.agg [.int .i64 (.ofNat 3), .str la])) (σ1 := _) rfl ?_
  refine Gr.cons (v := uv) (σ1 := _) rfl ?_
  refine Gr.cons (v := (.int .i64 (.ofNat 0))) (σ1 := _) rfl ?_
  refine Gr.nil ?_
  refine Gx.ret ?_
  refine ⟨(.tup [.agg [.int .i64 (.ofNat 3), .str la], .int .i64 (.ofNat 0)]), rfl, ?_⟩
  refine Gr.cons (v := (.tup [.agg [.int .i64 (.ofNat 3), .str la], .int .i64 (.ofNat 0)])) (σ1 := _) rfl ?_
  refine Gr.cons (v := (.agg [.int .i64 (.ofNat 3), .str la])) (σ1 := _) rfl ?_
  refine Gr.cons (v := (.int .i64 (.ofNat 0))) (σ1 := _) rfl ?_
  refine Gr.cons (v := (.ptr ⟨.d0, .d0, .d1, .d1, .d1⟩ 0)) (σ1 := _) rfl ?_
  refine Gr.cons (v := uv) (σ1 := _) rfl ?_
  refine Gr.cons (v := (.int .i64 (.ofNat 0))) (σ1 := _) rfl ?_
  refine Gr.nil ?_
  refine Gx.seq ?_
  refine Gx.ops ?_
  refine Gr.cons (v := (.agg [.int .i64 (.ofNat 3), .str la])) (σ1 := _) rfl ?_
  refine Gr.cons (v := (.agg [.int .i64 (.ofNat 3), .str la])) (σ1 := _) rfl ?_
  refine Gr.eqF rfl rfl ?_
  rw [hla]
  refine Gr.cons (v := (.bool true)) (σ1 := _) rfl ?_
  refine Gr.cons (v := (.int .i64 (.ofNat 0))) (σ1 := _) rfl ?_
  refine Gr.cons (v := (.int .i64 (.ofNat 0))) (σ1 := _) rfl ?_
  refine Gr.cons (v := (.bool true)) (σ1 := _) rfl ?_
  refine Gr.cons (v := (.bool true)) (σ1 := _) rfl ?_
  refine Gr.cons (v := (.bool true)) (σ1 := _) rfl ?_
  refine Gr.cons (v := (.bool true)) (σ1 := _) rfl ?_
  refine Gr.cons (v := (.bool true)) (σ1 := _) rfl ?_
  refine Gr.cons (v := (.bool true)) (σ1 := _) rfl ?_
  refine Gr.nil ?_
  refine Gx.ret ?_
  refine ⟨(.bool true), rfl, ?_⟩
  rfl
theorem c3s0b (la : List Nat) (lb : List Nat) (hla : seq8 la la = true) (hlb : seq8 lb [98, 105, 110, 97, 114, 121] = false) : Gc FA3 9 i4 [.agg [.int .i64 (.ofNat 3), .str la], .agg [.int .i64 (.ofNat 0), .str lb]] σE fun v _ => v = .bool true := by
  refine Gc.code rfl rfl ?_
  refine Gx.seq ?_
  refine Gx.ops ?_
  refine Gr.cons (v := (.ptr ⟨.d0, .d0, .d1, .d0, .d0⟩ 0)) (σ1 := _) rfl ?_
  refine Gr.cons (v := (.ptr ⟨.d0, .d0, .d1, .d0, .d1⟩ 0)) (σ1 := _) rfl ?_
  refine Gr.cons (v := (.bool false)) (σ1 := _) rfl ?_
  refine Gr.nil ?_
  refine Gx.seq ?_
  refine Gx.seq ?_
  refine Gx.ops ?_
  refine Gr.cons (v := (.ptr ⟨.d0, .d0, .d1, .d0, .d0⟩ 0)) (σ1 := _) rfl ?_
  refine Gr.cons (v := (.int .i64 (.ofNat 3))) (σ1 := _) rfl ?_
  refine Gr.cons (v := (.bool false)) (σ1 := _) rfl ?_
  refine Gr.cons (v := (.bool false)) (σ1 := _) rfl ?_
  refine Gr.cons (v := (.ptr ⟨.d0, .d0, .d1, .d0, .d0⟩ 0)) (σ1 := _) rfl ?_
  refine Gr.cons (v := (.int .i64 (.ofNat 3))) (σ1 := _) rfl ?_
  refine Gr.cons (v := (.bool false)) (σ1 := _) rfl ?_
  refine Gr.cons (v := (.bool false)) (σ1 := _) rfl ?_
  refine Gr.cons (v := (.bool false)) (σ1 := _) rfl ?_
  refine Gr.cons (v := (.ptr ⟨.d0, .d0, .d1, .d0, .d1⟩ 0)) (σ1 := _) rfl ?_
  refine Gr.cons (v := (.int .i64 (.ofNat 0))) (σ1 := _) rfl ?_
  refine Gr.cons (v := (.bool false)) (σ1 := _) rfl ?_
  refine Gr.cons (v := (.bool false)) (σ1 := _) rfl ?_
  refine Gr.cons (v := (.bool false)) (σ1 := _) rfl ?_
  refine Gr.cons (v := (.ptr ⟨.d0, .d0, .d1, .d0, .d1⟩ 0)) (σ1 := _) rfl ?_
  refine Gr.cons (v := (.int .i64 (.ofNat 0))) (σ1 := _) rfl ?_
  refine Gr.cons (v := (.bool false)) (σ1 := _) rfl ?_
  refine Gr.cons (v := (.bool false)) (σ1 := _) rfl ?_
  refine Gr.cons (v := (.bool false)) (σ1 := _) rfl ?_
  refine Gr.cons (v := (.ptr ⟨.d0, .d0, .d1, .d0, .d0⟩ 0)) (σ1 := _) rfl ?_
  refine Gr.cons (v := (.int .i64 (.ofNat 3))) (σ1 := _) rfl ?_
  refine Gr.cons (v := (.bool false)) (σ1 := _) rfl ?_
  refine Gr.cons (v := (.bool false)) (σ1 := _) rfl ?_
  refine Gr.cons (v := uv) (σ1 := _) rfl ?_
  refine Gr.cons (v := uv) (σ1 := _) rfl ?_
  refine Gr.cons (v := uv) (σ1 := _) rfl ?_
  refine Gr.cons (v := (.bool false)) (σ1 := _) rfl ?_
  refine Gr.cons (v := (.bool false)) (σ1 := _) rfl ?_
  refine Gr.cons (v := (.bool false)) (σ1 := _) rfl ?_
  refine Gr.cons (v := (.ptr ⟨.d0, .d0, .d1, .d0, .d1⟩ 0)) (σ1 := _) rfl ?_
  refine Gr.cons (v := (.int .i64 (.ofNat 0))) (σ1 := _) rfl ?_
  refine Gr.cons (v := (.bool false)) (σ1 := _) rfl ?_
  refine Gr.cons (v := (.bool false)) (σ1 := _) rfl ?_
  refine Gr.cons (v := uv) (σ1 := _) rfl ?_
  refine Gr.cons (v := uv) (σ1 := _) rfl ?_
  refine Gr.cons (v := uv) (σ1 := _) rfl ?_
  refine Gr.cons (v := (.bool false)) (σ1 := _) rfl ?_
  refine Gr.cons (v := (.bool false)) (σ1 := _) rfl ?_
  refine Gr.cons (v := (.bool false)) (σ1 := _) rfl ?_
  refine Gr.cons (v := (.ptr ⟨.d0, .d0, .d1, .d0, .d0⟩ 0)) (σ1 := _) rfl ?_
  refine Gr.cons (v := (.int .i64 (.ofNat 3))) (σ1 := _) rfl ?_
  refine Gr.cons (v := (.bool false)) (σ1 := _) rfl ?_
  refine Gr.cons (v := (.bool false)) (σ1 := _) rfl ?_
  refine Gr.cons (v := uv) (σ1 := _) rfl ?_
  refine Gr.cons (v := uv) (σ1 := _) rfl ?_
  refine Gr.cons (v := uv) (σ1 := _) rfl ?_
  refine Gr.cons (v := (.bool false)) (σ1 := _) rfl ?_
  refine Gr.cons (v := (.bool false)) (σ1 := _) rfl ?_
  refine Gr.cons (v := (.bool false)) (σ1 := _) rfl ?_
  refine Gr.cons (v := (.ptr ⟨.d0, .d0, .d1, .d0, .d1⟩ 0)) (σ1 := _) rfl ?_
  refine Gr.cons (v := (.int .i64 (.ofNat 0))) (σ1 := _) rfl ?_
  refine Gr.cons (v := (.bool true)) (σ1 := _) rfl ?_
  refine Gr.cons (v := (.bool true)) (σ1 := _) rfl ?_
  refine Gr.cons (v := (.ptr ⟨.d0, .d0, .d1, .d0, .d1⟩ 1)) (σ1 := _) rfl ?_
  refine Gr.cons (v := (.str lb)) (σ1 := _) rfl ?_
  refine Gr.binS (b := (not8 (seq8 lb [98, 105, 110, 97, 114, 121]))) (b' := true) rfl (by rw [hlb]; rfl) ?_
  refine Gr.cons (v := (.bool true)) (σ1 := _) rfl ?_
  refine Gr.cons (v := (.bool true)) (σ1 := _) rfl ?_
  refine Gr.nil ?_
  refine Gx.condT rfl ?_
  refine Gx.seq ?_
  refine Gx.ops ?_
  refine Gr.cons (v := (.bool true)) (σ1 := _) rfl ?_
  refine Gr.cons (v := (.bool true)) (σ1 := _) rfl ?_
  refine Gr.nil ?_
  refine Gx.ret ?_
  refine ⟨(.bool true), rfl, ?_⟩
  rfl
theorem c3s1s (la : List Nat) (lb : List Nat) (hla : seq8 la la = true) (hlb : seq8 lb lb = true) : Gc FA3 9 i4 [.agg [.int .i64 (.ofNat 3), .str la], .agg [.int .i64 (.ofNat 1), .str lb]] σE fun v _ => v = .bool true := by
  refine Gc.code rfl rfl ?_
  refine Gx.seq ?_
  refine Gx.ops ?_
  refine Gr.cons (v := (.ptr ⟨.d0, .d0, .d1, .d0, .d0⟩ 0)) (σ1 := _) rfl ?_
  refine Gr.cons (v := (.ptr ⟨.d0, .d0, .d1, .d0, .d1⟩ 0)) (σ1 := _) rfl ?_
  refine Gr.cons (v := (.bool false)) (σ1 := _) rfl ?_
  refine Gr.nil ?_
  refine Gx.seq ?_
  refine Gx.seq ?_
  refine Gx.ops ?_
  refine Gr.cons (v := (.ptr ⟨.d0, .d0, .d1, .d0, .d0⟩ 0)) (σ1 := _) rfl ?_
  refine Gr.cons (v := (.int .i64 (.ofNat 3))) (σ1 := _) rfl ?_
  refine Gr.cons (v := (.bool false)) (σ1 := _) rfl ?_
  refine Gr.cons (v := (.bool false)) (σ1 := _) rfl ?_
  refine Gr.cons (v := (.ptr ⟨.d0, .d0, .d1, .d0, .d0⟩ 0)) (σ1 := _) rfl ?_
  refine Gr.cons (v := (.int .i64 (.ofNat 3))) (σ1 := _) rfl ?_
  refine Gr.cons (v := (.bool false)) (σ1 := _) rfl ?_
  refine Gr.cons (v := (.bool false)) (σ1 := _) rfl ?_
  refine Gr.cons (v := (.bool false)) (σ1 := _) rfl ?_
  refine Gr.cons (v := (.ptr ⟨.d0, .d0, .d1, .d0, .d1⟩ 0)) (σ1 := _) rfl ?_
  refine Gr.cons (v := (.int .i64 (.ofNat 1))) (σ1 := _) rfl ?_
  refine Gr.cons (v := (.bool false)) (σ1 := _) rfl ?_
  refine Gr.cons (v := (.bool false)) (σ1 := _) rfl ?_
  refine Gr.cons (v := (.bool false)) (σ1 := _) rfl ?_
  refine Gr.cons (v := (.ptr ⟨.d0, .d0, .d1, .d0, .d1⟩ 0)) (σ1 := _) rfl ?_
  refine Gr.cons (v := (.int .i64 (.ofNat 1))) (σ1 := _) rfl ?_
  refine Gr.cons (v := (.bool false)) (σ1 := _) rfl ?_
  refine Gr.cons (v := (.bool false)) (σ1 := _) rfl ?_
  refine Gr.cons (v := (.bool false)) (σ1 := _) rfl ?_
  refine Gr.cons (v := (.ptr ⟨.d0, .d0, .d1, .d0, .d0⟩ 0)) (σ1 := _) rfl ?_
  refine Gr.cons (v := (.int .i64 (.ofNat 3))) (σ1 := _) rfl ?_
  refine Gr.cons (v := (.bool false)) (σ1 := _) rfl ?_
  refine Gr.cons (v := (.bool false)) (σ1 := _) rfl ?_
  refine Gr.cons (v := uv) (σ1 := _) rfl ?_
  refine Gr.cons (v := uv) (σ1 := _) rfl ?_
  refine Gr.cons (v := uv) (σ1 := _) rfl ?_
  refine Gr.cons (v := (.bool false)) (σ1 := _) rfl ?_
  refine Gr.cons (v := (.bool false)) (σ1 := _) rfl ?_
  refine Gr.cons (v := (.bool false)) (σ1 := _) rfl ?_
  refine Gr.cons (v := (.ptr ⟨.d0, .d0, .d1, .d0, .d1⟩ 0)) (σ1 := _) rfl ?_
  refine Gr.cons (v := (.int .i64 (.ofNat 1))) (σ1 := _) rfl ?_
  refine Gr.cons (v := (.bool false)) (σ1 := _) rfl ?_
  refine Gr.cons (v := (.bool false)) (σ1 := _) rfl ?_
  refine Gr.cons (v := uv) (σ1 := _) rfl ?_
  refine Gr.cons (v := uv) (σ1 := _) rfl ?_
  refine Gr.cons (v := uv) (σ1 := _) rfl ?_
  refine Gr.cons (v := (.bool false)) (σ1 := _) rfl ?_
  refine Gr.cons (v := (.bool false)) (σ1 := _) rfl ?_
  refine Gr.cons (v := (.bool false)) (σ1 := _) rfl ?_
  refine Gr.cons (v := (.ptr ⟨.d0, .d0, .d1, .d0, .d0⟩ 0)) (σ1 := _) rfl ?_
  refine Gr.cons (v := (.int .i64 (.ofNat 3))) (σ1 := _) rfl ?_
  refine Gr.cons (v := (.bool false)) (σ1 := _) rfl ?_
  refine Gr.cons (v := (.bool false)) (σ1 := _) rfl ?_
  refine Gr.cons (v := uv) (σ1 := _) rfl ?_
  refine Gr.cons (v := uv) (σ1 := _) rfl ?_
  refine Gr.cons (v := uv) (σ1 := _) rfl ?_
  refine Gr.cons (v := (.bool false)) (σ1 := _) rfl ?_
  refine Gr.cons (v := (.bool false)) (σ1 := _) rfl ?_
  refine Gr.cons (v := (.bool false)) (σ1 := _) rfl ?_
  refine Gr.cons (v := (.ptr ⟨.d0, .d0, .d1, .d0, .d1⟩ 0)) (σ1 := _) rfl ?_
  refine Gr.cons (v := (.int .i64 (.ofNat 1))) (σ1 := _) rfl ?_
  refine Gr.cons (v := (.bool false)) (σ1 := _) rfl ?_
  refine Gr.cons (v := (.bool false)) (σ1 := _) rfl ?_
  refine Gr.cons (v := uv) (σ1 := _) rfl ?_
  refine Gr.cons (v := uv) (σ1 := _) rfl ?_
  refine Gr.cons (v := uv) (σ1 := _) rfl ?_
  refine Gr.cons (v := (.bool false)) (σ1 := _) rfl ?_
  refine Gr.cons (v := (.bool false)) (σ1 := _) rfl ?_
  refine Gr.nil ?_
  refine Gx.condF rfl ?_
  refine Gx.skip ?_
  refine Gx.seq ?_
  refine Gx.ops ?_
  refine Gr.cons (v := (.agg [.int .i64 (.ofNat 3), .str la])) (σ1 := _) rfl ?_
  refine Gr.cons (v := (.agg [.int .i64 (.ofNat 1), .str lb])) (σ1 := _) rfl ?_
  refine Gr.callF (Gc.code rfl rfl ?_)
  refine Gx.seq ?_
  refine Gx.ops ?_
  refine Gr.cons (v := (.ptr ⟨.d0, .d0, .d1, .d0, .d2⟩ 0)) (σ1 := _) rfl ?_
  refine Gr.cons (v := (.ptr ⟨.d0, .d0, .d1, .d0, .d3⟩ 0)) (σ1 := _) rfl ?_
  refine Gr.cons (v := (.ptr ⟨.d0, .d0, .d1, .d0, .d4⟩ 0)) (σ1 := _) rfl ?_
  refine Gr.cons (v := (.int .i64 (.ofNat 0))) (σ1 := _) rfl ?_
  refine Gr.nil ?_
  refine Gx.seq ?_
  refine Gx.seq ?_
  refine Gx.ops ?_
  refine Gr.cons (v := (.ptr ⟨.d0, .d0, .d1, .d0, .d2⟩ 0)) (σ1 := _) rfl ?_
  refine Gr.cons (v := (.int .i64 (.ofNat 3))) (σ1 := _) rfl ?_
  refine Gr.cons (v := (.ptr ⟨.d0, .d0, .d1, .d0, .d3⟩ 0)) (σ1 := _) rfl ?_
  refine Gr.cons (v := (.int .i64 (.ofNat 1))) (σ1 := _) rfl ?_
  refine Gr.cons (v := (.agg [.int .i64 (.ofNat 3), .int .i64 (.ofNat 1)])) (σ1 := _) rfl ?_
  refine Gr.nil ?_
  refine Gx.block ?_
  refine Gx.seq ?_
  refine Gx.ops ?_
  refine Gr.cons (v := (.agg [.int .i64 (.ofNat 3), .int .i64 (.ofNat 3)])) (σ1 := _) rfl ?_
  refine Gr.cons (v := (.bool false)) (σ1 := _) rfl ?_
  refine Gr.cons (v := (.bool false)) (σ1 := _) rfl ?_
  refine Gr.nil ?_
  refine Gx.condF rfl ?_
  refine Gx.seq ?_
  refine Gx.ops ?_
  refine Gr.cons (v := (.agg [.int .i64 (.ofNat 1), .int .i64 (.ofNat 1)])) (σ1 := _) rfl ?_
  refine Gr.cons (v := (.bool false)) (σ1 := _) rfl ?_
  refine Gr.cons (v := (.bool false)) (σ1 := _) rfl ?_
  refine Gr.nil ?_
  refine Gx.condF rfl ?_
  refine Gx.skip ?_
  refine Gx.seq ?_
  refine Gx.seq ?_
  refine Gx.ops ?_
  refine Gr.cons (v := (.ptr ⟨.d0, .d0, .d1, .d0, .d3⟩ 0)) (σ1 := _) rfl ?_
  refine Gr.cons (v := (.int .i64 (.ofNat 1))) (σ1 := _) rfl ?_
  refine Gr.cons (v := (.ptr ⟨.d0, .d0, .d1, .d0, .d2⟩ 0)) (σ1 := _) rfl ?_
  refine Gr.cons (v := (.int .i64 (.ofNat 3))) (σ1 := _) rfl ?_
  refine Gr.cons (v := (.bool false)) (σ1 := _) rfl ?_
  refine Gr.nil ?_
  refine Gx.condF rfl ?_
  refine Gx.skip ?_
  refine Gx.seq ?_
  refine Gx.ops ?_
  refine Gr.cons (v := (.agg [.int .i64 (.ofNat 3), .str la])) (σ1 := _) rfl ?_
  refine Gr.cons (v := uv) (σ1 := _) rfl ?_
  refine Gr.cons (v := (.int .i64 (.ofNat 0))) (σ1 := _) rfl ?_
  refine Gr.nil ?_
  refine Gx.ret ?_
  refine ⟨(.tup [.agg [.int .i64 (.ofNat 3), .str la], .int .i64 (.ofNat 0)]), rfl, ?_⟩
  refine Gr.cons (v := (.tup [.agg [.int .i64 (.ofNat 3), .str la], .int .i64 (.ofNat 0)])) (σ1 := _) rfl ?_
  refine Gr.cons (v := (.agg [.int .i64 (.ofNat 3), .str la])) (σ1 := _) rfl ?_
  refine Gr.cons (v := (.int .i64 (.ofNat 0))) (σ1 := _) rfl ?_
  refine Gr.cons (v := (.ptr ⟨.d0, .d0, .d1, .d0, .d5⟩ 0)) (σ1 := _) rfl ?_
  refine Gr.cons (v := uv) (σ1 := _) rfl ?_
  refine Gr.cons (v := (.int .i64 (.ofNat 0))) (σ1 := _) rfl ?_
  refine Gr.nil ?_
  refine Gx.seq ?_
  refine Gx.ops ?_
  refine Gr.cons (v := (.agg [.int .i64 (.ofNat 3), .str la])) (σ1 := _) rfl ?_
  refine Gr.cons (v := (.agg [.int .i64 (.ofNat 1), .str lb])) (σ1 := _) rfl ?_
  refine Gr.callF (Gc.code rfl rfl ?_)
  refine Gx.seq ?_
  refine Gx.ops ?_
  refine Gr.cons (v := (.ptr ⟨.d0, .d0, .d1, .d0, .d6⟩ 0)) (σ1 := _) rfl ?_
  refine Gr.cons (v := (.ptr ⟨.d0, .d0, .d1, .d0, .d7⟩ 0)) (σ1 := _) rfl ?_
  refine Gr.cons (v := (.ptr ⟨.d0, .d0, .d1, .d1, .d0⟩ 0)) (σ1 := _) rfl ?_
  refine Gr.cons (v := (.int .i64 (.ofNat 0))) (σ1 := _) rfl ?_
  refine Gr.nil ?_
  refine Gx.seq ?_
  refine Gx.block ?_
  refine Gx.seq ?_
  refine Gx.ops ?_
  refine Gr.cons (v := (.ptr ⟨.d0, .d0, .d1, .d0, .d6⟩ 0)) (σ1 := _) rfl ?_
  refine Gr.cons (v := (.int .i64 (.ofNat 3))) (σ1 := _) rfl ?_
  refine Gr.cons (v := (.bool true)) (σ1 := _) rfl ?_
  refine Gr.cons (v := (.bool true)) (σ1 := _) rfl ?_
  refine Gr.cons (v := (.ptr ⟨.d0, .d0, .d1, .d0, .d7⟩ 0)) (σ1 := _) rfl ?_
  refine Gr.cons (v := (.int .i64 (.ofNat 1))) (σ1 := _) rfl ?_
  refine Gr.cons (v := (.bool false)) (σ1 := _) rfl ?_
  refine Gr.cons (v := (.bool false)) (σ1 := _) rfl ?_
  refine Gr.cons (v := (.bool false)) (σ1 := _) rfl ?_
  refine Gr.cons (v := uv) (σ1 := _) rfl ?_
  refine Gr.cons (v := uv) (σ1 := _) rfl ?_
  refine Gr.cons (v := uv) (σ1 := _) rfl ?_
  refine Gr.cons (v := uv) (σ1 := _) rfl ?_
  refine Gr.cons (v := uv) (σ1 := _) rfl ?_
  refine Gr.cons (v := (.bool false)) (σ1 := _) rfl ?_
  refine Gr.cons (v := (.bool false)) (σ1 := _) rfl ?_
  refine Gr.nil ?_
  refine Gx.condF rfl ?_
  refine Gx.seq ?_
  refine Gx.ops ?_
  refine Gr.cons (v := (.ptr ⟨.d0, .d0, .d1, .d0, .d6⟩ 0)) (σ1 := _) rfl ?_
  refine Gr.cons (v := (.int .i64 (.ofNat 3))) (σ1 := _) rfl ?_
  refine Gr.cons (v := (.ptr ⟨.d0, .d0, .d1, .d0, .d7⟩ 0)) (σ1 := _) rfl ?_
  refine Gr.cons (v := (.int .i64 (.ofNat 1))) (σ1 := _) rfl ?_
  refine Gr.cons (v := (.bool true)) (σ1 := _) rfl ?_
  refine Gr.cons (v := (.bool true)) (σ1 := _) rfl ?_
  refine Gr.nil ?_
  refine Gx.condT rfl ?_
  refine Gx.seq ?_
  refine Gx.seq ?_
  refine Gx.ops ?_
  refine Gr.cons (v := (.ptr ⟨.d0, .d0, .d1, .d0, .d6⟩ 0)) (σ1 := _) rfl ?_
  refine Gr.cons (v := (.int .i64 (.ofNat 3))) (σ1 := _) rfl ?_
  refine Gr.cons (v := (.ptr ⟨.d0, .d0, .d1, .d0, .d7⟩ 0)) (σ1 := _) rfl ?_
  refine Gr.cons (v := (.int .i64 (.ofNat 1))) (σ1 := _) rfl ?_
  refine Gr.cons (v := (.bool true)) (σ1 := _) rfl ?_
  refine Gr.nil ?_
  refine Gx.condT rfl ?_
  refine Gx.seq ?_
  refine Gx.ops ?_
  refine Gr.cons (v := (.agg [.int .i64 (.ofNat 3), .str la])) (σ1 := _) rfl ?_
  refine Gr.cons (v := uv) (σ1 := _) rfl ?_
  refine Gr.cons (v := (.int .i64 (.ofNat 0))) (σ1 := _) rfl ?_
  refine Gr.nil ?_
  refine Gx.ret ?_
  refine ⟨(.tup [.agg [.int .i64 (.ofNat 3), .str la], .int .i64 (.ofNat 0)]), rfl, ?_⟩
  refine Gr.cons (v := (.tup [.agg [.int .i64 (.ofNat 3), .str la], .int .i64 (.ofNat 0)])) (σ1 := _) rfl ?_
  refine Gr.cons (v := (.agg [.int .i64 (.ofNat 3), .str la])) (σ1 := _) rfl ?_
  refine Gr.cons (v := (.int .i64 (.ofNat 0))) (σ1 := _) rfl ?_
  refine Gr.cons (v := (.ptr ⟨.d0, .d0, .d1, .d1, .d1⟩ 0)) (σ1 := _) rfl ?_
  refine Gr.cons (v := uv) (σ1 := _) rfl ?_
  refine Gr.cons (v := (.int .i64 (.ofNat 0))) (σ1 := _) rfl ?_
  refine Gr.nil ?_
  refine Gx.seq ?_
  refine Gx.ops ?_
  refine Gr.cons (v := (.agg [.int .i64 (.ofNat 3), .str la])) (σ1 := _) rfl ?_
  refine Gr.cons (v := (.agg [.int .i64 (.ofNat 3), .str la])) (σ1 := _) rfl ?_
  refine Gr.eqF rfl rfl ?_
  rw [hla]
  refine Gr.cons (v := (.bool true)) (σ1 := _) rfl ?_
  refine Gr.cons (v := (.int .i64 (.ofNat 0))) (σ1 := _) rfl ?_
  refine Gr.cons (v := (.int .i64 (.ofNat 0))) (σ1 := _) rfl ?_
  refine Gr.cons (v := (.bool true)) (σ1 := _) rfl ?_
  refine Gr.cons (v := (.bool true)) (σ1 := _) rfl ?_
  refine Gr.cons (v := (.bool true)) (σ1 := _) rfl ?_
  refine Gr.cons (v := (.bool true)) (σ1 := _) rfl ?_
  refine Gr.cons (v := (.bool true)) (σ1 := _) rfl ?_
  refine Gr.cons (v := (.bool true)) (σ1 := _) rfl ?_
  refine Gr.nil ?_
  refine Gx.ret ?_
  refine ⟨(.bool true), rfl, ?_⟩
  rfl
theorem c3s2g (la : List Nat) (hla : seq8 la la = true)  : Gc FA3 9 i4 [.agg [.int .i64 (.ofNat 3), .str la], .agg [.int .i64 (.ofNat 2), .str []]] σE fun v _ => v = .bool true := by
  refine Gc.code rfl rfl ?_
  refine Gx.seq ?_
  refine Gx.ops ?_
  refine Gr.cons (v := (.ptr ⟨.d0, .d0, .d1, .d0, .d0⟩ 0)) (σ1 := _) rfl ?_
  refine Gr.cons (v := (.ptr ⟨.d0, .d0, .d1, .d0, .d1⟩ 0)) (σ1 := _) rfl ?_
  refine Gr.cons (v := (.bool false)) (σ1 := _) rfl ?_
  refine Gr.nil ?_
  refine Gx.seq ?_
  refine Gx.seq ?_
  refine Gx.ops ?_
  refine Gr.cons (v := (.ptr ⟨.d0, .d0, .d1, .d0, .d0⟩ 0)) (σ1 := _) rfl ?_
  refine Gr.cons (v := (.int .i64 (.ofNat 3))) (σ1 := _) rfl ?_
  refine Gr.cons (v := (.bool false)) (σ1 := _) rfl ?_
  refine Gr.cons (v := (.bool false)) (σ1 := _) rfl ?_
  refine Gr.cons (v := (.ptr ⟨.d0, .d0, .d1, .d0, .d0⟩ 0)) (σ1 := _) rfl ?_
  refine Gr.cons (v := (.int .i64 (.ofNat 3))) (σ1 := _) rfl ?_
  refine Gr.cons (v := (.bool false)) (σ1 := _) rfl ?_
  refine Gr.cons (v := (.bool false)) (σ1 := _) rfl ?_
  refine Gr.cons (v := (.bool false)) (σ1 := _) rfl ?_
  refine Gr.cons (v := (.ptr ⟨.d0, .d0, .d1, .d0, .d1⟩ 0)) (σ1 := _) rfl ?_
  refine Gr.cons (v := (.int .i64 (.ofNat 2))) (σ1 := _) rfl ?_
  refine Gr.cons (v := (.bool false)) (σ1 := _) rfl ?_
  refine Gr.cons (v := (.bool false)) (σ1 := _) rfl ?_
  refine Gr.cons (v := (.bool false)) (σ1 := _) rfl ?_
  refine Gr.cons (v := (.ptr ⟨.d0, .d0, .d1, .d0, .d1⟩ 0)) (σ1 := _) rfl ?_
  refine Gr.cons (v := (.int .i64 (.ofNat 2))) (σ1 := _) rfl ?_
  refine Gr.cons (v := (.bool false)) (σ1 := _) rfl ?_
  refine Gr.cons (v := (.bool false)) (σ1 := _) rfl ?_
  refine Gr.cons (v := (.bool false)) (σ1 := _) rfl ?_
  refine Gr.cons (v := (.ptr ⟨.d0, .d0, .d1, .d0, .d0⟩ 0)) (σ1 := _) rfl ?_
  refine Gr.cons (v := (.int .i64 (.ofNat 3))) (σ1 := _) rfl ?_
  refine Gr.cons (v := (.bool false)) (σ1 := _) rfl ?_
  refine Gr.cons (v := (.bool false)) (σ1 := _) rfl ?_
  refine Gr.cons (v := uv) (σ1 := _) rfl ?_
  refine Gr.cons (v := uv) (σ1 := _) rfl ?_
  refine Gr.cons (v := uv) (σ1 := _) rfl ?_
  refine Gr.cons (v := (.bool false)) (σ1 := _) rfl ?_
  refine Gr.cons (v := (.bool false)) (σ1 := _) rfl ?_
  refine Gr.cons (v := (.bool false)) (σ1 := _) rfl ?_
  refine Gr.cons (v := (.ptr ⟨.d0, .d0, .d1, .d0, .d1⟩ 0)) (σ1 := _) rfl ?_
  refine Gr.cons (v := (.int .i64 (.ofNat 2))) (σ1 := _) rfl ?_
  refine Gr.cons (v := (.bool true)) (σ1 := _) rfl ?_
  refine Gr.cons (v := (.bool true)) (σ1 := _) rfl ?_
  refine Gr.cons (v := (.ptr ⟨.d0, .d0, .d1, .d0, .d1⟩ 1)) (σ1 := _) rfl ?_
  refine Gr.cons (v := (.str [])) (σ1 := _) rfl ?_
  refine Gr.cons (v := (.bool false)) (σ1 := _) rfl ?_
  refine Gr.cons (v := (.bool false)) (σ1 := _) rfl ?_
  refine Gr.cons (v := (.bool false)) (σ1 := _) rfl ?_
  refine Gr.cons (v := (.bool false)) (σ1 := _) rfl ?_
  refine Gr.cons (v := (.ptr ⟨.d0, .d0, .d1, .d0, .d0⟩ 0)) (σ1 := _) rfl ?_
  refine Gr.cons (v := (.int .i64 (.ofNat 3))) (σ1 := _) rfl ?_
  refine Gr.cons (v := (.bool false)) (σ1 := _) rfl ?_
  refine Gr.cons (v := (.bool false)) (σ1 := _) rfl ?_
  refine Gr.cons (v := uv) (σ1 := _) rfl ?_
  refine Gr.cons (v := uv) (σ1 := _) rfl ?_
  refine Gr.cons (v := uv) (σ1 := _) rfl ?_
  refine Gr.cons (v := (.bool false)) (σ1 := _) rfl ?_
  refine Gr.cons (v := (.bool false)) (σ1 := _) rfl ?_
  refine Gr.cons (v := (.bool false)) (σ1 := _) rfl ?_
  refine Gr.cons (v := (.ptr ⟨.d0, .d0, .d1, .d0, .d1⟩ 0)) (σ1 := _) rfl ?_
  refine Gr.cons (v := (.int .i64 (.ofNat 2))) (σ1 := _) rfl ?_
  refine Gr.cons (v := (.bool false)) (σ1 := _) rfl ?_
  refine Gr.cons (v := (.bool false)) (σ1 := _) rfl ?_
  refine Gr.cons (v := uv) (σ1 := _) rfl ?_
  refine Gr.cons (v := uv) (σ1 := _) rfl ?_
  refine Gr.cons (v := uv) (σ1 := _) rfl ?_
  refine Gr.cons (v := (.bool false)) (σ1 := _) rfl ?_
  refine Gr.cons (v := (.bool false)) (σ1 := _) rfl ?_
  refine Gr.nil ?_
  refine Gx.condF rfl ?_
  refine Gx.skip ?_
  refine Gx.seq ?_
  refine Gx.ops ?_
  refine Gr.cons (v := (.agg [.int .i64 (.ofNat 3), .str la])) (σ1 := _) rfl ?_
  refine Gr.cons (v := (.agg [.int .i64 (.ofNat 2), .str []])) (σ1 := _) rfl ?_
  refine Gr.callF (Gc.code rfl rfl ?_)
  refine Gx.seq ?_
  refine Gx.ops ?_
  refine Gr.cons (v := (.ptr ⟨.d0, .d0, .d1, .d0, .d2⟩ 0)) (σ1 := _) rfl ?_
  refine Gr.cons (v := (.ptr ⟨.d0, .d0, .d1, .d0, .d3⟩ 0)) (σ1 := _) rfl ?_
  refine Gr.cons (v := (.ptr ⟨.d0, .d0, .d1, .d0, .d4⟩ 0)) (σ1 := _) rfl ?_
  refine Gr.cons (v := (.int .i64 (.ofNat 0))) (σ1 := _) rfl ?_
  refine Gr.nil ?_
  refine Gx.seq ?_
  refine Gx.seq ?_
  refine Gx.ops ?_
  refine Gr.cons (v := (.ptr ⟨.d0, .d0, .d1, .d0, .d2⟩ 0)) (σ1 := _) rfl ?_
  refine Gr.cons (v := (.int .i64 (.ofNat 3))) (σ1 := _) rfl ?_
  refine Gr.cons (v := (.ptr ⟨.d0, .d0, .d1, .d0, .d3⟩ 0)) (σ1 := _) rfl ?_
  refine Gr.cons (v := (.int .i64 (.ofNat 2))) (σ1 := _) rfl ?_
  refine Gr.cons (v := (.agg [.int .i64 (.ofNat 3), .int .i64 (.ofNat 2)])) (σ1 := _) rfl ?_
  refine Gr.nil ?_
  refine Gx.block ?_
  refine Gx.seq ?_
  refine Gx.ops ?_
  refine Gr.cons (v := (.agg [.int .i64 (.ofNat 3), .int .i64 (.ofNat 3)])) (σ1 := _) rfl ?_
  refine Gr.cons (v := (.bool false)) (σ1 := _) rfl ?_
  refine Gr.cons (v := (.bool false)) (σ1 := _) rfl ?_
  refine Gr.nil ?_
  refine Gx.condF rfl ?_
  refine Gx.seq ?_
  refine Gx.ops ?_
  refine Gr.cons (v := (.agg [.int .i64 (.ofNat 1), .int .i64 (.ofNat 1)])) (σ1 := _) rfl ?_
  refine Gr.cons (v := (.bool false)) (σ1 := _) rfl ?_
  refine Gr.cons (v := (.bool false)) (σ1 := _) rfl ?_
  refine Gr.nil ?_
  refine Gx.condF rfl ?_
  refine Gx.skip ?_
  refine Gx.seq ?_
  refine Gx.seq ?_
  refine Gx.ops ?_
  refine Gr.cons (v := (.ptr ⟨.d0, .d0, .d1, .d0, .d3⟩ 0)) (σ1 := _) rfl ?_
  refine Gr.cons (v := (.int .i64 (.ofNat 2))) (σ1 := _) rfl ?_
  refine Gr.cons (v := (.ptr ⟨.d0, .d0, .d1, .d0, .d2⟩ 0)) (σ1 := _) rfl ?_
  refine Gr.cons (v := (.int .i64 (.ofNat 3))) (σ1 := _) rfl ?_
  refine Gr.cons (v := (.bool false)) (σ1 := _) rfl ?_
  refine Gr.nil ?_
  refine Gx.condF rfl ?_
  refine Gx.skip ?_
  refine Gx.seq ?_
  refine Gx.ops ?_
  refine Gr.cons (v := (.agg [.int .i64 (.ofNat 3), .str la])) (σ1 := _) rfl ?_
  refine Gr.cons (v := uv) (σ1 := _) rfl ?_
  refine Gr.cons (v := (.int .i64 (.ofNat 0))) (σ1 := _) rfl ?_
  refine Gr.nil ?_
  refine Gx.ret ?_
  refine ⟨(.tup [.agg [.int .i64 (.ofNat 3), .str la], .int .i64 (.ofNat 0)]), rfl, ?_⟩
  refine Gr.cons (v := (.tup [.agg [.int .i64 (.ofNat 3), .str la], .int .i64 (.ofNat 0)])) (σ1 := _) rfl ?_
  refine Gr.cons (v := (.agg [.int .i64 (.ofNat 3), .str la])) (σ1 := _) rfl ?_
  refine Gr.cons (v := (.int .i64 (.ofNat 0))) (σ1 := _) rfl ?_
  refine Gr.cons (v := (.ptr ⟨.d0, .d0, .d1, .d0, .d5⟩ 0)) (σ1 := _) rfl ?_
  refine Gr.cons (v := uv) (σ1 := _) rfl ?_
  refine Gr.cons (v := (.int .i64 (.ofNat 0))) (σ1 := _) rfl ?_
  refine Gr.nil ?_
  refine Gx.seq ?_
  refine Gx.ops ?_
  refine Gr.cons (v := (.agg [.int .i64 (.ofNat 3), .str la])) (σ1 := _) rfl ?_
  refine Gr.cons (v := (.agg [.int .i64 (.ofNat 2), .str []])) (σ1 := _) rfl ?_
  refine Gr.callF (Gc.code rfl rfl ?_)
  refine Gx.seq ?_
  refine Gx.ops ?_
  refine Gr.cons (v := (.ptr ⟨.d0, .d0, .d1, .d0, .d6⟩ 0)) (σ1 := _) rfl ?_
  refine Gr.cons (v := (.ptr ⟨.d0, .d0, .d1, .d0, .d7⟩ 0)) (σ1 := _) rfl ?_
  refine Gr.cons (v := (.ptr ⟨.d0, .d0, .d1, .d1, .d0⟩ 0)) (σ1 := _) rfl ?_
  refine Gr.cons (v := (.int .i64 (.ofNat 0))) (σ1 := _) rfl ?_
  refine Gr.nil ?_
  refine Gx.seq ?_
  refine Gx.block ?_
  refine Gx.seq ?_
  refine Gx.ops ?_
  refine Gr.cons (v := (.ptr ⟨.d0, .d0, .d1, .d0, .d6⟩ 0)) (σ1 := _) rfl ?_
  refine Gr.cons (v := (.int .i64 (.ofNat 3))) (σ1 := _) rfl ?_
  refine Gr.cons (v := (.bool true)) (σ1 := _) rfl ?_
  refine Gr.cons (v := (.bool true)) (σ1 := _) rfl ?_
  refine Gr.cons (v := (.ptr ⟨.d0, .d0, .d1, .d0, .d7⟩ 0)) (σ1 := _) rfl ?_
  refine Gr.cons (v := (.int .i64 (.ofNat 2))) (σ1 := _) rfl ?_
  refine Gr.cons (v := (.bool false)) (σ1 := _) rfl ?_
  refine Gr.cons (v := (.bool false)) (σ1 := _) rfl ?_
  refine Gr.cons (v := (.bool false)) (σ1 := _) rfl ?_
  refine Gr.cons (v := uv) (σ1 := _) rfl ?_
  refine Gr.cons (v := uv) (σ1 := _) rfl ?_
  refine Gr.cons (v := uv) (σ1 := _) rfl ?_
  refine Gr.cons (v := uv) (σ1 := _) rfl ?_
  refine Gr.cons (v := uv) (σ1 := _) rfl ?_
  refine Gr.cons (v := (.bool false)) (σ1 := _) rfl ?_
  refine Gr.cons (v := (.bool false)) (σ1 := _) rfl ?_
  refine Gr.nil ?_
  refine Gx.condF rfl ?_
  refine Gx.seq ?_
  refine Gx.ops ?_
  refine Gr.cons (v := (.ptr ⟨.d0, .d0, .d1, .d0, .d6⟩ 0)) (σ1 := _) rfl ?_
  refine Gr.cons (v := (.int .i64 (.ofNat 3))) (σ1 := _) rfl ?_
  refine Gr.cons (v := (.ptr ⟨.d0, .d0, .d1, .d0, .d7⟩ 0)) (σ1 := _) rfl ?_
  refine Gr.cons (v := (.int .i64 (.ofNat 2))) (σ1 := _) rfl ?_
  refine Gr.cons (v := (.bool true)) (σ1 := _) rfl ?_
  refine Gr.cons (v := (.bool true)) (σ1 := _) rfl ?_
  refine Gr.nil ?_
  refine Gx.condT rfl ?_
  refine Gx.seq ?_
  refine Gx.seq ?_
  refine Gx.ops ?_
  refine Gr.cons (v := (.ptr ⟨.d0, .d0, .d1, .d0, .d6⟩ 0)) (σ1 := _) rfl ?_
  refine Gr.cons (v := (.int .i64 (.ofNat 3))) (σ1 := _) rfl ?_
  refine Gr.cons (v := (.ptr ⟨.d0, .d0, .d1, .d0, .d7⟩ 0)) (σ1 := _) rfl ?_
  refine Gr.cons (v := (.int .i64 (.ofNat 2))) (σ1 := _) rfl ?_
  refine Gr.cons (v := (.bool true)) (σ1 := _) rfl ?_
  refine Gr.nil ?_
  refine Gx.condT rfl ?_
  refine Gx.seq ?_
  refine Gx.ops ?_
  refine Gr.cons (v := (.agg [.int .i64 (.ofNat 3), .str la])) (σ1 := _) rfl ?_
  refine Gr.cons (v := uv) (σ1 := _) rfl ?_
  refine Gr.cons (v := (.int .i64 (.ofNat 0))) (σ1 := _) rfl ?_
  refine Gr.nil ?_
  refine Gx.ret ?_
  refine ⟨(.tup [.agg [.int .i64 (.ofNat 3), .str la], .int .i64 (.ofNat 0)]), rfl, ?_⟩
  refine Gr.cons (v := (.tup [.agg [.int .i64 (.ofNat 3), .str la], .int .i64 (.ofNat 0)])) (σ1 := _) rfl ?_
  refine Gr.cons (v := (.agg [.int .i64 (.ofNat 3), .str la])) (σ1 := _) rfl ?_
  refine Gr.cons (v := (.int .i64 (.ofNat 0))) (σ1 := _) rfl ?_
  refine Gr.cons (v := (.ptr ⟨.d0, .d0, .d1, .d1, .d1⟩ 0)) (σ1 := _) rfl ?_
  refine Gr.cons (v := uv) (σ1 := _) rfl ?_
  refine Gr.cons (v := (.int .i64 (.ofNat 0))) (σ1 := _) rfl ?_
  refine Gr.nil ?_
  refine Gx.seq ?_
  refine Gx.ops ?_
  refine Gr.cons (v := (.agg [.int .i64 (.ofNat 3), .str la])) (σ1 := _) rfl ?_
  refine Gr.cons (v := (.agg [.int .i64 (.ofNat 3), .str la])) (σ1 := _) rfl ?_
  refine Gr.eqF rfl rfl ?_
  rw [hla]
  refine Gr.cons (v := (.bool true)) (σ1 := _) rfl ?_
  refine Gr.cons (v := (.int .i64 (.ofNat 0))) (σ1 := _) rfl ?_
  refine Gr.cons (v := (.int .i64 (.ofNat 0))) (σ1 := _) rfl ?_
  refine Gr.cons (v := (.bool true)) (σ1 := _) rfl ?_
  refine Gr.cons (v := (.bool true)) (σ1 := _) rfl ?_
  refine Gr.cons (v := (.bool true)) (σ1 := _) rfl ?_
  refine Gr.cons (v := (.bool true)) (σ1 := _) rfl ?_
  refine Gr.cons (v := (.bool true)) (σ1 := _) rfl ?_
  refine Gr.cons (v := (.bool true)) (σ1 := _) rfl ?_
  refine Gr.nil ?_
  refine Gx.ret ?_
  refine ⟨(.bool true), rfl, ?_⟩
  rfl
theorem c3s2b (la : List Nat) (lb : List Nat) (hla : seq8 la la = true) (hlb : seq8 lb [] = false) : Gc FA3 9 i4 [.agg [.int .i64 (.ofNat 3), .str la], .agg [.int .i64 (.ofNat 2), .str lb]] σE fun v _ => v = .bool true := by
  refine Gc.code rfl rfl ?_
  refine Gx.seq ?_
  refine Gx.ops ?_
  refine Gr.cons (v := (.ptr ⟨.d0, .d0, .d1, .d0, .d0⟩ 0)) (σ1 := _) rfl ?_
  refine Gr.cons (v := (.ptr ⟨.d0, .d0, .d1, .d0, .d1⟩ 0)) (σ1 := _) rfl ?_
  refine Gr.cons (v := (.bool false)) (σ1 := _) rfl ?_
  refine Gr.nil ?_
  refine Gx.seq ?_
  refine Gx.seq ?_
  refine Gx.ops ?_
  refine Gr.cons (v := (.ptr ⟨.d0, .d0, .d1, .d0, .d0⟩ 0)) (σ1 := _) rfl ?_
  refine Gr.cons (v := (.int .i64 (.ofNat 3))) (σ1 := _) rfl ?_
  refine Gr.cons (v := (.bool false)) (σ1 := _) rfl ?_
  refine Gr.cons (v := (.bool false)) (σ1 := _) rfl ?_
  refine Gr.cons (v := (.ptr ⟨.d0, .d0, .d1, .d0, .d0⟩ 0)) (σ1 := _) rfl ?_
  refine Gr.cons (v := (.int .i64 (.ofNat 3))) (σ1 := _) rfl ?_
  refine Gr.cons (v := (.bool false)) (σ1 := _) rfl ?_
  refine Gr.cons (v := (.bool false)) (σ1 := _) rfl ?_
  refine Gr.cons (v := (.bool false)) (σ1 := _) rfl ?_
  refine Gr.cons (v := (.ptr ⟨.d0, .d0, .d1, .d0, .d1⟩ 0)) (σ1 := _) rfl ?_
  refine Gr.cons (v := (.int .i64 (.ofNat 2))) (σ1 := _) rfl ?_
  refine Gr.cons (v := (.bool false)) (σ1 := _) rfl ?_
  refine Gr.cons (v := (.bool false)) (σ1 := _) rfl ?_
  refine Gr.cons (v := (.bool false)) (σ1 := _) rfl ?_
  refine Gr.cons (v := (.ptr ⟨.d0, .d0, .d1, .d0, .d1⟩ 0)) (σ1 := _) rfl ?_
  refine Gr.cons (v := (.int .i64 (.ofNat 2))) (σ1 := _) rfl ?_
  refine Gr.cons (v := (.bool false)) (σ1 := _) rfl ?_
  refine Gr.cons (v := (.bool false)) (σ1 := _) rfl ?_
  refine Gr.cons (v := (.bool false)) (σ1 := _) rfl ?_
  refine Gr.cons (v := (.ptr ⟨.d0, .d0, .d1, .d0, .d0⟩ 0)) (σ1 := _) rfl ?_
  refine Gr.cons (v := (.int .i64 (.ofNat 3))) (σ1 := _) rfl ?_
  refine Gr.cons (v := (.bool false)) (σ1 := _) rfl ?_
  refine Gr.cons (v := (.bool false)) (σ1 := _) rfl ?_
  refine Gr.cons (v := uv) (σ1 := _) rfl ?_
  refine Gr.cons (v := uv) (σ1 := _) rfl ?_
  refine Gr.cons (v := uv) (σ1 := _) rfl ?_
  refine Gr.cons (v := (.bool false)) (σ1 := _) rfl ?_
  refine Gr.cons (v := (.bool false)) (σ1 := _) rfl ?_
  refine Gr.cons (v := (.bool false)) (σ1 := _) rfl ?_
  refine Gr.cons (v := (.ptr ⟨.d0, .d0, .d1, .d0, .d1⟩ 0)) (σ1 := _) rfl ?_
  refine Gr.cons (v := (.int .i64 (.ofNat 2))) (σ1 := _) rfl ?_
  refine Gr.cons (v := (.bool true)) (σ1 := _) rfl ?_
  refine Gr.cons (v := (.bool true)) (σ1 := _) rfl ?_
  refine Gr.cons (v := (.ptr ⟨.d0, .d0, .d1, .d0, .d1⟩ 1)) (σ1 := _) rfl ?_
  refine Gr.cons (v := (.str lb)) (σ1 := _) rfl ?_
  refine Gr.binS (b := (not8 (seq8 lb []))) (b' := true) rfl (by rw [hlb]; rfl) ?_
  refine Gr.cons (v := (.bool true)) (σ1 := _) rfl ?_
  refine Gr.cons (v := (.bool true)) (σ1 := _) rfl ?_
  refine Gr.cons (v := (.bool true)) (σ1 := _) rfl ?_
  refine Gr.cons (v := uv) (σ1 := _) rfl ?_
  refine Gr.cons (v := uv) (σ1 := _) rfl ?_
  refine Gr.cons (v := uv) (σ1 := _) rfl ?_
  refine Gr.cons (v := uv) (σ1 := _) rfl ?_
  refine Gr.cons (v := uv) (σ1 := _) rfl ?_
  refine Gr.cons (v := uv) (σ1 := _) rfl ?_
  refine Gr.cons (v := uv) (σ1 := _) rfl ?_
  refine Gr.cons (v := uv) (σ1 := _) rfl ?_
  refine Gr.cons (v := (.bool true)) (σ1 := _) rfl ?_
  refine Gr.cons (v := (.bool true)) (σ1 := _) rfl ?_
  refine Gr.cons (v := uv) (σ1 := _) rfl ?_
  refine Gr.cons (v := uv) (σ1 := _) rfl ?_
  refine Gr.cons (v := uv) (σ1 := _) rfl ?_
  refine Gr.cons (v := uv) (σ1 := _) rfl ?_
  refine Gr.cons (v := uv) (σ1 := _) rfl ?_
  refine Gr.cons (v := uv) (σ1 := _) rfl ?_
  refine Gr.cons (v := uv) (σ1 := _) rfl ?_
  refine Gr.cons (v := uv) (σ1 := _) rfl ?_
  refine Gr.cons (v := (.bool true)) (σ1 := _) rfl ?_
  refine Gr.nil ?_
  refine Gx.condT rfl ?_
  refine Gx.seq ?_
  refine Gx.ops ?_
  refine Gr.cons (v := (.bool true)) (σ1 := _) rfl ?_
  refine Gr.cons (v := (.bool true)) (σ1 := _) rfl ?_
  refine Gr.nil ?_
  refine Gx.ret ?_
  refine ⟨(.bool true), rfl, ?_⟩
  rfl
theorem c3s3se (la : List Nat) (hla : seq8 la la = true) : Gc FA3 9 i4 [.agg [.int .i64 (.ofNat 3), .str la], .agg [.int .i64 (.ofNat 3), .str la]] σE fun v _ => v = .bool true := by
  refine Gc.code rfl rfl ?_
  refine Gx.seq ?_
  refine Gx.ops ?_
  refine Gr.cons (v := (.ptr ⟨.d0, .d0, .d1, .d0, .d0⟩ 0)) (σ1 := _) rfl ?_
  refine Gr.cons (v := (.ptr ⟨.d0, .d0, .d1, .d0, .d1⟩ 0)) (σ1 := _) rfl ?_
  refine Gr.cons (v := (.bool false)) (σ1 := _) rfl ?_
  refine Gr.nil ?_
  refine Gx.seq ?_
  refine Gx.seq ?_
  refine Gx.ops ?_
  refine Gr.cons (v := (.ptr ⟨.d0, .d0, .d1, .d0, .d0⟩ 0)) (σ1 := _) rfl ?_
  refine Gr.cons (v := (.int .i64 (.ofNat 3))) (σ1 := _) rfl ?_
  refine Gr.cons (v := (.bool false)) (σ1 := _) rfl ?_
  refine Gr.cons (v := (.bool false)) (σ1 := _) rfl ?_
  refine Gr.cons (v := (.ptr ⟨.d0, .d0, .d1, .d0, .d0⟩ 0)) (σ1 := _) rfl ?_
  refine Gr.cons (v := (.int .i64 (.ofNat 3))) (σ1 := _) rfl ?_
  refine Gr.cons (v := (.bool false)) (σ1 := _) rfl ?_
  refine Gr.cons (v := (.bool false)) (σ1 := _) rfl ?_
  refine Gr.cons (v := (.bool false)) (σ1 := _) rfl ?_
  refine Gr.cons (v := (.ptr ⟨.d0, .d0, .d1, .d0, .d1⟩ 0)) (σ1 := _) rfl ?_
  refine Gr.cons (v := (.int .i64 (.ofNat 3))) (σ1 := _) rfl ?_
  refine Gr.cons (v := (.bool false)) (σ1 := _) rfl ?_
  refine Gr.cons (v := (.bool false)) (σ1 := _) rfl ?_
  refine Gr.cons (v := (.bool false)) (σ1 := _) rfl ?_
  refine Gr.cons (v := (.ptr ⟨.d0, .d0, .d1, .d0, .d1⟩ 0)) (σ1 := _) rfl ?_
  refine Gr.cons (v := (.int .i64 (.ofNat 3))) (σ1 := _) rfl ?_
  refine Gr.cons (v := (.bool false)) (σ1 := _) rfl ?_
  refine Gr.cons (v := (.bool false)) (σ1 := _) rfl ?_
  refine Gr.cons (v := (.bool false)) (σ1 := _) rfl ?_
  refine Gr.cons (v := (.ptr ⟨.d0, .d0, .d1, .d0, .d0⟩ 0)) (σ1 := _) rfl ?_
  refine Gr.cons (v := (.int .i64 (.ofNat 3))) (σ1 := _) rfl ?_
  refine Gr.cons (v := (.bool false)) (σ1 := _) rfl ?_
  refine Gr.cons (v := (.bool false)) (σ1 := _) rfl ?_
  refine Gr.cons (v := uv) (σ1 := _) rfl ?_
  refine Gr.cons (v := uv) (σ1 := _) rfl ?_
  refine Gr.cons (v := uv) (σ1 := _) rfl ?_
  refine Gr.cons (v := (.bool false)) (σ1 := _) rfl ?_
  refine Gr.cons (v := (.bool false)) (σ1 := _) rfl ?_
  refine Gr.cons (v := (.bool false)) (σ1 := _) rfl ?_
  refine Gr.cons (v := (.ptr ⟨.d0, .d0, .d1, .d0, .d1⟩ 0)) (σ1 := _) rfl ?_
  refine Gr.cons (v := (.int .i64 (.ofNat 3))) (σ1 := _) rfl ?_
  refine Gr.cons (v := (.bool false)) (σ1 := _) rfl ?_
  refine Gr.cons (v := (.bool false)) (σ1 := _) rfl ?_
  refine Gr.cons (v := uv) (σ1 := _) rfl ?_
  refine Gr.cons (v := uv) (σ1 := _) rfl ?_
  refine Gr.cons (v := uv) (σ1 := _) rfl ?_
  refine Gr.cons (v := (.bool false)) (σ1 := _) rfl ?_
  refine Gr.cons (v := (.bool false)) (σ1 := _) rfl ?_
  refine Gr.cons (v := (.bool false)) (σ1 := _) rfl ?_
  refine Gr.cons (v := (.ptr ⟨.d0, .d0, .d1, .d0, .d0⟩ 0)) (σ1 := _) rfl ?_
  refine Gr.cons (v := (.int .i64 (.ofNat 3))) (σ1 := _) rfl ?_
  refine Gr.cons (v := (.bool false)) (σ1 := _) rfl ?_
  refine Gr.cons (v := (.bool false)) (σ1 := _) rfl ?_
  refine Gr.cons (v := uv) (σ1 := _) rfl ?_
  refine Gr.cons (v := uv) (σ1 := _) rfl ?_
  refine Gr.cons (v := uv) (σ1 := _) rfl ?_
  refine Gr.cons (v := (.bool false)) (σ1 := _) rfl ?_
  refine Gr.cons (v := (.bool false)) (σ1 := _) rfl ?_
  refine Gr.cons (v := (.bool false)) (σ1 := _) rfl ?_
  refine Gr.cons (v := (.ptr ⟨.d0, .d0, .d1, .d0, .d1⟩ 0)) (σ1 := _) rfl ?_
  refine Gr.cons (v := (.int .i64 (.ofNat 3))) (σ1 := _) rfl ?_
  refine Gr.cons (v := (.bool false)) (σ1 := _) rfl ?_
  refine Gr.cons (v := (.bool false)) (σ1 := _) rfl ?_
  refine Gr.cons (v := uv) (σ1 := _) rfl ?_
  refine Gr.cons (v := uv) (σ1 := _) rfl ?_
  refine Gr.cons (v := uv) (σ1 := _) rfl ?_
  refine Gr.cons (v := (.bool false)) (σ1 := _) rfl ?_
  refine Gr.cons (v := (.bool false)) (σ1 := _) rfl ?_
  refine Gr.nil ?_
  refine Gx.condF rfl ?_
  refine Gx.skip ?_
  refine Gx.seq ?_
  refine Gx.ops ?_
  refine Gr.cons (v := (.agg [.int .i64 (.ofNat 3), .str la])) (σ1 := _) rfl ?_
  refine Gr.cons (v := (.agg [.int .i64 (.ofNat 3), .str la])) (σ1 := _) rfl ?_
  refine Gr.callF (Gc.code rfl rfl ?_)
  refine Gx.seq ?_
  refine Gx.ops ?_
  refine Gr.cons (v := (.ptr ⟨.d0, .d0, .d1, .d0, .d2⟩ 0)) (σ1 := _) rfl ?_
  refine Gr.cons (v := (.ptr ⟨.d0, .d0, .d1, .d0, .d3⟩ 0)) (σ1 := _) rfl ?_
  refine Gr.cons (v := (.ptr ⟨.d0, .d0, .d1, .d0, .d4⟩ 0)) (σ1 := _) rfl ?_
  refine Gr.cons (v := (.int .i64 (.ofNat 0))) (σ1 := _) rfl ?_
  refine Gr.nil ?_
  refine Gx.seq ?_
  refine Gx.seq ?_
  refine Gx.ops ?_
  refine Gr.cons (v := (.ptr ⟨.d0, .d0, .d1, .d0, .d2⟩ 0)) (σ1 := _) rfl ?_
  refine Gr.cons (v := (.int .i64 (.ofNat 3))) (σ1 := _) rfl ?_
  refine Gr.cons (v := (.ptr ⟨.d0, .d0, .d1, .d0, .d3⟩ 0)) (σ1 := _) rfl ?_
  refine Gr.cons (v := (.int .i64 (.ofNat 3))) (σ1 := _) rfl ?_
  refine Gr.cons (v := (.agg [.int .i64 (.ofNat 3), .int .i64 (.ofNat 3)])) (σ1 := _) rfl ?_
  refine Gr.nil ?_
  refine Gx.block ?_
  refine Gx.seq ?_
  refine Gx.ops ?_
  refine Gr.cons (v := (.agg [.int .i64 (.ofNat 3), .int .i64 (.ofNat 3)])) (σ1 := _) rfl ?_
  refine Gr.cons (v := (.bool true)) (σ1 := _) rfl ?_
  refine Gr.cons (v := (.bool true)) (σ1 := _) rfl ?_
  refine Gr.nil ?_
  refine Gx.condT rfl ?_
  refine Gx.seq ?_
  refine Gx.ops ?_
  refine Gr.cons (v := (.ptr ⟨.d0, .d0, .d1, .d0, .d2⟩ 1)) (σ1 := _) rfl ?_
  refine Gr.cons (v := (.str la)) (σ1 := _) rfl ?_
  refine Gr.cons (v := (.ptr ⟨.d0, .d0, .d1, .d0, .d3⟩ 1)) (σ1 := _) rfl ?_
  refine Gr.cons (v := (.str la)) (σ1 := _) rfl ?_
  refine Gr.binS (b := (not8 (seq8 la la))) (b' := false) rfl (by rw [hla]; rfl) ?_
  refine Gr.nil ?_
  refine Gx.condF rfl ?_
  refine Gx.skip ?_
  refine Gx.seq ?_
  refine Gx.seq ?_
  refine Gx.ops ?_
  refine Gr.cons (v := (.ptr ⟨.d0, .d0, .d1, .d0, .d3⟩ 0)) (σ1 := _) rfl ?_
  refine Gr.cons (v := (.int .i64 (.ofNat 3))) (σ1 := _) rfl ?_
  refine Gr.cons (v := (.ptr ⟨.d0, .d0, .d1, .d0, .d2⟩ 0)) (σ1 := _) rfl ?_
  refine Gr.cons (v := (.int .i64 (.ofNat 3))) (σ1 := _) rfl ?_
  refine Gr.cons (v := (.bool false)) (σ1 := _) rfl ?_
  refine Gr.nil ?_
  refine Gx.condF rfl ?_
  refine Gx.skip ?_
  refine Gx.seq ?_
  refine Gx.ops ?_
  refine Gr.cons (v := (.agg [.int .i64 (.ofNat 3), .str la])) (σ1 := _) rfl ?_
  refine Gr.cons (v := uv) (σ1 := _) rfl ?_
  refine Gr.cons (v := (.int .i64 (.ofNat 0))) (σ1 := _) rfl ?_
  refine Gr.nil ?_
  refine Gx.ret ?_
  refine ⟨(.tup [.agg [.int .i64 (.ofNat 3), .str la], .int .i64 (.ofNat 0)]), rfl, ?_⟩
  refine Gr.cons (v := (.tup [.agg [.int .i64 (.ofNat 3), .str la], .int .i64 (.ofNat 0)])) (σ1 := _) rfl ?_
  refine Gr.cons (v := (.agg [.int .i64 (.ofNat 3), .str la])) (σ1 := _) rfl ?_
  refine Gr.cons (v := (.int .i64 (.ofNat 0))) (σ1 := _) rfl ?_
  refine Gr.cons (v := (.ptr ⟨.d0, .d0, .d1, .d0, .d5⟩ 0)) (σ1 := _) rfl ?_
  refine Gr.cons (v := uv) (σ1 := _) rfl ?_
  refine Gr.cons (v := (.int .i64 (.ofNat 0))) (σ1 := _) rfl ?_
  refine Gr.nil ?_
  refine Gx.seq ?_
  refine Gx.ops ?_
  refine Gr.cons (v := (.agg [.int .i64 (.ofNat 3), .str la])) (σ1 := _) rfl ?_
  refine Gr.cons (v := (.agg [.int .i64 (.ofNat 3), .str la])) (σ1 := _) rfl ?_
  refine Gr.callF (Gc.code rfl rfl ?_)
  refine Gx.seq ?_
  refine Gx.ops ?_
  refine Gr.cons (v := (.ptr ⟨.d0, .d0, .d1, .d0, .d6⟩ 0)) (σ1 := _) rfl ?_
  refine Gr.cons (v := (.ptr ⟨.d0, .d0, .d1, .d0, .d7⟩ 0)) (σ1 := _) rfl ?_
  refine Gr.cons (v := (.ptr ⟨.d0, .d0, .d1, .d1, .d0⟩ 0)) (σ1 := _) rfl ?_
  refine Gr.cons (v := (.int .i64 (.ofNat 0))) (σ1 := _) rfl ?_
  refine Gr.nil ?_
  refine Gx.seq ?_
  refine Gx.block ?_
  refine Gx.seq ?_
  refine Gx.ops ?_
  refine Gr.cons (v := (.ptr ⟨.d0, .d0, .d1, .d0, .d6⟩ 0)) (σ1 := _) rfl ?_
  refine Gr.cons (v := (.int .i64 (.ofNat 3))) (σ1 := _) rfl ?_
  refine Gr.cons (v := (.bool true)) (σ1 := _) rfl ?_
  refine Gr.cons (v := (.bool true)) (σ1 := _) rfl ?_
  refine Gr.cons (v := (.ptr ⟨.d0, .d0, .d1, .d0, .d7⟩ 0)) (σ1 := _) rfl ?_
  refine Gr.cons (v := (.int .i64 (.ofNat 3))) (σ1 := _) rfl ?_
  refine Gr.cons (v := (.bool true)) (σ1 := _) rfl ?_
  refine Gr.cons (v := (.bool true)) (σ1 := _) rfl ?_
  refine Gr.cons (v := (.bool true)) (σ1 := _) rfl ?_
  refine Gr.cons (v := (.ptr ⟨.d0, .d0, .d1, .d0, .d6⟩ 1)) (σ1 := _) rfl ?_
  refine Gr.cons (v := (.str la)) (σ1 := _) rfl ?_
  refine Gr.cons (v := (.ptr ⟨.d0, .d0, .d1, .d0, .d7⟩ 1)) (σ1 := _) rfl ?_
  refine Gr.cons (v := (.str la)) (σ1 := _) rfl ?_
  refine Gr.binS (b := (not8 (seq8 la la))) (b' := false) rfl (by rw [hla]; rfl) ?_
  refine Gr.cons (v := (.bool false)) (σ1 := _) rfl ?_
  refine Gr.cons (v := (.bool false)) (σ1 := _) rfl ?_
  refine Gr.nil ?_
  refine Gx.condF rfl ?_
  refine Gx.seq ?_
  refine Gx.ops ?_
  refine Gr.cons (v := (.ptr ⟨.d0, .d0, .d1, .d0, .d6⟩ 0)) (σ1 := _) rfl ?_
  refine Gr.cons (v := (.int .i64 (.ofNat 3))) (σ1 := _) rfl ?_
  refine Gr.cons (v := (.ptr ⟨.d0, .d0, .d1, .d0, .d7⟩ 0)) (σ1 := _) rfl ?_
  refine Gr.cons (v := (.int .i64 (.ofNat 3))) (σ1 := _) rfl ?_
  refine Gr.cons (v := (.bool false)) (σ1 := _) rfl ?_
  refine Gr.cons (v := (.bool false)) (σ1 := _) rfl ?_
  refine Gr.nil ?_
  refine Gx.condF rfl ?_
  refine Gx.seq ?_
  refine Gx.ops ?_
  refine Gr.cons (v := (.ptr ⟨.d0, .d0, .d1, .d0, .d6⟩ 0)) (σ1 := _) rfl ?_
  refine Gr.cons (v := (.int .i64 (.ofNat 3))) (σ1 := _) rfl ?_
  refine Gr.cons (v := (.bool false)) (σ1 := _) rfl ?_
  refine Gr.cons (v := (.bool false)) (σ1 := _) rfl ?_
  refine Gr.cons (v := uv) (σ1 := _) rfl ?_
  refine Gr.cons (v := uv) (σ1 := _) rfl ?_
  refine Gr.cons (v := uv) (σ1 := _) rfl ?_
  refine Gr.cons (v := uv) (σ1 := _) rfl ?_
  refine Gr.cons (v := uv) (σ1 := _) rfl ?_
  refine Gr.cons (v := (.bool false)) (σ1 := _) rfl ?_
  refine Gr.cons (v := (.bool false)) (σ1 := _) rfl ?_
  refine Gr.nil ?_
  refine Gx.condF rfl ?_
  refine Gx.skip ?_
  refine Gx.seq ?_
  refine Gx.ops ?_
  refine Gr.cons (v := (.agg [.int .i64 (.ofNat 3), .str la])) (σ1 := _) rfl ?_
  refine Gr.cons (v := uv) (σ1 := _) rfl ?_
  refine Gr.cons (v := (.int .i64 (.ofNat 0))) (σ1 := _) rfl ?_
  refine Gr.nil ?_
  refine Gx.ret ?_
  refine ⟨(.tup [.agg [.int .i64 (.ofNat 3), .str la], .int .i64 (.ofNat 0)]), rfl, ?_⟩
  refine Gr.cons (v := (.tup [.agg [.int .i64 (.ofNat 3), .str la], .int .i64 (.ofNat 0)])) (σ1 := _) rfl ?_
  refine Gr.cons (v := (.agg [.int .i64 (.ofNat 3), .str la])) (σ1 := _) rfl ?_
  refine Gr.cons (v := (.int .i64 (.ofNat 0))) (σ1 := _) rfl ?_
  refine Gr.cons (v := (.ptr ⟨.d0, .d0, .d1, .d1, .d1⟩ 0)) (σ1 := _) rfl ?_
  refine Gr.cons (v := uv) (σ1 := _) rfl ?_
  refine Gr.cons (v := (.int .i64 (.ofNat 0))) (σ1 := _) rfl ?_
  refine Gr.nil ?_
  refine Gx.seq ?_
  refine Gx.ops ?_
  refine Gr.cons (v := (.agg [.int .i64 (.ofNat 3), .str la])) (σ1 := _) rfl ?_
  refine Gr.cons (v := (.agg [.int .i64 (.ofNat 3), .str la])) (σ1 := _) rfl ?_
  refine Gr.eqF rfl rfl ?_
  rw [hla]
  refine Gr.cons (v := (.bool true)) (σ1 := _) rfl ?_
  refine Gr.cons (v := (.int .i64 (.ofNat 0))) (σ1 := _) rfl ?_
  refine Gr.cons (v := (.int .i64 (.ofNat 0))) (σ1 := _) rfl ?_
  refine Gr.cons (v := (.bool true)) (σ1 := _) rfl ?_
  refine Gr.cons (v := (.bool true)) (σ1 := _) rfl ?_
  refine Gr.cons (v := (.bool true)) (σ1 := _) rfl ?_
  refine Gr.cons (v := (.bool true)) (σ1 := _) rfl ?_
  refine Gr.cons (v := (.bool true)) (σ1 := _) rfl ?_
  refine Gr.cons (v := (.bool true)) (σ1 := _) rfl ?_
  refine Gr.nil ?_
  refine Gx.ret ?_
  refine ⟨(.bool true), rfl, ?_⟩
  rfl
theorem c3s3su (la : List Nat) (lb : List Nat) (hla : seq8 la la = true) (hlb : seq8 lb lb = true) (hab : seq8 la lb = false) (hba : seq8 lb la = false) : Gc FA3 9 i4 [.agg [.int .i64 (.ofNat 3), .str la], .agg [.int .i64 (.ofNat 3), .str lb]] σE fun v _ => v = .bool true := by
  refine Gc.code rfl rfl ?_
  refine Gx.seq ?_
  refine Gx.ops ?_
  refine Gr.cons (v := (.ptr ⟨.d0, .d0, .d1, .d0, .d0⟩ 0)) (σ1 := _) rfl ?_
  refine Gr.cons (v := (.ptr ⟨.d0, .d0, .d1, .d0, .d1⟩ 0)) (σ1 := _) rfl ?_
  refine Gr.cons (v := (.bool false)) (σ1 := _) rfl ?_
  refine Gr.nil ?_
  refine Gx.seq ?_
  refine Gx.seq ?_
  refine Gx.ops ?_
  refine Gr.cons (v := (.ptr ⟨.d0, .d0, .d1, .d0, .d0⟩ 0)) (σ1 := _) rfl ?_
  refine Gr.cons (v := (.int .i64 (.ofNat 3))) (σ1 := _) rfl ?_
  refine Gr.cons (v := (.bool false)) (σ1 := _) rfl ?_
  refine Gr.cons (v := (.bool false)) (σ1 := _) rfl ?_
  refine Gr.cons (v := (.ptr ⟨.d0, .d0, .d1, .d0, .d0⟩ 0)) (σ1 := _) rfl ?_
  refine Gr.cons (v := (.int .i64 (.ofNat 3))) (σ1 := _) rfl ?_
  refine Gr.cons (v := (.bool false)) (σ1 := _) rfl ?_
  refine Gr.cons (v := (.bool false)) (σ1 := _) rfl ?_
  refine Gr.cons (v := (.bool false)) (σ1 := _) rfl ?_
  refine Gr.cons (v := (.ptr ⟨.d0, .d0, .d1, .d0, .d1⟩ 0)) (σ1 := _) rfl ?_
  refine Gr.cons (v := (.int .i64 (.ofNat 3))) (σ1 := _) rfl ?_
  refine Gr.cons (v := (.bool false)) (σ1 := _) rfl ?_
  refine Gr.cons (v := (.bool false)) (σ1 := _) rfl ?_
  refine Gr.cons (v := (.bool false)) (σ1 := _) rfl ?_
  refine Gr.cons (v := (.ptr ⟨.d0, .d0, .d1, .d0, .d1⟩ 0)) (σ1 := _) rfl ?_
  refine Gr.cons (v := (.int .i64 (.ofNat 3))) (σ1 := _) rfl ?_
  refine Gr.cons (v := (.bool false)) (σ1 := _) rfl ?_
  refine Gr.cons (v := (.bool false)) (σ1 := _) rfl ?_
  refine Gr.cons (v := (.bool false)) (σ1 := _) rfl ?_
  refine Gr.cons (v := (.ptr ⟨.d0, .d0, .d1, .d0, .d0⟩ 0)) (σ1 := _) rfl ?_
  refine Gr.cons (v := (.int .i64 (.ofNat 3))) (σ1 := _) rfl ?_
  refine Gr.cons (v := (.bool false)) (σ1 := _) rfl ?_
  refine Gr.cons (v := (.bool false)) (σ1 := _) rfl ?_
  refine Gr.cons (v := uv) (σ1 := _) rfl ?_
  refine Gr.cons (v := uv) (σ1 := _) rfl ?_
  refine Gr.cons (v := uv) (σ1 := _) rfl ?_
  refine Gr.cons (v := (.bool false)) (σ1 := _) rfl ?_
  refine Gr.cons (v := (.bool false)) (σ1 := _) rfl ?_
  refine Gr.cons (v := (.bool false)) (σ1 := _) rfl ?_
  refine Gr.cons (v := (.ptr ⟨.d0, .d0, .d1, .d0, .d1⟩ 0)) (σ1 := _) rfl ?_
  refine Gr.cons (v := (.int .i64 (.ofNat 3))) (σ1 := _) rfl ?_
  refine Gr.cons (v := (.bool false)) (σ1 := _) rfl ?_
  refine Gr.cons (v := (.bool false)) (σ1 := _) rfl ?_
  refine Gr.cons (v := uv) (σ1 := _) rfl ?_
  refine Gr.cons (v := uv) (σ1 := _) rfl ?_
  refine Gr.cons (v := uv) (σ1 := _) rfl ?_
  refine Gr.cons (v := (.bool false)) (σ1 := _) rfl ?_
  refine Gr.cons (v := (.bool false)) (σ1 := _) rfl ?_
  refine Gr.cons (v := (.bool false)) (σ1 := _) rfl ?_
  refine Gr.cons (v := (.ptr ⟨.d0, .d0, .d1, .d0, .d0⟩ 0)) (σ1 := _) rfl ?_
  refine Gr.cons (v := (.int .i64 (.ofNat 3))) (σ1 := _) rfl ?_
  refine Gr.cons (v := (.bool false)) (σ1 := _) rfl ?_
  refine Gr.cons (v := (.bool false)) (σ1 := _) rfl ?_
  refine Gr.cons (v := uv) (σ1 := _) rfl ?_
  refine Gr.cons (v := uv) (σ1 := _) rfl ?_
  refine Gr.cons (v := uv) (σ1 := _) rfl ?_
  refine Gr.cons (v := (.bool false)) (σ1 := _) rfl ?_
  refine Gr.cons (v := (.bool false)) (σ1 := _) rfl ?_
  refine Gr.cons (v := (.bool false)) (σ1 := _) rfl ?_
  refine Gr.cons (v := (.ptr ⟨.d0, .d0, .d1, .d0, .d1⟩ 0)) (σ1 := _) rfl ?_
  refine Gr.cons (v := (.int .i64 (.ofNat 3))) (σ1 := _) rfl ?_
  refine Gr.cons (v := (.bool false)) (σ1 := _) rfl ?_
  refine Gr.cons (v := (.bool false)) (σ1 := _) rfl ?_
  refine Gr.cons (v := uv) (σ1 := _) rfl ?_
  refine Gr.cons (v := uv) (σ1 := _) rfl ?_
  refine Gr.cons (v := uv) (σ1 := _) rfl ?_
  refine Gr.cons (v := (.bool false)) (σ1 := _) rfl ?_
  refine Gr.cons (v := (.bool false)) (σ1 := _) rfl ?_
  refine Gr.nil ?_
  refine Gx.condF rfl ?_
  refine Gx.skip ?_
  refine Gx.seq ?_
  refine Gx.ops ?_
  refine Gr.cons (v := (.agg [.int .i64 (.ofNat 3), .str la])) (σ1 := _) rfl ?_
  refine Gr.cons (v := (.agg [.int .i64 (.ofNat 3), .str lb])) (σ1 := _) rfl ?_
  refine Gr.callF (Gc.code rfl rfl ?_)
  refine Gx.seq ?_
  refine Gx.ops ?_
  refine Gr.cons (v := (.ptr ⟨.d0, .d0, .d1, .d0, .d2⟩ 0)) (σ1 := _) rfl ?_
  refine Gr.cons (v := (.ptr ⟨.d0, .d0, .d1, .d0, .d3⟩ 0)) (σ1 := _) rfl ?_
  refine Gr.cons (v := (.ptr ⟨.d0, .d0, .d1, .d0, .d4⟩ 0)) (σ1 := _) rfl ?_
  refine Gr.cons (v := (.int .i64 (.ofNat 0))) (σ1 := _) rfl ?_
  refine Gr.nil ?_
  refine Gx.seq ?_
  refine Gx.seq ?_
  refine Gx.ops ?_
  refine Gr.cons (v := (.ptr ⟨.d0, .d0, .d1, .d0, .d2⟩ 0)) (σ1 := _) rfl ?_
  refine Gr.cons (v := (.int .i64 (.ofNat 3))) (σ1 := _) rfl ?_
  refine Gr.cons (v := (.ptr ⟨.d0, .d0, .d1, .d0, .d3⟩ 0)) (σ1 := _) rfl ?_
  refine Gr.cons (v := (.int .i64 (.ofNat 3))) (σ1 := _) rfl ?_
  refine Gr.cons (v := (.agg [.int .i64 (.ofNat 3), .int .i64 (.ofNat 3)])) (σ1 := _) rfl ?_
  refine Gr.nil ?_
  refine Gx.block ?_
  refine Gx.seq ?_
  refine Gx.ops ?_
  refine Gr.cons (v := (.agg [.int .i64 (.ofNat 3), .int .i64 (.ofNat 3)])) (σ1 := _) rfl ?_
  refine Gr.cons (v := (.bool true)) (σ1 := _) rfl ?_
  refine Gr.cons (v := (.bool true)) (σ1 := _) rfl ?_
  refine Gr.nil ?_
  refine Gx.condT rfl ?_
  refine Gx.seq ?_
  refine Gx.ops ?_
  refine Gr.cons (v := (.ptr ⟨.d0, .d0, .d1, .d0, .d2⟩ 1)) (σ1 := _) rfl ?_
  refine Gr.cons (v := (.str la)) (σ1 := _) rfl ?_
  refine Gr.cons (v := (.ptr ⟨.d0, .d0, .d1, .d0, .d3⟩ 1)) (σ1 := _) rfl ?_
  refine Gr.cons (v := (.str lb)) (σ1 := _) rfl ?_
  refine Gr.binS (b := (not8 (seq8 la lb))) (b' := true) rfl (by rw [hab]; rfl) ?_
  refine Gr.nil ?_
  refine Gx.condT rfl ?_
  refine Gx.seq ?_
  refine Gx.ops ?_
  refine Gr.cons (v := (.agg [.int .i64 (.ofNat 0), .str []])) (σ1 := _) rfl ?_
  refine Gr.cons (v := uv) (σ1 := _) rfl ?_
  refine Gr.cons (v := (.int .i64 (.ofNat 13))) (σ1 := _) rfl ?_
  refine Gr.nil ?_
  refine Gx.ret ?_
  refine ⟨(.tup [.agg [.int .i64 (.ofNat 0), .str []], .int .i64 (.ofNat 13)]), rfl, ?_⟩
  refine Gr.cons (v := (.tup [.agg [.int .i64 (.ofNat 0), .str []], .int .i64 (.ofNat 13)])) (σ1 := _) rfl ?_
  refine Gr.cons (v := (.agg [.int .i64 (.ofNat 0), .str []])) (σ1 := _) rfl ?_
  refine Gr.cons (v := (.int .i64 (.ofNat 13))) (σ1 := _) rfl ?_
  refine Gr.cons (v := (.ptr ⟨.d0, .d0, .d1, .d0, .d5⟩ 0)) (σ1 := _) rfl ?_
  refine Gr.cons (v := uv) (σ1 := _) rfl ?_
  refine Gr.cons (v := (.int .i64 (.ofNat 13))) (σ1 := _) rfl ?_
  refine Gr.nil ?_
  refine Gx.seq ?_
  refine Gx.ops ?_
  refine Gr.cons (v := (.agg [.int .i64 (.ofNat 3), .str la])) (σ1 := _) rfl ?_
  refine Gr.cons (v := (.agg [.int .i64 (.ofNat 3), .str lb])) (σ1 := _) rfl ?_
  refine Gr.callF (Gc.code rfl rfl ?_)
  refine Gx.seq ?_
  refine Gx.ops ?_
  refine Gr.cons (v := (.ptr ⟨.d0, .d0, .d1, .d0, .d6⟩ 0)) (σ1 := _) rfl ?_
  refine Gr.cons (v := (.ptr ⟨.d0, .d0, .d1, .d0, .d7⟩ 0)) (σ1 := _) rfl ?_
  refine Gr.cons (v := (.ptr ⟨.d0, .d0, .d1, .d1, .d0⟩ 0)) (σ1 := _) rfl ?_
  refine Gr.cons (v := (.int .i64 (.ofNat 0))) (σ1 := _) rfl ?_
  refine Gr.nil ?_
  refine Gx.seq ?_
  refine Gx.block ?_
  refine Gx.seq ?_
  refine Gx.ops ?_
  refine Gr.cons (v := (.ptr ⟨.d0, .d0, .d1, .d0, .d6⟩ 0)) (σ1 := _) rfl ?_
  refine Gr.cons (v := (.int .i64 (.ofNat 3))) (σ1 := _) rfl ?_
  refine Gr.cons (v := (.bool true)) (σ1 := _) rfl ?_
  refine Gr.cons (v := (.bool true)) (σ1 := _) rfl ?_
  refine Gr.cons (v := (.ptr ⟨.d0, .d0, .d1, .d0, .d7⟩ 0)) (σ1 := _) rfl ?_
  refine Gr.cons (v := (.int .i64 (.ofNat 3))) (σ1 := _) rfl ?_
  refine Gr.cons (v := (.bool true)) (σ1 := _) rfl ?_
  refine Gr.cons (v := (.bool true)) (σ1 := _) rfl ?_
  refine Gr.cons (v := (.bool true)) (σ1 := _) rfl ?_
  refine Gr.cons (v := (.ptr ⟨.d0, .d0, .d1, .d0, .d6⟩ 1)) (σ1 := _) rfl ?_
  refine Gr.cons (v := (.str la)) (σ1 := _) rfl ?_
  refine Gr.cons (v := (.ptr ⟨.d0, .d0, .d1, .d0, .d7⟩ 1)) (σ1 := _) rfl ?_
  refine Gr.cons (v := (.str lb)) (σ1 := _) rfl ?_
  refine Gr.binS (b := (not8 (seq8 la lb))) (b' := true) rfl (by rw [hab]; rfl) ?_
  refine Gr.cons (v := (.bool true)) (σ1 := _) rfl ?_
  refine Gr.cons (v := (.bool true)) (σ1 := _) rfl ?_
  refine Gr.nil ?_
  refine Gx.condT rfl ?_
  refine Gx.seq ?_
  refine Gx.ops ?_
  refine Gr.cons (v := (.agg [.int .i64 (.ofNat 0), .str []])) (σ1 := _) rfl ?_
  refine Gr.cons (v := uv) (σ1 := _) rfl ?_
  refine Gr.cons (v := (.int .i64 (.ofNat 13))) (σ1 := _) rfl ?_
  refine Gr.nil ?_
  refine Gx.ret ?_
  refine ⟨(.tup [.agg [.int .i64 (.ofNat 0), .str []], .int .i64 (.ofNat 13)]), rfl, ?_⟩
  refine Gr.cons (v := (.tup [.agg [.int .i64 (.ofNat 0), .str []], .int .i64 (.ofNat 13)])) (σ1 := _) rfl ?_
  refine Gr.cons (v := (.agg [.int .i64 (.ofNat 0), .str []])) (σ1 := _) rfl ?_
  refine Gr.cons (v := (.int .i64 (.ofNat 13))) (σ1 := _) rfl ?_
  refine Gr.cons (v := (.ptr ⟨.d0, .d0, .d1, .d1, .d1⟩ 0)) (σ1 := _) rfl ?_
  refine Gr.cons (v := uv) (σ1 := _) rfl ?_
  refine Gr.cons (v := (.int .i64 (.ofNat 13))) (σ1 := _) rfl ?_
  refine Gr.nil ?_
  refine Gx.seq ?_
  refine Gx.ops ?_
  refine Gr.cons (v := (.agg [.int .i64 (.ofNat 0), .str []])) (σ1 := _) rfl ?_
  refine Gr.cons (v := (.agg [.int .i64 (.ofNat 0), .str []])) (σ1 := _) rfl ?_
  refine Gr.eqF rfl rfl ?_
  refine Gr.cons (v := (.bool true)) (σ1 := _) rfl ?_
  refine Gr.cons (v := (.int .i64 (.ofNat 13))) (σ1 := _) rfl ?_
  refine Gr.cons (v := (.int .i64 (.ofNat 13))) (σ1 := _) rfl ?_
  refine Gr.cons (v := (.bool true)) (σ1 := _) rfl ?_
  refine Gr.cons (v := (.bool true)) (σ1 := _) rfl ?_
  refine Gr.cons (v := (.bool true)) (σ1 := _) rfl ?_
  refine Gr.cons (v := (.bool true)) (σ1 := _) rfl ?_
  refine Gr.cons (v := (.bool true)) (σ1 := _) rfl ?_
  refine Gr.cons (v := (.bool true)) (σ1 := _) rfl ?_
  refine Gr.nil ?_
  refine Gx.ret ?_
  refine ⟨(.bool true), rfl, ?_⟩
  rfl
end
end Go.Dk.Run
