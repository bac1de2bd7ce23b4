/-
  Texts of this claim, joined: part 5.
-/
import Derived.Test.YtobhcpfdgfkeiaaDoorJC0
import Derived.Test.YtobhcpfdgfkeiaaDoorJC1
import Derived.Test.YtobhcpfdgfkeiaaDoorJO3
namespace Go.Proofs.YtobhcpfdgfkeiaaDoor.Lx
open Go.RowKit Go.Proofs.YtobhcpfdgfkeiaaDoorW.PrintWords Go.Proofs.YtobhcpfdgfkeiaaDoorW.PrintLast Go.Proofs.YtobhcpfdgfkeiaaDoorW.PrintMore Go.Proofs.YtobhcpfdgfkeiaaDoor.Lf Go.Proofs.YtobhcpfdgfkeiaaDoor.Ext
attribute [local go_sem] max2_int min2_int max_two min_two max_three min_three max_four min_four   -- for this text's walks alone
set_option linter.unusedVariables false
set_option linter.unusedSimpArgs false

set_option maxHeartbeats 8000000 in
set_option maxRecDepth 100000 in
theorem umlautlaw17_LexOps.calls (k : Nat) (A0 : Option Addr) (c0 : Nat) (l0 : List Int) (a1 : Bool) (r : Bool) (w : World) (hgw : Wd w) (hr0 : Kd.C (Kd.int .i64) w A0 l0.length l0) (hc0 : l0.length ≤ c0) (h : umlautlaw17_LexOps.f k l0 a1 = some r) :
    Calls Tryd.prog 4 #[.slice A0 l0.length c0, .bool a1] w fun e w' => e = .returned (.bool r) ∧ Below w.heap.size w w' := by
  have HR0 := Aside0.mk hr0
  have HC0 := Aside0.mk hc0
  clear hr0 hc0
  have HB := Aside0.mk (Below.refl w.heap.size w)
  have H : (umlautlaw17_LexOps.l0 k l0 a1 (([(⟨#[40]⟩ : ByteArray), (⟨#[41]⟩ : ByteArray), (⟨#[44]⟩ : ByteArray), (⟨#[46]⟩ : ByteArray), (⟨#[59]⟩ : ByteArray), (⟨#[42]⟩ : ByteArray), (⟨#[61]⟩ : ByteArray), (⟨#[43]⟩ : ByteArray), (⟨#[47]⟩ : ByteArray), (⟨#[37]⟩ : ByteArray), (⟨#[38]⟩ : ByteArray), (⟨#[94]⟩ : ByteArray), (⟨#[60, 62]⟩ : ByteArray), (⟨#[60, 61]⟩ : ByteArray), (⟨#[62, 61]⟩ : ByteArray), (⟨#[60, 60]⟩ : ByteArray), (⟨#[62, 62]⟩ : ByteArray), (⟨#[124, 124]⟩ : ByteArray), (⟨#[60]⟩ : ByteArray), (⟨#[62]⟩ : ByteArray), (⟨#[124]⟩ : ByteArray), (⟨#[45]⟩ : ByteArray)] : List ByteArray)) (⟨#[]⟩ : ByteArray) ([] : List ByteArray) 0) = some r := h
  clear h
  obtain ⟨y319, hy319⟩ : ∃ y_ : List ByteArray, y_ = (([(⟨#[40]⟩ : ByteArray), (⟨#[41]⟩ : ByteArray), (⟨#[44]⟩ : ByteArray), (⟨#[46]⟩ : ByteArray), (⟨#[59]⟩ : ByteArray), (⟨#[42]⟩ : ByteArray), (⟨#[61]⟩ : ByteArray), (⟨#[43]⟩ : ByteArray), (⟨#[47]⟩ : ByteArray), (⟨#[37]⟩ : ByteArray), (⟨#[38]⟩ : ByteArray), (⟨#[94]⟩ : ByteArray), (⟨#[60, 62]⟩ : ByteArray), (⟨#[60, 61]⟩ : ByteArray), (⟨#[62, 61]⟩ : ByteArray), (⟨#[60, 60]⟩ : ByteArray), (⟨#[62, 62]⟩ : ByteArray), (⟨#[124, 124]⟩ : ByteArray), (⟨#[60]⟩ : ByteArray), (⟨#[62]⟩ : ByteArray), (⟨#[124]⟩ : ByteArray), (⟨#[45]⟩ : ByteArray)] : List ByteArray)) := ⟨_, rfl⟩
  replace H : (umlautlaw17_LexOps.l0 k l0 a1 y319 (⟨#[]⟩ : ByteArray) ([] : List ByteArray) 0) = some r := by first | (rw [hy319]; with_reducible exact H) | (have H2_ := (Option.bind_some _ _).symm.trans H; rw [hy319]; with_reducible exact H2_) | (have H2_ := (Option.bind_some _ _).symm.trans H; with_reducible exact H2_) | with_reducible exact H | (rw [hy319]; exact H) | exact H
  have Ny319 := Aside0.mk hy319
  clear hy319
  have H' := Aside0.mk H
  clear H
  go_enter Tryd.func4, Tryd.ntmps4
  go_wp2_with (first | ((with_reducible refine gate_dst (N := 14) rfl ?_); (try (refine gate_guard (by rfl) ?_; dsimp only)); refine Kd.R_lit Kd.string _ 9 ?hg (N := 14) ?hd (xs := ([(⟨#[40]⟩ : ByteArray), (⟨#[41]⟩ : ByteArray), (⟨#[44]⟩ : ByteArray), (⟨#[46]⟩ : ByteArray), (⟨#[59]⟩ : ByteArray), (⟨#[42]⟩ : ByteArray), (⟨#[61]⟩ : ByteArray), (⟨#[43]⟩ : ByteArray), (⟨#[47]⟩ : ByteArray), (⟨#[37]⟩ : ByteArray), (⟨#[38]⟩ : ByteArray), (⟨#[94]⟩ : ByteArray), (⟨#[60, 62]⟩ : ByteArray), (⟨#[60, 61]⟩ : ByteArray), (⟨#[62, 61]⟩ : ByteArray), (⟨#[60, 60]⟩ : ByteArray), (⟨#[62, 62]⟩ : ByteArray), (⟨#[124, 124]⟩ : ByteArray), (⟨#[60]⟩ : ByteArray), (⟨#[62]⟩ : ByteArray), (⟨#[124]⟩ : ByteArray), (⟨#[45]⟩ : ByteArray)] : List ByteArray)) (inner := [.string (⟨#[40]⟩ : ByteArray), .string (⟨#[41]⟩ : ByteArray), .string (⟨#[44]⟩ : ByteArray), .string (⟨#[46]⟩ : ByteArray), .string (⟨#[59]⟩ : ByteArray), .string (⟨#[42]⟩ : ByteArray), .string (⟨#[61]⟩ : ByteArray), .string (⟨#[43]⟩ : ByteArray), .string (⟨#[47]⟩ : ByteArray), .string (⟨#[37]⟩ : ByteArray), .string (⟨#[38]⟩ : ByteArray), .string (⟨#[94]⟩ : ByteArray), .string (⟨#[60, 62]⟩ : ByteArray), .string (⟨#[60, 61]⟩ : ByteArray), .string (⟨#[62, 61]⟩ : ByteArray), .string (⟨#[60, 60]⟩ : ByteArray), .string (⟨#[62, 62]⟩ : ByteArray), .string (⟨#[124, 124]⟩ : ByteArray), .string (⟨#[60]⟩ : ByteArray), .string (⟨#[62]⟩ : ByteArray), .string (⟨#[124]⟩ : ByteArray), .string (⟨#[45]⟩ : ByteArray)]) (ok := fun _ => True) (okp := fun _ => True) ?hr ?hp (fun _ hk => hk) trivial (Below.refl _ _) (Nat.le_refl _) (by simp) ?_; (case hd => rfl); (case hg => rfl); (case hr => first | (go_simp; done) | (go_simp; rfl)); (case hp => exact (Reps.one (show Kd.M Kd.string _ _ _ (⟨#[40]⟩ : ByteArray) [.string (⟨#[40]⟩ : ByteArray)] from rfl) (Reps.one (show Kd.M Kd.string _ _ _ (⟨#[41]⟩ : ByteArray) [.string (⟨#[41]⟩ : ByteArray)] from rfl) (Reps.one (show Kd.M Kd.string _ _ _ (⟨#[44]⟩ : ByteArray) [.string (⟨#[44]⟩ : ByteArray)] from rfl) (Reps.one (show Kd.M Kd.string _ _ _ (⟨#[46]⟩ : ByteArray) [.string (⟨#[46]⟩ : ByteArray)] from rfl) (Reps.one (show Kd.M Kd.string _ _ _ (⟨#[59]⟩ : ByteArray) [.string (⟨#[59]⟩ : ByteArray)] from rfl) (Reps.one (show Kd.M Kd.string _ _ _ (⟨#[42]⟩ : ByteArray) [.string (⟨#[42]⟩ : ByteArray)] from rfl) (Reps.one (show Kd.M Kd.string _ _ _ (⟨#[61]⟩ : ByteArray) [.string (⟨#[61]⟩ : ByteArray)] from rfl) (Reps.one (show Kd.M Kd.string _ _ _ (⟨#[43]⟩ : ByteArray) [.string (⟨#[43]⟩ : ByteArray)] from rfl) (Reps.one (show Kd.M Kd.string _ _ _ (⟨#[47]⟩ : ByteArray) [.string (⟨#[47]⟩ : ByteArray)] from rfl) (Reps.one (show Kd.M Kd.string _ _ _ (⟨#[37]⟩ : ByteArray) [.string (⟨#[37]⟩ : ByteArray)] from rfl) (Reps.one (show Kd.M Kd.string _ _ _ (⟨#[38]⟩ : ByteArray) [.string (⟨#[38]⟩ : ByteArray)] from rfl) (Reps.one (show Kd.M Kd.string _ _ _ (⟨#[94]⟩ : ByteArray) [.string (⟨#[94]⟩ : ByteArray)] from rfl) (Reps.one (show Kd.M Kd.string _ _ _ (⟨#[60, 62]⟩ : ByteArray) [.string (⟨#[60, 62]⟩ : ByteArray)] from rfl) (Reps.one (show Kd.M Kd.string _ _ _ (⟨#[60, 61]⟩ : ByteArray) [.string (⟨#[60, 61]⟩ : ByteArray)] from rfl) (Reps.one (show Kd.M Kd.string _ _ _ (⟨#[62, 61]⟩ : ByteArray) [.string (⟨#[62, 61]⟩ : ByteArray)] from rfl) (Reps.one (show Kd.M Kd.string _ _ _ (⟨#[60, 60]⟩ : ByteArray) [.string (⟨#[60, 60]⟩ : ByteArray)] from rfl) (Reps.one (show Kd.M Kd.string _ _ _ (⟨#[62, 62]⟩ : ByteArray) [.string (⟨#[62, 62]⟩ : ByteArray)] from rfl) (Reps.one (show Kd.M Kd.string _ _ _ (⟨#[124, 124]⟩ : ByteArray) [.string (⟨#[124, 124]⟩ : ByteArray)] from rfl) (Reps.one (show Kd.M Kd.string _ _ _ (⟨#[60]⟩ : ByteArray) [.string (⟨#[60]⟩ : ByteArray)] from rfl) (Reps.one (show Kd.M Kd.string _ _ _ (⟨#[62]⟩ : ByteArray) [.string (⟨#[62]⟩ : ByteArray)] from rfl) (Reps.one (show Kd.M Kd.string _ _ _ (⟨#[124]⟩ : ByteArray) [.string (⟨#[124]⟩ : ByteArray)] from rfl) (Reps.one (show Kd.M Kd.string _ _ _ (⟨#[45]⟩ : ByteArray) [.string (⟨#[45]⟩ : ByteArray)] from rfl) (Reps.none _ _)))))))))))))))))))))))); intro v320 w3 ho4 hb hg_ hnew_; clear hg_ hnew_; (first | rw [← Ny319.out] at ho4 | (simp only [Int.reduceToNat] at ho4; rw [← Ny319.out] at ho4)); have n0_ := Aside0.mk (Kd.R_lower ho4 (below_size (by repeat (first | (with_reducible first | exact HB.out | apply below_alloc | apply pw_below_drewN | apply below_drew1) | exact HB.out)))); have n1_ := Aside0.mk (below_step (by repeat (first | (with_reducible first | exact HB.out | apply below_alloc | apply pw_below_drewN | apply below_drew1) | exact HB.out)) hb); clear HB; have HO321 := n0_; have HB := n1_; clear n0_ n1_; clear hb ho4))
  repeat (go_quiet (first | ((with_reducible refine gate_dst (N := 14) rfl ?_); (try (refine gate_guard (by rfl) ?_; dsimp only)); refine Kd.R_lit Kd.string _ 9 ?hg (N := 14) ?hd (xs := ([(⟨#[40]⟩ : ByteArray), (⟨#[41]⟩ : ByteArray), (⟨#[44]⟩ : ByteArray), (⟨#[46]⟩ : ByteArray), (⟨#[59]⟩ : ByteArray), (⟨#[42]⟩ : ByteArray), (⟨#[61]⟩ : ByteArray), (⟨#[43]⟩ : ByteArray), (⟨#[47]⟩ : ByteArray), (⟨#[37]⟩ : ByteArray), (⟨#[38]⟩ : ByteArray), (⟨#[94]⟩ : ByteArray), (⟨#[60, 62]⟩ : ByteArray), (⟨#[60, 61]⟩ : ByteArray), (⟨#[62, 61]⟩ : ByteArray), (⟨#[60, 60]⟩ : ByteArray), (⟨#[62, 62]⟩ : ByteArray), (⟨#[124, 124]⟩ : ByteArray), (⟨#[60]⟩ : ByteArray), (⟨#[62]⟩ : ByteArray), (⟨#[124]⟩ : ByteArray), (⟨#[45]⟩ : ByteArray)] : List ByteArray)) (inner := [.string (⟨#[40]⟩ : ByteArray), .string (⟨#[41]⟩ : ByteArray), .string (⟨#[44]⟩ : ByteArray), .string (⟨#[46]⟩ : ByteArray), .string (⟨#[59]⟩ : ByteArray), .string (⟨#[42]⟩ : ByteArray), .string (⟨#[61]⟩ : ByteArray), .string (⟨#[43]⟩ : ByteArray), .string (⟨#[47]⟩ : ByteArray), .string (⟨#[37]⟩ : ByteArray), .string (⟨#[38]⟩ : ByteArray), .string (⟨#[94]⟩ : ByteArray), .string (⟨#[60, 62]⟩ : ByteArray), .string (⟨#[60, 61]⟩ : ByteArray), .string (⟨#[62, 61]⟩ : ByteArray), .string (⟨#[60, 60]⟩ : ByteArray), .string (⟨#[62, 62]⟩ : ByteArray), .string (⟨#[124, 124]⟩ : ByteArray), .string (⟨#[60]⟩ : ByteArray), .string (⟨#[62]⟩ : ByteArray), .string (⟨#[124]⟩ : ByteArray), .string (⟨#[45]⟩ : ByteArray)]) (ok := fun _ => True) (okp := fun _ => True) ?hr ?hp (fun _ hk => hk) trivial (Below.refl _ _) (Nat.le_refl _) (by simp) ?_; (case hd => rfl); (case hg => rfl); (case hr => first | (go_simp; done) | (go_simp; rfl)); (case hp => exact (Reps.one (show Kd.M Kd.string _ _ _ (⟨#[40]⟩ : ByteArray) [.string (⟨#[40]⟩ : ByteArray)] from rfl) (Reps.one (show Kd.M Kd.string _ _ _ (⟨#[41]⟩ : ByteArray) [.string (⟨#[41]⟩ : ByteArray)] from rfl) (Reps.one (show Kd.M Kd.string _ _ _ (⟨#[44]⟩ : ByteArray) [.string (⟨#[44]⟩ : ByteArray)] from rfl) (Reps.one (show Kd.M Kd.string _ _ _ (⟨#[46]⟩ : ByteArray) [.string (⟨#[46]⟩ : ByteArray)] from rfl) (Reps.one (show Kd.M Kd.string _ _ _ (⟨#[59]⟩ : ByteArray) [.string (⟨#[59]⟩ : ByteArray)] from rfl) (Reps.one (show Kd.M Kd.string _ _ _ (⟨#[42]⟩ : ByteArray) [.string (⟨#[42]⟩ : ByteArray)] from rfl) (Reps.one (show Kd.M Kd.string _ _ _ (⟨#[61]⟩ : ByteArray) [.string (⟨#[61]⟩ : ByteArray)] from rfl) (Reps.one (show Kd.M Kd.string _ _ _ (⟨#[43]⟩ : ByteArray) [.string (⟨#[43]⟩ : ByteArray)] from rfl) (Reps.one (show Kd.M Kd.string _ _ _ (⟨#[47]⟩ : ByteArray) [.string (⟨#[47]⟩ : ByteArray)] from rfl) (Reps.one (show Kd.M Kd.string _ _ _ (⟨#[37]⟩ : ByteArray) [.string (⟨#[37]⟩ : ByteArray)] from rfl) (Reps.one (show Kd.M Kd.string _ _ _ (⟨#[38]⟩ : ByteArray) [.string (⟨#[38]⟩ : ByteArray)] from rfl) (Reps.one (show Kd.M Kd.string _ _ _ (⟨#[94]⟩ : ByteArray) [.string (⟨#[94]⟩ : ByteArray)] from rfl) (Reps.one (show Kd.M Kd.string _ _ _ (⟨#[60, 62]⟩ : ByteArray) [.string (⟨#[60, 62]⟩ : ByteArray)] from rfl) (Reps.one (show Kd.M Kd.string _ _ _ (⟨#[60, 61]⟩ : ByteArray) [.string (⟨#[60, 61]⟩ : ByteArray)] from rfl) (Reps.one (show Kd.M Kd.string _ _ _ (⟨#[62, 61]⟩ : ByteArray) [.string (⟨#[62, 61]⟩ : ByteArray)] from rfl) (Reps.one (show Kd.M Kd.string _ _ _ (⟨#[60, 60]⟩ : ByteArray) [.string (⟨#[60, 60]⟩ : ByteArray)] from rfl) (Reps.one (show Kd.M Kd.string _ _ _ (⟨#[62, 62]⟩ : ByteArray) [.string (⟨#[62, 62]⟩ : ByteArray)] from rfl) (Reps.one (show Kd.M Kd.string _ _ _ (⟨#[124, 124]⟩ : ByteArray) [.string (⟨#[124, 124]⟩ : ByteArray)] from rfl) (Reps.one (show Kd.M Kd.string _ _ _ (⟨#[60]⟩ : ByteArray) [.string (⟨#[60]⟩ : ByteArray)] from rfl) (Reps.one (show Kd.M Kd.string _ _ _ (⟨#[62]⟩ : ByteArray) [.string (⟨#[62]⟩ : ByteArray)] from rfl) (Reps.one (show Kd.M Kd.string _ _ _ (⟨#[124]⟩ : ByteArray) [.string (⟨#[124]⟩ : ByteArray)] from rfl) (Reps.one (show Kd.M Kd.string _ _ _ (⟨#[45]⟩ : ByteArray) [.string (⟨#[45]⟩ : ByteArray)] from rfl) (Reps.none _ _)))))))))))))))))))))))); intro v320 w3 ho4 hb hg_ hnew_; clear hg_ hnew_; (first | rw [← Ny319.out] at ho4 | (simp only [Int.reduceToNat] at ho4; rw [← Ny319.out] at ho4)); have n0_ := Aside0.mk (Kd.R_lower ho4 (below_size (by repeat (first | (with_reducible first | exact HB.out | apply below_alloc | apply pw_below_drewN | apply below_drew1) | exact HB.out)))); have n1_ := Aside0.mk (below_step (by repeat (first | (with_reducible first | exact HB.out | apply below_alloc | apply pw_below_drewN | apply below_drew1) | exact HB.out)) hb); clear HB; have HO321 := n0_; have HB := n1_; clear n0_ n1_; clear hb ho4)); try go_wp2_with (first | ((with_reducible refine gate_dst (N := 14) rfl ?_); (try (refine gate_guard (by rfl) ?_; dsimp only)); refine Kd.R_lit Kd.string _ 9 ?hg (N := 14) ?hd (xs := ([(⟨#[40]⟩ : ByteArray), (⟨#[41]⟩ : ByteArray), (⟨#[44]⟩ : ByteArray), (⟨#[46]⟩ : ByteArray), (⟨#[59]⟩ : ByteArray), (⟨#[42]⟩ : ByteArray), (⟨#[61]⟩ : ByteArray), (⟨#[43]⟩ : ByteArray), (⟨#[47]⟩ : ByteArray), (⟨#[37]⟩ : ByteArray), (⟨#[38]⟩ : ByteArray), (⟨#[94]⟩ : ByteArray), (⟨#[60, 62]⟩ : ByteArray), (⟨#[60, 61]⟩ : ByteArray), (⟨#[62, 61]⟩ : ByteArray), (⟨#[60, 60]⟩ : ByteArray), (⟨#[62, 62]⟩ : ByteArray), (⟨#[124, 124]⟩ : ByteArray), (⟨#[60]⟩ : ByteArray), (⟨#[62]⟩ : ByteArray), (⟨#[124]⟩ : ByteArray), (⟨#[45]⟩ : ByteArray)] : List ByteArray)) (inner := [.string (⟨#[40]⟩ : ByteArray), .string (⟨#[41]⟩ : ByteArray), .string (⟨#[44]⟩ : ByteArray), .string (⟨#[46]⟩ : ByteArray), .string (⟨#[59]⟩ : ByteArray), .string (⟨#[42]⟩ : ByteArray), .string (⟨#[61]⟩ : ByteArray), .string (⟨#[43]⟩ : ByteArray), .string (⟨#[47]⟩ : ByteArray), .string (⟨#[37]⟩ : ByteArray), .string (⟨#[38]⟩ : ByteArray), .string (⟨#[94]⟩ : ByteArray), .string (⟨#[60, 62]⟩ : ByteArray), .string (⟨#[60, 61]⟩ : ByteArray), .string (⟨#[62, 61]⟩ : ByteArray), .string (⟨#[60, 60]⟩ : ByteArray), .string (⟨#[62, 62]⟩ : ByteArray), .string (⟨#[124, 124]⟩ : ByteArray), .string (⟨#[60]⟩ : ByteArray), .string (⟨#[62]⟩ : ByteArray), .string (⟨#[124]⟩ : ByteArray), .string (⟨#[45]⟩ : ByteArray)]) (ok := fun _ => True) (okp := fun _ => True) ?hr ?hp (fun _ hk => hk) trivial (Below.refl _ _) (Nat.le_refl _) (by simp) ?_; (case hd => rfl); (case hg => rfl); (case hr => first | (go_simp; done) | (go_simp; rfl)); (case hp => exact (Reps.one (show Kd.M Kd.string _ _ _ (⟨#[40]⟩ : ByteArray) [.string (⟨#[40]⟩ : ByteArray)] from rfl) (Reps.one (show Kd.M Kd.string _ _ _ (⟨#[41]⟩ : ByteArray) [.string (⟨#[41]⟩ : ByteArray)] from rfl) (Reps.one (show Kd.M Kd.string _ _ _ (⟨#[44]⟩ : ByteArray) [.string (⟨#[44]⟩ : ByteArray)] from rfl) (Reps.one (show Kd.M Kd.string _ _ _ (⟨#[46]⟩ : ByteArray) [.string (⟨#[46]⟩ : ByteArray)] from rfl) (Reps.one (show Kd.M Kd.string _ _ _ (⟨#[59]⟩ : ByteArray) [.string (⟨#[59]⟩ : ByteArray)] from rfl) (Reps.one (show Kd.M Kd.string _ _ _ (⟨#[42]⟩ : ByteArray) [.string (⟨#[42]⟩ : ByteArray)] from rfl) (Reps.one (show Kd.M Kd.string _ _ _ (⟨#[61]⟩ : ByteArray) [.string (⟨#[61]⟩ : ByteArray)] from rfl) (Reps.one (show Kd.M Kd.string _ _ _ (⟨#[43]⟩ : ByteArray) [.string (⟨#[43]⟩ : ByteArray)] from rfl) (Reps.one (show Kd.M Kd.string _ _ _ (⟨#[47]⟩ : ByteArray) [.string (⟨#[47]⟩ : ByteArray)] from rfl) (Reps.one (show Kd.M Kd.string _ _ _ (⟨#[37]⟩ : ByteArray) [.string (⟨#[37]⟩ : ByteArray)] from rfl) (Reps.one (show Kd.M Kd.string _ _ _ (⟨#[38]⟩ : ByteArray) [.string (⟨#[38]⟩ : ByteArray)] from rfl) (Reps.one (show Kd.M Kd.string _ _ _ (⟨#[94]⟩ : ByteArray) [.string (⟨#[94]⟩ : ByteArray)] from rfl) (Reps.one (show Kd.M Kd.string _ _ _ (⟨#[60, 62]⟩ : ByteArray) [.string (⟨#[60, 62]⟩ : ByteArray)] from rfl) (Reps.one (show Kd.M Kd.string _ _ _ (⟨#[60, 61]⟩ : ByteArray) [.string (⟨#[60, 61]⟩ : ByteArray)] from rfl) (Reps.one (show Kd.M Kd.string _ _ _ (⟨#[62, 61]⟩ : ByteArray) [.string (⟨#[62, 61]⟩ : ByteArray)] from rfl) (Reps.one (show Kd.M Kd.string _ _ _ (⟨#[60, 60]⟩ : ByteArray) [.string (⟨#[60, 60]⟩ : ByteArray)] from rfl) (Reps.one (show Kd.M Kd.string _ _ _ (⟨#[62, 62]⟩ : ByteArray) [.string (⟨#[62, 62]⟩ : ByteArray)] from rfl) (Reps.one (show Kd.M Kd.string _ _ _ (⟨#[124, 124]⟩ : ByteArray) [.string (⟨#[124, 124]⟩ : ByteArray)] from rfl) (Reps.one (show Kd.M Kd.string _ _ _ (⟨#[60]⟩ : ByteArray) [.string (⟨#[60]⟩ : ByteArray)] from rfl) (Reps.one (show Kd.M Kd.string _ _ _ (⟨#[62]⟩ : ByteArray) [.string (⟨#[62]⟩ : ByteArray)] from rfl) (Reps.one (show Kd.M Kd.string _ _ _ (⟨#[124]⟩ : ByteArray) [.string (⟨#[124]⟩ : ByteArray)] from rfl) (Reps.one (show Kd.M Kd.string _ _ _ (⟨#[45]⟩ : ByteArray) [.string (⟨#[45]⟩ : ByteArray)] from rfl) (Reps.none _ _)))))))))))))))))))))))); intro v320 w3 ho4 hb hg_ hnew_; clear hg_ hnew_; (first | rw [← Ny319.out] at ho4 | (simp only [Int.reduceToNat] at ho4; rw [← Ny319.out] at ho4)); have n0_ := Aside0.mk (Kd.R_lower ho4 (below_size (by repeat (first | (with_reducible first | exact HB.out | apply below_alloc | apply pw_below_drewN | apply below_drew1) | exact HB.out)))); have n1_ := Aside0.mk (below_step (by repeat (first | (with_reducible first | exact HB.out | apply below_alloc | apply pw_below_drewN | apply below_drew1) | exact HB.out)) hb); clear HB; have HO321 := n0_; have HB := n1_; clear n0_ n1_; clear hb ho4)))
  go_loopg [6, 7, 8] k (fun kq v6 v7 v8 w' => ∃ (x6_1 : ByteArray) (x7_1 : List ByteArray) (x8_1 : Int), v6 = .string x6_1 ∧ v8 = .int .i64 x8_1 ∧ Aside0 (umlautlaw17_LexOps.l0 kq l0 a1 y319 x6_1 x7_1 x8_1 = some r) ∧ Aside0 (kq ≤ k) ∧ Aside0 (Kd.R Kd.string 9 w' w.heap.size (fun k_ => some k_ ≠ (v7 : Value).ownBlock) v320 y319) ∧ Aside0 (Kd.R Kd.string 9 w' w.heap.size (fun k_ => some k_ ≠ (v320 : Value).ownBlock) v7 x7_1) ∧ Aside0 (Below w.heap.size w w'))
  case atStart => exact ⟨((⟨#[]⟩ : ByteArray)), (([] : List ByteArray)), (0), (by first | rfl | (simp; done) | (simp [*]; done)), (by first | rfl | (simp; done) | (simp [*]; done)), H', ⟨Nat.le_refl _⟩, ⟨by (with_reducible repeat (first | apply Kd.R_alloc | apply Kd.R_drewN | apply Kd.R_drew)); exact Kd.R_mono HO321.out (fun _ hk => (by simp [Value.ownBlock]))⟩, ⟨by first | exact Kd.R_nil _ _ _ _ _ | exact Kd.N_nil _ _ _ _ _ | exact Kd.V_nil _ _ _ _ _ | exact Kd.Q_nil _ _ _ _ _ | exact Kd.S_nil _ _ _ _ _⟩, ⟨by repeat (first | (with_reducible first | exact HB.out | apply below_alloc | apply pw_below_drewN | apply below_drew1) | exact HB.out)⟩⟩
  case round =>
    clear H'
    try clear p2
    try clear c4
    obtain ⟨x6_1, x7_1, x8_1, rfl, rfl, HA, HK1, HO_5, HO_7, HB⟩ := hrel
    cases gk with
    | zero => exact absurd HA.out (by simp [umlautlaw17_LexOps.l0])
    | succ k1 =>
      have H := HA.out
      clear HA
      simp only [umlautlaw17_LexOps.l0] at H
      have HC5 := Aside0.mk H
      clear H
      go_upto_region 5 with (fail)
      repeat (go_quiet (fail); go_upto_region 5 with (fail))
      go_cut [22] (fun v22 wc => ∃ (kq : Nat) (x22_4 : Bool), v22 = .bool x22_4 ∧ Aside0 (umlautlaw17_LexOps.j1 kq l0 a1 y319 x6_1 x7_1 x8_1 x22_4 = some r) ∧ Aside0 (kq ≤ k1) ∧ Aside0 (Kd.R Kd.string 9 wc w.heap.size (fun k_ => some k_ ≠ (u7 : Value).ownBlock) v320 y319) ∧ Aside0 (Kd.R Kd.string 9 wc w.heap.size (fun k_ => some k_ ≠ (v320 : Value).ownBlock) u7 x7_1) ∧ Aside0 (Below w.heap.size w wc))
      case first =>
        have H := HC5.out
        clear HC5
        by_cases c6 : x8_1 < (l0.length : Int)
        · rw [if_pos c6] at H
          have c6b0 : decide (x8_1 < (l0.length : Int)) = true := decide_eq_true c6
          clear c6
          (first | rw [c6b0] | (simp only [i64_w, i32_w]; rw [c6b0]) | skip)
          have H' := Aside0.mk H
          clear H
          go_wp2
          repeat (go_quiet (fail); try go_wp2)
          go_meet
          case rel => exact ⟨_, (decide (x8_1 < 20)), (by first | rfl | (simp; done) | (simp [*]; done)), H', ⟨by have := HK1.out; first | omega | exact Nat.le_refl _⟩, ⟨by (with_reducible repeat (first | apply Kd.R_alloc | apply Kd.R_drewN | apply Kd.R_drew)); exact HO_5.out⟩, ⟨by (with_reducible repeat (first | apply Kd.R_alloc | apply Kd.R_drewN | apply Kd.R_drew)); exact HO_7.out⟩, ⟨by repeat (first | (with_reducible first | exact HB.out | apply below_alloc | apply pw_below_drewN | apply below_drew1) | exact HB.out)⟩⟩
        · rw [if_neg c6] at H
          have c6b0 : decide (x8_1 < (l0.length : Int)) = false := decide_eq_false c6
          clear c6
          (first | rw [c6b0] | (simp only [i64_w, i32_w]; rw [c6b0]) | skip)
          have H' := Aside0.mk H
          clear H
          go_wp2
          repeat (go_quiet (fail); try go_wp2)
          go_meet
          case rel => exact ⟨_, (false), (by first | rfl | (simp; done) | (simp [*]; done)), H', ⟨by have := HK1.out; first | omega | exact Nat.le_refl _⟩, ⟨by (with_reducible repeat (first | apply Kd.R_alloc | apply Kd.R_drewN | apply Kd.R_drew)); exact HO_5.out⟩, ⟨by (with_reducible repeat (first | apply Kd.R_alloc | apply Kd.R_drewN | apply Kd.R_drew)); exact HO_7.out⟩, ⟨by repeat (first | (with_reducible first | exact HB.out | apply below_alloc | apply pw_below_drewN | apply below_drew1) | exact HB.out)⟩⟩
      case rest =>
        clear HC5
        try clear p2
        try clear c4
        try clear c6
        try clear c6b0
        try clear p2
        obtain ⟨kq, x22_4, rfl, HA, HJ4, HO_5, HO_7, HB⟩ := hcut
        cases kq with
        | zero => exact absurd HA.out (by simp [umlautlaw17_LexOps.j1])
        | succ kj4 =>
          have H := HA.out
          clear HA
          simp only [umlautlaw17_LexOps.j1] at H
          by_cases c7 : x22_4 = true
          · subst c7
            have H1 : (if 0 ≤ x8_1 then (if x8_1 < (l0.length : Int) then (if (y319.length : Int) = 0 then (none) else (if a1 = true then (umlautlaw17_LexOps.j2 kj4 l0 a1 y319 x6_1 x7_1 x8_1 (Int.tmod (Go.bits .and .i64 (rd l0 x8_1) 65535) (y319.length : Int)) (decide ((Int.tmod (Go.bits .and .i64 (rd l0 x8_1) 65535) (y319.length : Int)) ≥ 18))) else (umlautlaw17_LexOps.j2 kj4 l0 a1 y319 x6_1 x7_1 x8_1 (Int.tmod (Go.bits .and .i64 (rd l0 x8_1) 65535) (y319.length : Int)) false))) else (none)) else (none)) = some r := by rw [if_pos rfl] at H; exact H
            clear H
            have H := H1
            clear H1
            by_cases c8 : 0 ≤ x8_1
            · rw [if_pos c8] at H
              have c8b0 : decide (0 ≤ x8_1) = true := decide_eq_true c8
              clear c8
              by_cases c9 : x8_1 < (l0.length : Int)
              · rw [if_pos c9] at H
                have c9b0 : decide (x8_1 < (l0.length : Int)) = true := decide_eq_true c9
                clear c9
                by_cases c10 : (y319.length : Int) = 0
                · rw [if_pos c10] at H
                  exact absurd H (by simp)
                · rw [if_neg c10] at H
                  have c10b0 : ((y319.length : Int) == 0) = false := beq_eq_false_iff_ne.mpr c10
                  have c10b1 : ((y319.length : Int) != 0) = true := bne_iff_ne.mpr c10
                  have c10b2 : ¬ (y319 = []) := fun h_ => c10 (by rw [h_]; rfl)
                  have HC11 := Aside0.mk H
                  clear H
                  have p322 : 0 ≤ (x8_1 : Int) := of_decide_eq_true (by first | (with_reducible assumption) | assumption)
                  have q322 : x8_1 < (l0.length : Int) := of_decide_eq_true (by first | (with_reducible assumption) | assumption)
                  obtain ⟨ad322, e322, hx322_0⟩ := Kd.at_int HR0.out x8_1 p322 q322
                  cases e322
                  replace hx322_0 := (HB.out.cell (World.block_lt_of_cell? w _ hx322_0)).trans hx322_0
                  replace p322 := eq_true p322
                  replace q322 := eq_true q322
                  obtain ⟨Ao12, co12, eo12⟩ := Kd.R_slice HO_5.out
                  subst eo12
                  go_upto_region 8 with (fail)
                  repeat (go_quiet (fail); go_upto_region 8 with (fail))
                  go_cut [37] (fun v37 wc => ∃ (kq : Nat) (x37_10 : Bool), v37 = .bool x37_10 ∧ Aside0 (umlautlaw17_LexOps.j2 kq l0 a1 y319 x6_1 x7_1 x8_1 (Int.tmod (Go.bits .and .i64 (rd l0 x8_1) 65535) (y319.length : Int)) x37_10 = some r) ∧ Aside0 (kq ≤ kj4) ∧ Aside0 (Kd.R Kd.string 9 wc w.heap.size (fun k_ => some k_ ≠ (u7 : Value).ownBlock) (.slice Ao12 y319.length co12) y319) ∧ Aside0 (Kd.R Kd.string 9 wc w.heap.size (fun k_ => some k_ ≠ ((.slice Ao12 y319.length co12) : Value).ownBlock) u7 x7_1) ∧ Aside0 (Below w.heap.size w wc))
                  case first =>
                    have H := HC11.out
                    clear HC11
                    by_cases c13 : a1 = true
                    · subst c13
                      have H1 : (umlautlaw17_LexOps.j2 kj4 l0 true y319 x6_1 x7_1 x8_1 (Int.tmod (Go.bits .and .i64 (rd l0 x8_1) 65535) (y319.length : Int)) (decide ((Int.tmod (Go.bits .and .i64 (rd l0 x8_1) 65535) (y319.length : Int)) ≥ 18))) = some r := by rw [if_pos rfl] at H; exact H
                      clear H
                      have H := H1
                      clear H1
                      have H' := Aside0.mk H
                      clear H
                      go_wp2
                      repeat (go_quiet (fail); try go_wp2)
                      go_meet
                      case rel => exact ⟨_, (decide ((Int.tmod (Go.bits .and .i64 (rd l0 x8_1) 65535) (y319.length : Int)) ≥ 18)), (by first | rfl | (simp; done) | (simp [*]; done)), H', ⟨by have := HK1.out; have := HJ4.out; first | omega | exact Nat.le_refl _⟩, ⟨by (with_reducible repeat (first | apply Kd.R_alloc | apply Kd.R_drewN | apply Kd.R_drew)); exact HO_5.out⟩, ⟨by (with_reducible repeat (first | apply Kd.R_alloc | apply Kd.R_drewN | apply Kd.R_drew)); exact HO_7.out⟩, ⟨by repeat (first | (with_reducible first | exact HB.out | apply below_alloc | apply pw_below_drewN | apply below_drew1) | exact HB.out)⟩⟩
                    · replace c13 := Bool.eq_false_iff.mpr c13
                      subst c13
                      have H1 : (umlautlaw17_LexOps.j2 kj4 l0 false y319 x6_1 x7_1 x8_1 (Int.tmod (Go.bits .and .i64 (rd l0 x8_1) 65535) (y319.length : Int)) false) = some r := by rw [if_neg (show ¬ (false = true) by decide)] at H; exact H
                      clear H
                      have H := H1
                      clear H1
                      have H' := Aside0.mk H
                      clear H
                      go_wp2
                      repeat (go_quiet (fail); try go_wp2)
                      go_meet
                      case rel => exact ⟨_, (false), (by first | rfl | (simp; done) | (simp [*]; done)), H', ⟨by have := HK1.out; have := HJ4.out; first | omega | exact Nat.le_refl _⟩, ⟨by (with_reducible repeat (first | apply Kd.R_alloc | apply Kd.R_drewN | apply Kd.R_drew)); exact HO_5.out⟩, ⟨by (with_reducible repeat (first | apply Kd.R_alloc | apply Kd.R_drewN | apply Kd.R_drew)); exact HO_7.out⟩, ⟨by repeat (first | (with_reducible first | exact HB.out | apply below_alloc | apply pw_below_drewN | apply below_drew1) | exact HB.out)⟩⟩
                  case rest =>
                    clear HC11
                    try clear c1
                    try clear p2
                    try clear p3
                    try clear q3
                    try clear hx3
                    try clear c4
                    try clear c6
                    try clear c6b0
                    try clear c7
                    try clear c8
                    try clear c8b0
                    try clear c9
                    try clear c9b0
                    try clear c10
                    try clear c10b0
                    try clear c10b1
                    try clear c10b2
                    try clear c13
                    try clear hx322_0
                    try clear p2
                    try clear p322
                    try clear q322
                    obtain ⟨kq, x37_10, rfl, HA, HJ10, HO_5, HO_7, HB⟩ := hcut
                    cases kq with
                    | zero => exact absurd HA.out (by simp [umlautlaw17_LexOps.j2])
                    | succ kj10 =>
                      have H := HA.out
                      clear HA
                      simp only [umlautlaw17_LexOps.j2] at H
                      have HC14 := Aside0.mk H
                      clear H
                      go_upto_if 37 with (fail)
                      repeat (go_quiet (fail); go_upto_if 37 with (fail))
                      go_cut [9] (fun v9 wc => ∃ (kq : Nat) (x9_13 : Int), v9 = .int .i64 x9_13 ∧ Aside0 (umlautlaw17_LexOps.j3 kq l0 a1 y319 x6_1 x7_1 x8_1 x9_13 = some r) ∧ Aside0 (kq ≤ kj10) ∧ Aside0 (Kd.R Kd.string 9 wc w.heap.size (fun k_ => some k_ ≠ (u7 : Value).ownBlock) (.slice Ao12 y319.length co12) y319) ∧ Aside0 (Kd.R Kd.string 9 wc w.heap.size (fun k_ => some k_ ≠ ((.slice Ao12 y319.length co12) : Value).ownBlock) u7 x7_1) ∧ Aside0 (Below w.heap.size w wc))
                      case first =>
                        have H := HC14.out
                        clear HC14
                        by_cases c15 : x37_10 = true
                        · subst c15
                          have H1 : (umlautlaw17_LexOps.j3 kj10 l0 a1 y319 x6_1 x7_1 x8_1 0) = some r := by rw [if_pos rfl] at H; exact H
                          clear H
                          have H := H1
                          clear H1
                          have H' := Aside0.mk H
                          clear H
                          go_wp2
                          repeat (go_quiet (fail); try go_wp2)
                          go_meet
                          case rel => exact ⟨_, (0), (by first | rfl | (simp; done) | (simp [*]; done)), H', ⟨by have := HK1.out; have := HJ4.out; have := HJ10.out; first | omega | exact Nat.le_refl _⟩, ⟨by (with_reducible repeat (first | apply Kd.R_alloc | apply Kd.R_drewN | apply Kd.R_drew)); exact HO_5.out⟩, ⟨by (with_reducible repeat (first | apply Kd.R_alloc | apply Kd.R_drewN | apply Kd.R_drew)); exact HO_7.out⟩, ⟨by repeat (first | (with_reducible first | exact HB.out | apply below_alloc | apply pw_below_drewN | apply below_drew1) | exact HB.out)⟩⟩
                        · replace c15 := Bool.eq_false_iff.mpr c15
                          subst c15
                          have H1 : (umlautlaw17_LexOps.j3 kj10 l0 a1 y319 x6_1 x7_1 x8_1 (Int.tmod (Go.bits .and .i64 (rd l0 x8_1) 65535) (y319.length : Int))) = some r := by rw [if_neg (show ¬ (false = true) by decide)] at H; exact H
                          clear H
                          have H := H1
                          clear H1
                          have H' := Aside0.mk H
                          clear H
                          go_wp2
                          repeat (go_quiet (fail); try go_wp2)
                          go_meet
                          case rel => exact ⟨_, ((Int.tmod (Go.bits .and .i64 (rd l0 x8_1) 65535) (y319.length : Int))), (by first | rfl | (simp; done) | (simp [*]; done)), H', ⟨by have := HK1.out; have := HJ4.out; have := HJ10.out; first | omega | exact Nat.le_refl _⟩, ⟨by (with_reducible repeat (first | apply Kd.R_alloc | apply Kd.R_drewN | apply Kd.R_drew)); exact HO_5.out⟩, ⟨by (with_reducible repeat (first | apply Kd.R_alloc | apply Kd.R_drewN | apply Kd.R_drew)); exact HO_7.out⟩, ⟨by repeat (first | (with_reducible first | exact HB.out | apply below_alloc | apply pw_below_drewN | apply below_drew1) | exact HB.out)⟩⟩
                      case rest =>
                        clear HC14
                        try clear c1
                        try clear p2
                        try clear p3
                        try clear q3
                        try clear hx3
                        try clear c4
                        try clear c6
                        try clear c6b0
                        try clear c7
                        try clear c8
                        try clear c8b0
                        try clear c9
                        try clear c9b0
                        try clear c10
                        try clear c10b0
                        try clear c10b1
                        try clear c10b2
                        try clear c13
                        try clear c15
                        try clear hx322_0
                        try clear p2
                        try clear p3
                        try clear p322
                        try clear q3
                        try clear q322
                        obtain ⟨kq, x9_13, rfl, HA, HJ13, HO_5, HO_7, HB⟩ := hcut
                        cases kq with
                        | zero => exact absurd HA.out (by simp [umlautlaw17_LexOps.j3])
                        | succ kj13 =>
                          have H := HA.out
                          clear HA
                          simp only [umlautlaw17_LexOps.j3] at H
                          have HC16 := Aside0.mk H
                          clear H
                          go_upto_region 10 with (fail)
                          repeat (go_quiet (fail); go_upto_region 10 with (fail))
                          go_cut [43] (fun v43 wc => ∃ (kq : Nat) (x43_15 : Bool), v43 = .bool x43_15 ∧ Aside0 (umlautlaw17_LexOps.j4 kq l0 a1 y319 x6_1 x7_1 x8_1 x9_13 x43_15 = some r) ∧ Aside0 (kq ≤ kj13) ∧ Aside0 (Kd.R Kd.string 9 wc w.heap.size (fun k_ => some k_ ≠ (u7 : Value).ownBlock) (.slice Ao12 y319.length co12) y319) ∧ Aside0 (Kd.R Kd.string 9 wc w.heap.size (fun k_ => some k_ ≠ ((.slice Ao12 y319.length co12) : Value).ownBlock) u7 x7_1) ∧ Aside0 (Below w.heap.size w wc))
                          case first =>
                            have H := HC16.out
                            clear HC16
                            by_cases c17 : a1 = true
                            · subst c17
                              have H1 : (umlautlaw17_LexOps.j4 kj13 l0 true y319 x6_1 x7_1 x8_1 x9_13 false) = some r := by rw [if_pos rfl] at H; exact H
                              clear H
                              have H := H1
                              clear H1
                              have H' := Aside0.mk H
                              clear H
                              go_wp2
                              repeat (go_quiet (fail); try go_wp2)
                              go_meet
                              case rel => exact ⟨_, (false), (by first | rfl | (simp; done) | (simp [*]; done)), H', ⟨by have := HK1.out; have := HJ4.out; have := HJ10.out; have := HJ13.out; first | omega | exact Nat.le_refl _⟩, ⟨by (with_reducible repeat (first | apply Kd.R_alloc | apply Kd.R_drewN | apply Kd.R_drew)); exact HO_5.out⟩, ⟨by (with_reducible repeat (first | apply Kd.R_alloc | apply Kd.R_drewN | apply Kd.R_drew)); exact HO_7.out⟩, ⟨by repeat (first | (with_reducible first | exact HB.out | apply below_alloc | apply pw_below_drewN | apply below_drew1) | exact HB.out)⟩⟩
                            · replace c17 := Bool.eq_false_iff.mpr c17
                              subst c17
                              have H1 : (umlautlaw17_LexOps.j4 kj13 l0 false y319 x6_1 x7_1 x8_1 x9_13 (decide (x8_1 > 0))) = some r := by rw [if_neg (show ¬ (false = true) by decide)] at H; exact H
                              clear H
                              have H := H1
                              clear H1
                              have H' := Aside0.mk H
                              clear H
                              go_wp2
                              repeat (go_quiet (fail); try go_wp2)
                              go_meet
                              case rel => exact ⟨_, (decide (x8_1 > 0)), (by first | rfl | (simp; done) | (simp [*]; done)), H', ⟨by have := HK1.out; have := HJ4.out; have := HJ10.out; have := HJ13.out; first | omega | exact Nat.le_refl _⟩, ⟨by (with_reducible repeat (first | apply Kd.R_alloc | apply Kd.R_drewN | apply Kd.R_drew)); exact HO_5.out⟩, ⟨by (with_reducible repeat (first | apply Kd.R_alloc | apply Kd.R_drewN | apply Kd.R_drew)); exact HO_7.out⟩, ⟨by repeat (first | (with_reducible first | exact HB.out | apply below_alloc | apply pw_below_drewN | apply below_drew1) | exact HB.out)⟩⟩
                          case rest =>
                            clear HC16
                            try clear c1
                            try clear p2
                            try clear p3
                            try clear q3
                            try clear hx3
                            try clear c4
                            try clear c6
                            try clear c6b0
                            try clear c7
                            try clear c8
                            try clear c8b0
                            try clear c9
                            try clear c9b0
                            try clear c10
                            try clear c10b0
                            try clear c10b1
                            try clear c10b2
                            try clear c13
                            try clear c15
                            try clear c17
                            try clear hx322_0
                            try clear p2
                            try clear p3
                            try clear p322
                            try clear q3
                            try clear q322
                            obtain ⟨kq, x43_15, rfl, HA, HJ15, HO_5, HO_7, HB⟩ := hcut
                            cases kq with
                            | zero => exact absurd HA.out (by simp [umlautlaw17_LexOps.j4])
                            | succ kj15 =>
                              have H := HA.out
                              clear HA
                              simp only [umlautlaw17_LexOps.j4] at H
                              by_cases c18 : x43_15 = true
                              · subst c18
                                have H1 : (if x6_1.size + 1 ≤ 9223372036854775807 then (if a1 = true then (none) else (if 0 ≤ x9_13 then (if x9_13 < (y319.length : Int) then (if (x6_1 ++ (⟨#[32]⟩ : ByteArray)).size + (rdOf ByteArray.empty y319 x9_13).size ≤ 9223372036854775807 then (if x7_1.length < 8796093022208 then (umlautlaw17_LexOps.l0 kj15 l0 a1 y319 ((x6_1 ++ (⟨#[32]⟩ : ByteArray)) ++ (rdOf ByteArray.empty y319 x9_13)) (x7_1 ++ [rdOf ByteArray.empty y319 x9_13]) (wrap64 (x8_1 + 1))) else (none)) else (none)) else (none)) else (none))) else (none)) = some r := by rw [if_pos rfl] at H; exact H
                                clear H
                                have H := H1
                                clear H1
                                by_cases c19 : x6_1.size + 1 ≤ 9223372036854775807
                                · rw [if_pos c19] at H
                                  have c19b0 := eq_true c19
                                  have c19b1 : decide (x6_1.size + 1 ≤ 9223372036854775807) = true := decide_eq_true c19
                                  try have c19b2 : (9223372036854775807 < x6_1.size + 1) = False := eq_false (Nat.not_lt.2 c19)
                                  by_cases c20 : a1 = true
                                  · rw [if_pos c20] at H
                                    exact absurd H (by simp)
                                  · replace c20 := Bool.eq_false_iff.mpr c20
                                    subst c20
                                    have H1 : (if 0 ≤ x9_13 then (if x9_13 < (y319.length : Int) then (if (x6_1 ++ (⟨#[32]⟩ : ByteArray)).size + (rdOf ByteArray.empty y319 x9_13).size ≤ 9223372036854775807 then (if x7_1.length < 8796093022208 then (umlautlaw17_LexOps.l0 kj15 l0 false y319 ((x6_1 ++ (⟨#[32]⟩ : ByteArray)) ++ (rdOf ByteArray.empty y319 x9_13)) (x7_1 ++ [rdOf ByteArray.empty y319 x9_13]) (wrap64 (x8_1 + 1))) else (none)) else (none)) else (none)) else (none)) = some r := by rw [if_neg (show ¬ (false = true) by decide)] at H; exact H
                                    clear H
                                    have H := H1
                                    clear H1
                                    by_cases c89 : 0 ≤ x9_13
                                    · rw [if_pos c89] at H
                                      have c89b0 : decide (0 ≤ x9_13) = true := decide_eq_true c89
                                      clear c89
                                      by_cases c90 : x9_13 < (y319.length : Int)
                                      · rw [if_pos c90] at H
                                        have c90b0 : decide (x9_13 < (y319.length : Int)) = true := decide_eq_true c90
                                        clear c90
                                        by_cases c91 : (x6_1 ++ (⟨#[32]⟩ : ByteArray)).size + (rdOf ByteArray.empty y319 x9_13).size ≤ 9223372036854775807
                                        · rw [if_pos c91] at H
                                          have c91b0 := eq_true c91
                                          have c91b1 : decide ((x6_1 ++ (⟨#[32]⟩ : ByteArray)).size + (rdOf ByteArray.empty y319 x9_13).size ≤ 9223372036854775807) = true := decide_eq_true c91
                                          (try (have c91n := c91; simp only [ByteArray.size_append, show (⟨#[32]⟩ : ByteArray).size = 1 from rfl] at c91n))
                                          try have c91b2 : (9223372036854775807 < (x6_1 ++ (⟨#[32]⟩ : ByteArray)).size + (rdOf ByteArray.empty y319 x9_13).size) = False := eq_false (Nat.not_lt.2 c91)
                                          by_cases c92 : x7_1.length < 8796093022208
                                          · rw [if_pos c92] at H
                                            have LMc92 := Aside0.mk c92
                                            clear c92
                                            obtain ⟨y379, hy379⟩ : ∃ y_ : List ByteArray, y_ = (x7_1 ++ [rdOf ByteArray.empty y319 x9_13]) := ⟨_, rfl⟩
                                            replace H : (umlautlaw17_LexOps.l0 kj15 l0 false y319 ((x6_1 ++ (⟨#[32]⟩ : ByteArray)) ++ (rdOf ByteArray.empty y319 x9_13)) y379 (wrap64 (x8_1 + 1))) = some r := by first | (rw [hy379]; with_reducible exact H) | (have H2_ := (Option.bind_some _ _).symm.trans H; rw [hy379]; with_reducible exact H2_) | (have H2_ := (Option.bind_some _ _).symm.trans H; with_reducible exact H2_) | with_reducible exact H | (rw [hy379]; exact H) | exact H
                                            have Ny379 := Aside0.mk hy379
                                            clear hy379
                                            have H' := Aside0.mk H
                                            clear H
                                            have p377 : 0 ≤ (x9_13 : Int) := of_decide_eq_true (by first | (with_reducible assumption) | assumption)
                                            have q377 : x9_13 < (y319.length : Int) := of_decide_eq_true (by first | (with_reducible assumption) | assumption)
                                            obtain ⟨ad377, e377, hx377_0⟩ := Kd.at_string (Kd.R_reads' HO_5.out).2.2 x9_13 p377 q377
                                            cases e377
                                            replace p377 := eq_true p377
                                            replace q377 := eq_true q377
                                            have p378 : 0 ≤ (x9_13 : Int) := of_decide_eq_true (by first | (with_reducible assumption) | assumption)
                                            have q378 : x9_13 < (y319.length : Int) := of_decide_eq_true (by first | (with_reducible assumption) | assumption)
                                            obtain ⟨ad378, e378, hx378_0⟩ := Kd.at_string (Kd.R_reads' HO_5.out).2.2 x9_13 p378 q378
                                            obtain rfl : ad377 = ad378 := (by injection e378)
                                            replace p378 := eq_true p378
                                            replace q378 := eq_true q378
                                            go_wp2_with (first | ((with_reducible refine gate_builtin (b := .append) (xs := #[.tmp 98, .tmp 103]) rfl ?_); (try (refine gate_guard (by rfl) ?_; dsimp only)); at_builtin; refine Kd.R_append Kd.string (w0 := w) w.heap.size rfl (.tmp 98) (.tmp 103) 31 9 (.string ⟨#[]⟩) 16 rfl Tryd.underlying31 info9 rfl (by decide) (by omega) u7 x7_1 (rdOf ByteArray.empty y319 x9_13) [.string (rdOf ByteArray.empty y319 x9_13)] (fun k_ => some k_ ≠ (.slice (some ad377) y319.length co12 : Value).ownBlock) (fun _ => False) rfl rfl ?aP (fun _ hk => hk.elim) ?aF ?aO ?aB ?aS ?aL ?_; (case aP => exact rfl); (case aB => exact (by repeat (first | (with_reducible first | exact HB.out | apply below_alloc | apply pw_below_drewN | apply below_drew1) | exact HB.out))); (case aF => exact (fun k_ hk => Kd.fresh' (Kd.R_lt (by (with_reducible repeat (first | apply Kd.R_alloc | apply Kd.R_drewN | apply Kd.R_drew)); exact HO_5.out)) k_ hk)); (case aO => exact (by (with_reducible repeat (first | apply Kd.R_alloc | apply Kd.R_drewN | apply Kd.R_drew)); exact HO_7.out)); (case aS => exact (below_size (by repeat (first | (with_reducible first | exact HB.out | apply below_alloc | apply pw_below_drewN | apply below_drew1) | exact HB.out)))); (case aL => have := LMc92.out; omega); intro v380 w93 ho hb hg hat; rw [← Ny379.out] at ho; have n0_ := Aside0.mk (Kd.R_after (ok := (fun _ => True)) (by (with_reducible repeat (first | apply Kd.R_alloc | apply Kd.R_drewN | apply Kd.R_drew)); exact Kd.R_mono HO_5.out (fun _ hk => ⟨trivial, hk⟩)) hg hat); have n1_ := Aside0.mk (hb); have n2_ := Aside0.mk (ho); clear HO_5; clear HB; clear HO_7; have HO_5 := n0_; have HB := n1_; have HO381 := n2_; clear n0_ n1_ n2_; clear ho hb hg hat))
                                            repeat (go_quiet (first | ((with_reducible refine gate_builtin (b := .append) (xs := #[.tmp 98, .tmp 103]) rfl ?_); (try (refine gate_guard (by rfl) ?_; dsimp only)); at_builtin; refine Kd.R_append Kd.string (w0 := w) w.heap.size rfl (.tmp 98) (.tmp 103) 31 9 (.string ⟨#[]⟩) 16 rfl Tryd.underlying31 info9 rfl (by decide) (by omega) u7 x7_1 (rdOf ByteArray.empty y319 x9_13) [.string (rdOf ByteArray.empty y319 x9_13)] (fun k_ => some k_ ≠ (.slice (some ad377) y319.length co12 : Value).ownBlock) (fun _ => False) rfl rfl ?aP (fun _ hk => hk.elim) ?aF ?aO ?aB ?aS ?aL ?_; (case aP => exact rfl); (case aB => exact (by repeat (first | (with_reducible first | exact HB.out | apply below_alloc | apply pw_below_drewN | apply below_drew1) | exact HB.out))); (case aF => exact (fun k_ hk => Kd.fresh' (Kd.R_lt (by (with_reducible repeat (first | apply Kd.R_alloc | apply Kd.R_drewN | apply Kd.R_drew)); exact HO_5.out)) k_ hk)); (case aO => exact (by (with_reducible repeat (first | apply Kd.R_alloc | apply Kd.R_drewN | apply Kd.R_drew)); exact HO_7.out)); (case aS => exact (below_size (by repeat (first | (with_reducible first | exact HB.out | apply below_alloc | apply pw_below_drewN | apply below_drew1) | exact HB.out)))); (case aL => have := LMc92.out; omega); intro v380 w93 ho hb hg hat; rw [← Ny379.out] at ho; have n0_ := Aside0.mk (Kd.R_after (ok := (fun _ => True)) (by (with_reducible repeat (first | apply Kd.R_alloc | apply Kd.R_drewN | apply Kd.R_drew)); exact Kd.R_mono HO_5.out (fun _ hk => ⟨trivial, hk⟩)) hg hat); have n1_ := Aside0.mk (hb); have n2_ := Aside0.mk (ho); clear HO_5; clear HB; clear HO_7; have HO_5 := n0_; have HB := n1_; have HO381 := n2_; clear n0_ n1_ n2_; clear ho hb hg hat)); try go_wp2_with (first | ((with_reducible refine gate_builtin (b := .append) (xs := #[.tmp 98, .tmp 103]) rfl ?_); (try (refine gate_guard (by rfl) ?_; dsimp only)); at_builtin; refine Kd.R_append Kd.string (w0 := w) w.heap.size rfl (.tmp 98) (.tmp 103) 31 9 (.string ⟨#[]⟩) 16 rfl Tryd.underlying31 info9 rfl (by decide) (by omega) u7 x7_1 (rdOf ByteArray.empty y319 x9_13) [.string (rdOf ByteArray.empty y319 x9_13)] (fun k_ => some k_ ≠ (.slice (some ad377) y319.length co12 : Value).ownBlock) (fun _ => False) rfl rfl ?aP (fun _ hk => hk.elim) ?aF ?aO ?aB ?aS ?aL ?_; (case aP => exact rfl); (case aB => exact (by repeat (first | (with_reducible first | exact HB.out | apply below_alloc | apply pw_below_drewN | apply below_drew1) | exact HB.out))); (case aF => exact (fun k_ hk => Kd.fresh' (Kd.R_lt (by (with_reducible repeat (first | apply Kd.R_alloc | apply Kd.R_drewN | apply Kd.R_drew)); exact HO_5.out)) k_ hk)); (case aO => exact (by (with_reducible repeat (first | apply Kd.R_alloc | apply Kd.R_drewN | apply Kd.R_drew)); exact HO_7.out)); (case aS => exact (below_size (by repeat (first | (with_reducible first | exact HB.out | apply below_alloc | apply pw_below_drewN | apply below_drew1) | exact HB.out)))); (case aL => have := LMc92.out; omega); intro v380 w93 ho hb hg hat; rw [← Ny379.out] at ho; have n0_ := Aside0.mk (Kd.R_after (ok := (fun _ => True)) (by (with_reducible repeat (first | apply Kd.R_alloc | apply Kd.R_drewN | apply Kd.R_drew)); exact Kd.R_mono HO_5.out (fun _ hk => ⟨trivial, hk⟩)) hg hat); have n1_ := Aside0.mk (hb); have n2_ := Aside0.mk (ho); clear HO_5; clear HB; clear HO_7; have HO_5 := n0_; have HB := n1_; have HO381 := n2_; clear n0_ n1_ n2_; clear ho hb hg hat)))
                                            go_roundg kj15
                                            case measure => have := HK1.out; have := HJ4.out; have := HJ10.out; have := HJ13.out; have := HJ15.out; omega
                                            case rel => exact ⟨((x6_1 ++ (⟨#[32]⟩ : ByteArray)) ++ (rdOf ByteArray.empty y319 x9_13)), (y379), (wrap64 (x8_1 + 1)), (by first | rfl | (simp; done) | (simp [*]; done)), (by first | rfl | (simp; done) | (simp [*]; done)), H', ⟨by have := HK1.out; have := HJ4.out; have := HJ10.out; have := HJ13.out; have := HJ15.out; omega⟩, ⟨by (with_reducible repeat (first | apply Kd.R_alloc | apply Kd.R_drewN | apply Kd.R_drew)); exact Kd.R_mono HO_5.out (fun _ hk => hk.2)⟩, ⟨by (with_reducible repeat (first | apply Kd.R_alloc | apply Kd.R_drewN | apply Kd.R_drew)); exact HO381.out⟩, ⟨by repeat (first | (with_reducible first | exact HB.out | apply below_alloc | apply pw_below_drewN | apply below_drew1) | exact HB.out)⟩⟩
                                          · rw [if_neg c92] at H
                                            exact absurd H (by simp)
                                        · rw [if_neg c91] at H
                                          exact absurd H (by simp)
                                      · rw [if_neg c90] at H
                                        exact absurd H (by simp)
                                    · rw [if_neg c89] at H
                                      exact absurd H (by simp)
                                · rw [if_neg c19] at H
                                  exact absurd H (by simp)
                              · replace c18 := Bool.eq_false_iff.mpr c18
                                subst c18
                                have H1 : (if a1 = true then (if (x7_1.length : Int) > 0 then (if 0 ≤ (wrap64 ((x7_1.length : Int) - 1)) then (if (wrap64 ((x7_1.length : Int) - 1)) < (x7_1.length : Int) then (if (rdOf ByteArray.empty x7_1 (wrap64 ((x7_1.length : Int) - 1))).toList = ([60, 62] : List UInt8) then (if x9_13 ≥ 6 then (if 1 < (y319.length : Int) then (if x6_1.size + (rdOf ByteArray.empty y319 1).size ≤ 9223372036854775807 then (if x7_1.length < 8796093022208 then (umlautlaw17_LexOps.l0 kj15 l0 a1 y319 (x6_1 ++ (rdOf ByteArray.empty y319 1)) (x7_1 ++ [rdOf ByteArray.empty y319 1]) (wrap64 (x8_1 + 1))) else (none)) else (none)) else (none)) else (if 0 ≤ x9_13 then (if x9_13 < (y319.length : Int) then (if x6_1.size + (rdOf ByteArray.empty y319 x9_13).size ≤ 9223372036854775807 then (if x7_1.length < 8796093022208 then (umlautlaw17_LexOps.l0 kj15 l0 a1 y319 (x6_1 ++ (rdOf ByteArray.empty y319 x9_13)) (x7_1 ++ [rdOf ByteArray.empty y319 x9_13]) (wrap64 (x8_1 + 1))) else (none)) else (none)) else (none)) else (none))) else (if (rdOf ByteArray.empty x7_1 (wrap64 ((x7_1.length : Int) - 1))).toList = ([60, 60] : List UInt8) then (if x9_13 ≥ 6 then (if 1 < (y319.length : Int) then (if x6_1.size + (rdOf ByteArray.empty y319 1).size ≤ 9223372036854775807 then (if x7_1.length < 8796093022208 then (umlautlaw17_LexOps.l0 kj15 l0 a1 y319 (x6_1 ++ (rdOf ByteArray.empty y319 1)) (x7_1 ++ [rdOf ByteArray.empty y319 1]) (wrap64 (x8_1 + 1))) else (none)) else (none)) else (none)) else (if 0 ≤ x9_13 then (if x9_13 < (y319.length : Int) then (if x6_1.size + (rdOf ByteArray.empty y319 x9_13).size ≤ 9223372036854775807 then (if x7_1.length < 8796093022208 then (umlautlaw17_LexOps.l0 kj15 l0 a1 y319 (x6_1 ++ (rdOf ByteArray.empty y319 x9_13)) (x7_1 ++ [rdOf ByteArray.empty y319 x9_13]) (wrap64 (x8_1 + 1))) else (none)) else (none)) else (none)) else (none))) else (if (rdOf ByteArray.empty x7_1 (wrap64 ((x7_1.length : Int) - 1))).toList = ([60, 61] : List UInt8) then (if x9_13 ≥ 6 then (if 1 < (y319.length : Int) then (if x6_1.size + (rdOf ByteArray.empty y319 1).size ≤ 9223372036854775807 then (if x7_1.length < 8796093022208 then (umlautlaw17_LexOps.l0 kj15 l0 a1 y319 (x6_1 ++ (rdOf ByteArray.empty y319 1)) (x7_1 ++ [rdOf ByteArray.empty y319 1]) (wrap64 (x8_1 + 1))) else (none)) else (none)) else (none)) else (if 0 ≤ x9_13 then (if x9_13 < (y319.length : Int) then (if x6_1.size + (rdOf ByteArray.empty y319 x9_13).size ≤ 9223372036854775807 then (if x7_1.length < 8796093022208 then (umlautlaw17_LexOps.l0 kj15 l0 a1 y319 (x6_1 ++ (rdOf ByteArray.empty y319 x9_13)) (x7_1 ++ [rdOf ByteArray.empty y319 x9_13]) (wrap64 (x8_1 + 1))) else (none)) else (none)) else (none)) else (none))) else (if (rdOf ByteArray.empty x7_1 (wrap64 ((x7_1.length : Int) - 1))).toList = ([124, 124] : List UInt8) then (if x9_13 ≥ 6 then (if 1 < (y319.length : Int) then (if x6_1.size + (rdOf ByteArray.empty y319 1).size ≤ 9223372036854775807 then (if x7_1.length < 8796093022208 then (umlautlaw17_LexOps.l0 kj15 l0 a1 y319 (x6_1 ++ (rdOf ByteArray.empty y319 1)) (x7_1 ++ [rdOf ByteArray.empty y319 1]) (wrap64 (x8_1 + 1))) else (none)) else (none)) else (none)) else (if 0 ≤ x9_13 then (if x9_13 < (y319.length : Int) then (if x6_1.size + (rdOf ByteArray.empty y319 x9_13).size ≤ 9223372036854775807 then (if x7_1.length < 8796093022208 then (umlautlaw17_LexOps.l0 kj15 l0 a1 y319 (x6_1 ++ (rdOf ByteArray.empty y319 x9_13)) (x7_1 ++ [rdOf ByteArray.empty y319 x9_13]) (wrap64 (x8_1 + 1))) else (none)) else (none)) else (none)) else (none))) else (if 0 ≤ x9_13 then (if x9_13 < (y319.length : Int) then (if x6_1.size + (rdOf ByteArray.empty y319 x9_13).size ≤ 9223372036854775807 then (if x7_1.length < 8796093022208 then (umlautlaw17_LexOps.l0 kj15 l0 a1 y319 (x6_1 ++ (rdOf ByteArray.empty y319 x9_13)) (x7_1 ++ [rdOf ByteArray.empty y319 x9_13]) (wrap64 (x8_1 + 1))) else (none)) else (none)) else (none)) else (none)))))) else (none)) else (none)) else (if 0 ≤ x9_13 then (if x9_13 < (y319.length : Int) then (if x6_1.size + (rdOf ByteArray.empty y319 x9_13).size ≤ 9223372036854775807 then (if x7_1.length < 8796093022208 then (umlautlaw17_LexOps.l0 kj15 l0 a1 y319 (x6_1 ++ (rdOf ByteArray.empty y319 x9_13)) (x7_1 ++ [rdOf ByteArray.empty y319 x9_13]) (wrap64 (x8_1 + 1))) else (none)) else (none)) else (none)) else (none))) else (if 0 ≤ x9_13 then (if x9_13 < (y319.length : Int) then (if x6_1.size + (rdOf ByteArray.empty y319 x9_13).size ≤ 9223372036854775807 then (if x7_1.length < 8796093022208 then (umlautlaw17_LexOps.l0 kj15 l0 a1 y319 (x6_1 ++ (rdOf ByteArray.empty y319 x9_13)) (x7_1 ++ [rdOf ByteArray.empty y319 x9_13]) (wrap64 (x8_1 + 1))) else (none)) else (none)) else (none)) else (none))) = some r := by rw [if_neg (show ¬ (false = true) by decide)] at H; exact H
                                clear H
                                have H := H1
                                clear H1
                                by_cases c94 : a1 = true
                                · subst c94
                                  have H1 : (if (x7_1.length : Int) > 0 then (if 0 ≤ (wrap64 ((x7_1.length : Int) - 1)) then (if (wrap64 ((x7_1.length : Int) - 1)) < (x7_1.length : Int) then (if (rdOf ByteArray.empty x7_1 (wrap64 ((x7_1.length : Int) - 1))).toList = ([60, 62] : List UInt8) then (if x9_13 ≥ 6 then (if 1 < (y319.length : Int) then (if x6_1.size + (rdOf ByteArray.empty y319 1).size ≤ 9223372036854775807 then (if x7_1.length < 8796093022208 then (umlautlaw17_LexOps.l0 kj15 l0 true y319 (x6_1 ++ (rdOf ByteArray.empty y319 1)) (x7_1 ++ [rdOf ByteArray.empty y319 1]) (wrap64 (x8_1 + 1))) else (none)) else (none)) else (none)) else (if 0 ≤ x9_13 then (if x9_13 < (y319.length : Int) then (if x6_1.size + (rdOf ByteArray.empty y319 x9_13).size ≤ 9223372036854775807 then (if x7_1.length < 8796093022208 then (umlautlaw17_LexOps.l0 kj15 l0 true y319 (x6_1 ++ (rdOf ByteArray.empty y319 x9_13)) (x7_1 ++ [rdOf ByteArray.empty y319 x9_13]) (wrap64 (x8_1 + 1))) else (none)) else (none)) else (none)) else (none))) else (if (rdOf ByteArray.empty x7_1 (wrap64 ((x7_1.length : Int) - 1))).toList = ([60, 60] : List UInt8) then (if x9_13 ≥ 6 then (if 1 < (y319.length : Int) then (if x6_1.size + (rdOf ByteArray.empty y319 1).size ≤ 9223372036854775807 then (if x7_1.length < 8796093022208 then (umlautlaw17_LexOps.l0 kj15 l0 true y319 (x6_1 ++ (rdOf ByteArray.empty y319 1)) (x7_1 ++ [rdOf ByteArray.empty y319 1]) (wrap64 (x8_1 + 1))) else (none)) else (none)) else (none)) else (if 0 ≤ x9_13 then (if x9_13 < (y319.length : Int) then (if x6_1.size + (rdOf ByteArray.empty y319 x9_13).size ≤ 9223372036854775807 then (if x7_1.length < 8796093022208 then (umlautlaw17_LexOps.l0 kj15 l0 true y319 (x6_1 ++ (rdOf ByteArray.empty y319 x9_13)) (x7_1 ++ [rdOf ByteArray.empty y319 x9_13]) (wrap64 (x8_1 + 1))) else (none)) else (none)) else (none)) else (none))) else (if (rdOf ByteArray.empty x7_1 (wrap64 ((x7_1.length : Int) - 1))).toList = ([60, 61] : List UInt8) then (if x9_13 ≥ 6 then (if 1 < (y319.length : Int) then (if x6_1.size + (rdOf ByteArray.empty y319 1).size ≤ 9223372036854775807 then (if x7_1.length < 8796093022208 then (umlautlaw17_LexOps.l0 kj15 l0 true y319 (x6_1 ++ (rdOf ByteArray.empty y319 1)) (x7_1 ++ [rdOf ByteArray.empty y319 1]) (wrap64 (x8_1 + 1))) else (none)) else (none)) else (none)) else (if 0 ≤ x9_13 then (if x9_13 < (y319.length : Int) then (if x6_1.size + (rdOf ByteArray.empty y319 x9_13).size ≤ 9223372036854775807 then (if x7_1.length < 8796093022208 then (umlautlaw17_LexOps.l0 kj15 l0 true y319 (x6_1 ++ (rdOf ByteArray.empty y319 x9_13)) (x7_1 ++ [rdOf ByteArray.empty y319 x9_13]) (wrap64 (x8_1 + 1))) else (none)) else (none)) else (none)) else (none))) else (if (rdOf ByteArray.empty x7_1 (wrap64 ((x7_1.length : Int) - 1))).toList = ([124, 124] : List UInt8) then (if x9_13 ≥ 6 then (if 1 < (y319.length : Int) then (if x6_1.size + (rdOf ByteArray.empty y319 1).size ≤ 9223372036854775807 then (if x7_1.length < 8796093022208 then (umlautlaw17_LexOps.l0 kj15 l0 true y319 (x6_1 ++ (rdOf ByteArray.empty y319 1)) (x7_1 ++ [rdOf ByteArray.empty y319 1]) (wrap64 (x8_1 + 1))) else (none)) else (none)) else (none)) else (if 0 ≤ x9_13 then (if x9_13 < (y319.length : Int) then (if x6_1.size + (rdOf ByteArray.empty y319 x9_13).size ≤ 9223372036854775807 then (if x7_1.length < 8796093022208 then (umlautlaw17_LexOps.l0 kj15 l0 true y319 (x6_1 ++ (rdOf ByteArray.empty y319 x9_13)) (x7_1 ++ [rdOf ByteArray.empty y319 x9_13]) (wrap64 (x8_1 + 1))) else (none)) else (none)) else (none)) else (none))) else (if 0 ≤ x9_13 then (if x9_13 < (y319.length : Int) then (if x6_1.size + (rdOf ByteArray.empty y319 x9_13).size ≤ 9223372036854775807 then (if x7_1.length < 8796093022208 then (umlautlaw17_LexOps.l0 kj15 l0 true y319 (x6_1 ++ (rdOf ByteArray.empty y319 x9_13)) (x7_1 ++ [rdOf ByteArray.empty y319 x9_13]) (wrap64 (x8_1 + 1))) else (none)) else (none)) else (none)) else (none)))))) else (none)) else (none)) else (if 0 ≤ x9_13 then (if x9_13 < (y319.length : Int) then (if x6_1.size + (rdOf ByteArray.empty y319 x9_13).size ≤ 9223372036854775807 then (if x7_1.length < 8796093022208 then (umlautlaw17_LexOps.l0 kj15 l0 true y319 (x6_1 ++ (rdOf ByteArray.empty y319 x9_13)) (x7_1 ++ [rdOf ByteArray.empty y319 x9_13]) (wrap64 (x8_1 + 1))) else (none)) else (none)) else (none)) else (none))) = some r := by rw [if_pos rfl] at H; exact H
                                  clear H
                                  have H := H1
                                  clear H1
                                  by_cases c95 : (x7_1.length : Int) > 0
                                  · rw [if_pos c95] at H
                                    have c95b0 : decide (0 < (x7_1.length : Int)) = true := decide_eq_true c95
                                    have c95b1 : decide (0 < x7_1.length) = true := decide_eq_true (by omega)
                                    clear c95
                                    obtain ⟨ji96, hji96⟩ : ∃ j_ : Int, (wrap64 ((x7_1.length : Int) - 1)) = j_ := ⟨_, rfl⟩
                                    replace H : (if 0 ≤ (ji96) then (if (ji96) < (x7_1.length : Int) then (if (rdOf ByteArray.empty x7_1 (ji96)).toList = ([60, 62] : List UInt8) then (if x9_13 ≥ 6 then (if 1 < (y319.length : Int) then (if x6_1.size + (rdOf ByteArray.empty y319 1).size ≤ 9223372036854775807 then (if x7_1.length < 8796093022208 then (umlautlaw17_LexOps.l0 kj15 l0 true y319 (x6_1 ++ (rdOf ByteArray.empty y319 1)) (x7_1 ++ [rdOf ByteArray.empty y319 1]) (wrap64 (x8_1 + 1))) else (none)) else (none)) else (none)) else (if 0 ≤ x9_13 then (if x9_13 < (y319.length : Int) then (if x6_1.size + (rdOf ByteArray.empty y319 x9_13).size ≤ 9223372036854775807 then (if x7_1.length < 8796093022208 then (umlautlaw17_LexOps.l0 kj15 l0 true y319 (x6_1 ++ (rdOf ByteArray.empty y319 x9_13)) (x7_1 ++ [rdOf ByteArray.empty y319 x9_13]) (wrap64 (x8_1 + 1))) else (none)) else (none)) else (none)) else (none))) else (if (rdOf ByteArray.empty x7_1 (ji96)).toList = ([60, 60] : List UInt8) then (if x9_13 ≥ 6 then (if 1 < (y319.length : Int) then (if x6_1.size + (rdOf ByteArray.empty y319 1).size ≤ 9223372036854775807 then (if x7_1.length < 8796093022208 then (umlautlaw17_LexOps.l0 kj15 l0 true y319 (x6_1 ++ (rdOf ByteArray.empty y319 1)) (x7_1 ++ [rdOf ByteArray.empty y319 1]) (wrap64 (x8_1 + 1))) else (none)) else (none)) else (none)) else (if 0 ≤ x9_13 then (if x9_13 < (y319.length : Int) then (if x6_1.size + (rdOf ByteArray.empty y319 x9_13).size ≤ 9223372036854775807 then (if x7_1.length < 8796093022208 then (umlautlaw17_LexOps.l0 kj15 l0 true y319 (x6_1 ++ (rdOf ByteArray.empty y319 x9_13)) (x7_1 ++ [rdOf ByteArray.empty y319 x9_13]) (wrap64 (x8_1 + 1))) else (none)) else (none)) else (none)) else (none))) else (if (rdOf ByteArray.empty x7_1 (ji96)).toList = ([60, 61] : List UInt8) then (if x9_13 ≥ 6 then (if 1 < (y319.length : Int) then (if x6_1.size + (rdOf ByteArray.empty y319 1).size ≤ 9223372036854775807 then (if x7_1.length < 8796093022208 then (umlautlaw17_LexOps.l0 kj15 l0 true y319 (x6_1 ++ (rdOf ByteArray.empty y319 1)) (x7_1 ++ [rdOf ByteArray.empty y319 1]) (wrap64 (x8_1 + 1))) else (none)) else (none)) else (none)) else (if 0 ≤ x9_13 then (if x9_13 < (y319.length : Int) then (if x6_1.size + (rdOf ByteArray.empty y319 x9_13).size ≤ 9223372036854775807 then (if x7_1.length < 8796093022208 then (umlautlaw17_LexOps.l0 kj15 l0 true y319 (x6_1 ++ (rdOf ByteArray.empty y319 x9_13)) (x7_1 ++ [rdOf ByteArray.empty y319 x9_13]) (wrap64 (x8_1 + 1))) else (none)) else (none)) else (none)) else (none))) else (if (rdOf ByteArray.empty x7_1 (ji96)).toList = ([124, 124] : List UInt8) then (if x9_13 ≥ 6 then (if 1 < (y319.length : Int) then (if x6_1.size + (rdOf ByteArray.empty y319 1).size ≤ 9223372036854775807 then (if x7_1.length < 8796093022208 then (umlautlaw17_LexOps.l0 kj15 l0 true y319 (x6_1 ++ (rdOf ByteArray.empty y319 1)) (x7_1 ++ [rdOf ByteArray.empty y319 1]) (wrap64 (x8_1 + 1))) else (none)) else (none)) else (none)) else (if 0 ≤ x9_13 then (if x9_13 < (y319.length : Int) then (if x6_1.size + (rdOf ByteArray.empty y319 x9_13).size ≤ 9223372036854775807 then (if x7_1.length < 8796093022208 then (umlautlaw17_LexOps.l0 kj15 l0 true y319 (x6_1 ++ (rdOf ByteArray.empty y319 x9_13)) (x7_1 ++ [rdOf ByteArray.empty y319 x9_13]) (wrap64 (x8_1 + 1))) else (none)) else (none)) else (none)) else (none))) else (if 0 ≤ x9_13 then (if x9_13 < (y319.length : Int) then (if x6_1.size + (rdOf ByteArray.empty y319 x9_13).size ≤ 9223372036854775807 then (if x7_1.length < 8796093022208 then (umlautlaw17_LexOps.l0 kj15 l0 true y319 (x6_1 ++ (rdOf ByteArray.empty y319 x9_13)) (x7_1 ++ [rdOf ByteArray.empty y319 x9_13]) (wrap64 (x8_1 + 1))) else (none)) else (none)) else (none)) else (none)))))) else (none)) else (none)) = some r := by first | (rw [hji96] at H; exact H) | (simp only [hji96] at H ⊢; exact H)
                                    have hji96w : (IntKind.i64.wrap ((x7_1.length : Int) - 1)) = ji96 := (i64_w _).trans hji96
                                    by_cases c97 : 0 ≤ (ji96)
                                    · rw [if_pos c97] at H
                                      have c97b0 : decide (0 ≤ (ji96)) = true := decide_eq_true c97
                                      clear c97
                                      by_cases c98 : (ji96) < (x7_1.length : Int)
                                      · rw [if_pos c98] at H
                                        have c98b0 : decide ((ji96) < (x7_1.length : Int)) = true := decide_eq_true c98
                                        clear c98
                                        by_cases c99 : (rdOf ByteArray.empty x7_1 (ji96)).toList = ([60, 62] : List UInt8)
                                        · rw [if_pos c99] at H
                                          have c99b0 : ((rdOf ByteArray.empty x7_1 (ji96)).toList == ([60, 62] : List UInt8)) = true := beq_iff_eq.mpr c99
                                          have c99b1 : ((rdOf ByteArray.empty x7_1 (ji96)).toList != ([60, 62] : List UInt8)) = false := bne_eq_false_iff_eq.mpr c99
                                          clear c99
                                          by_cases c100 : x9_13 ≥ 6
                                          · rw [if_pos c100] at H
                                            have c100b0 : decide (6 ≤ x9_13) = true := decide_eq_true c100
                                            clear c100
                                            by_cases c101 : 1 < (y319.length : Int)
                                            · rw [if_pos c101] at H
                                              have c101b0 : decide (1 < (y319.length : Int)) = true := decide_eq_true c101
                                              have c101b1 : decide (1 < y319.length) = true := decide_eq_true (by omega)
                                              clear c101
                                              by_cases c102 : x6_1.size + (rdOf ByteArray.empty y319 1).size ≤ 9223372036854775807
                                              · rw [if_pos c102] at H
                                                have c102b0 := eq_true c102
                                                have c102b1 : decide (x6_1.size + (rdOf ByteArray.empty y319 1).size ≤ 9223372036854775807) = true := decide_eq_true c102
                                                try have c102b2 : (9223372036854775807 < x6_1.size + (rdOf ByteArray.empty y319 1).size) = False := eq_false (Nat.not_lt.2 c102)
                                                by_cases c103 : x7_1.length < 8796093022208
                                                · rw [if_pos c103] at H
                                                  have LMc103 := Aside0.mk c103
                                                  clear c103
                                                  obtain ⟨y385, hy385⟩ : ∃ y_ : List ByteArray, y_ = (x7_1 ++ [rdOf ByteArray.empty y319 1]) := ⟨_, rfl⟩
                                                  replace H : (umlautlaw17_LexOps.l0 kj15 l0 true y319 (x6_1 ++ (rdOf ByteArray.empty y319 1)) y385 (wrap64 (x8_1 + 1))) = some r := by first | (rw [hy385]; with_reducible exact H) | (have H2_ := (Option.bind_some _ _).symm.trans H; rw [hy385]; with_reducible exact H2_) | (have H2_ := (Option.bind_some _ _).symm.trans H; with_reducible exact H2_) | with_reducible exact H | (rw [hy385]; exact H) | exact H
                                                  have Ny385 := Aside0.mk hy385
                                                  clear hy385
                                                  have H' := Aside0.mk H
                                                  clear H
                                                  obtain ⟨Ao104, co104, eo104⟩ := Kd.R_slice HO_7.out
                                                  subst eo104
                                                  have p382 : 0 ≤ ((ji96) : Int) := of_decide_eq_true (by first | (with_reducible assumption) | assumption)
                                                  have q382 : (ji96) < (x7_1.length : Int) := of_decide_eq_true (by first | (with_reducible assumption) | assumption)
                                                  obtain ⟨ad382, e382, hx382_0⟩ := Kd.at_string (Kd.R_reads' HO_7.out).2.2 (ji96) p382 q382
                                                  cases e382
                                                  replace p382 := eq_true p382
                                                  replace q382 := eq_true q382
                                                  have p383 : 0 ≤ (1 : Int) := (by omega)
                                                  have q383 : 1 < (y319.length : Int) := of_decide_eq_true (by first | (with_reducible assumption) | assumption)
                                                  obtain ⟨ad383, e383, hx383_0⟩ := Kd.at_string (Kd.R_reads' HO_5.out).2.2 1 p383 q383
                                                  cases e383
                                                  (try simp only [show (1 : Int).toNat = 1 from rfl, Nat.reduceMul, Nat.reduceEqDiff, Go.Addr.add, ↓reduceIte] at hx383_0)
                                                  have qi383 : (1 < y319.length) = True := eq_true (by omega)
                                                  (try rw [show ((1 : Int)).toNat = 1 from rfl] at hx383_0)
                                                  replace p383 := eq_true p383
                                                  replace q383 := eq_true q383
                                                  have p384 : 0 ≤ (1 : Int) := (by omega)
                                                  have q384 : 1 < (y319.length : Int) := of_decide_eq_true (by first | (with_reducible assumption) | assumption)
                                                  obtain ⟨ad384, e384, hx384_0⟩ := Kd.at_string (Kd.R_reads' HO_5.out).2.2 1 p384 q384
                                                  obtain rfl : ad383 = ad384 := (by injection e384)
                                                  (try simp only [show (1 : Int).toNat = 1 from rfl, Nat.reduceMul, Nat.reduceEqDiff, Go.Addr.add, ↓reduceIte] at hx384_0)
                                                  have qi384 : (1 < y319.length) = True := eq_true (by omega)
                                                  (try rw [show ((1 : Int)).toNat = 1 from rfl] at hx384_0)
                                                  replace p384 := eq_true p384
                                                  replace q384 := eq_true q384
                                                  go_wp2_with (first | ((with_reducible refine gate_builtin (b := .append) (xs := #[.tmp 98, .tmp 103]) rfl ?_); (try (refine gate_guard (by rfl) ?_; dsimp only)); at_builtin; refine Kd.R_append Kd.string (w0 := w) w.heap.size rfl (.tmp 98) (.tmp 103) 31 9 (.string ⟨#[]⟩) 16 rfl Tryd.underlying31 info9 rfl (by decide) (by omega) (.slice (some ad382) x7_1.length co104) x7_1 (rdOf ByteArray.empty y319 1) [.string (rdOf ByteArray.empty y319 1)] (fun k_ => some k_ ≠ (.slice (some ad383) y319.length co12 : Value).ownBlock) (fun _ => False) rfl rfl ?aP (fun _ hk => hk.elim) ?aF ?aO ?aB ?aS ?aL ?_; (case aP => exact rfl); (case aB => exact (by repeat (first | (with_reducible first | exact HB.out | apply below_alloc | apply pw_below_drewN | apply below_drew1) | exact HB.out))); (case aF => exact (fun k_ hk => Kd.fresh' (Kd.R_lt (by (with_reducible repeat (first | apply Kd.R_alloc | apply Kd.R_drewN | apply Kd.R_drew)); exact HO_5.out)) k_ hk)); (case aO => exact (by (with_reducible repeat (first | apply Kd.R_alloc | apply Kd.R_drewN | apply Kd.R_drew)); exact HO_7.out)); (case aS => exact (below_size (by repeat (first | (with_reducible first | exact HB.out | apply below_alloc | apply pw_below_drewN | apply below_drew1) | exact HB.out)))); (case aL => have := LMc103.out; omega); intro v386 w105 ho hb hg hat; rw [← Ny385.out] at ho; have n0_ := Aside0.mk (Kd.R_after (ok := (fun _ => True)) (by (with_reducible repeat (first | apply Kd.R_alloc | apply Kd.R_drewN | apply Kd.R_drew)); exact Kd.R_mono HO_5.out (fun _ hk => ⟨trivial, hk⟩)) hg hat); have n1_ := Aside0.mk (hb); have n2_ := Aside0.mk (ho); clear HO_5; clear HB; clear HO_7; have HO_5 := n0_; have HB := n1_; have HO387 := n2_; clear n0_ n1_ n2_; clear ho hb hg hat))
                                                  repeat (go_quiet (first | ((with_reducible refine gate_builtin (b := .append) (xs := #[.tmp 98, .tmp 103]) rfl ?_); (try (refine gate_guard (by rfl) ?_; dsimp only)); at_builtin; refine Kd.R_append Kd.string (w0 := w) w.heap.size rfl (.tmp 98) (.tmp 103) 31 9 (.string ⟨#[]⟩) 16 rfl Tryd.underlying31 info9 rfl (by decide) (by omega) (.slice (some ad382) x7_1.length co104) x7_1 (rdOf ByteArray.empty y319 1) [.string (rdOf ByteArray.empty y319 1)] (fun k_ => some k_ ≠ (.slice (some ad383) y319.length co12 : Value).ownBlock) (fun _ => False) rfl rfl ?aP (fun _ hk => hk.elim) ?aF ?aO ?aB ?aS ?aL ?_; (case aP => exact rfl); (case aB => exact (by repeat (first | (with_reducible first | exact HB.out | apply below_alloc | apply pw_below_drewN | apply below_drew1) | exact HB.out))); (case aF => exact (fun k_ hk => Kd.fresh' (Kd.R_lt (by (with_reducible repeat (first | apply Kd.R_alloc | apply Kd.R_drewN | apply Kd.R_drew)); exact HO_5.out)) k_ hk)); (case aO => exact (by (with_reducible repeat (first | apply Kd.R_alloc | apply Kd.R_drewN | apply Kd.R_drew)); exact HO_7.out)); (case aS => exact (below_size (by repeat (first | (with_reducible first | exact HB.out | apply below_alloc | apply pw_below_drewN | apply below_drew1) | exact HB.out)))); (case aL => have := LMc103.out; omega); intro v386 w105 ho hb hg hat; rw [← Ny385.out] at ho; have n0_ := Aside0.mk (Kd.R_after (ok := (fun _ => True)) (by (with_reducible repeat (first | apply Kd.R_alloc | apply Kd.R_drewN | apply Kd.R_drew)); exact Kd.R_mono HO_5.out (fun _ hk => ⟨trivial, hk⟩)) hg hat); have n1_ := Aside0.mk (hb); have n2_ := Aside0.mk (ho); clear HO_5; clear HB; clear HO_7; have HO_5 := n0_; have HB := n1_; have HO387 := n2_; clear n0_ n1_ n2_; clear ho hb hg hat)); try go_wp2_with (first | ((with_reducible refine gate_builtin (b := .append) (xs := #[.tmp 98, .tmp 103]) rfl ?_); (try (refine gate_guard (by rfl) ?_; dsimp only)); at_builtin; refine Kd.R_append Kd.string (w0 := w) w.heap.size rfl (.tmp 98) (.tmp 103) 31 9 (.string ⟨#[]⟩) 16 rfl Tryd.underlying31 info9 rfl (by decide) (by omega) (.slice (some ad382) x7_1.length co104) x7_1 (rdOf ByteArray.empty y319 1) [.string (rdOf ByteArray.empty y319 1)] (fun k_ => some k_ ≠ (.slice (some ad383) y319.length co12 : Value).ownBlock) (fun _ => False) rfl rfl ?aP (fun _ hk => hk.elim) ?aF ?aO ?aB ?aS ?aL ?_; (case aP => exact rfl); (case aB => exact (by repeat (first | (with_reducible first | exact HB.out | apply below_alloc | apply pw_below_drewN | apply below_drew1) | exact HB.out))); (case aF => exact (fun k_ hk => Kd.fresh' (Kd.R_lt (by (with_reducible repeat (first | apply Kd.R_alloc | apply Kd.R_drewN | apply Kd.R_drew)); exact HO_5.out)) k_ hk)); (case aO => exact (by (with_reducible repeat (first | apply Kd.R_alloc | apply Kd.R_drewN | apply Kd.R_drew)); exact HO_7.out)); (case aS => exact (below_size (by repeat (first | (with_reducible first | exact HB.out | apply below_alloc | apply pw_below_drewN | apply below_drew1) | exact HB.out)))); (case aL => have := LMc103.out; omega); intro v386 w105 ho hb hg hat; rw [← Ny385.out] at ho; have n0_ := Aside0.mk (Kd.R_after (ok := (fun _ => True)) (by (with_reducible repeat (first | apply Kd.R_alloc | apply Kd.R_drewN | apply Kd.R_drew)); exact Kd.R_mono HO_5.out (fun _ hk => ⟨trivial, hk⟩)) hg hat); have n1_ := Aside0.mk (hb); have n2_ := Aside0.mk (ho); clear HO_5; clear HB; clear HO_7; have HO_5 := n0_; have HB := n1_; have HO387 := n2_; clear n0_ n1_ n2_; clear ho hb hg hat)))
                                                  go_roundg kj15
                                                  case measure => have := HK1.out; have := HJ4.out; have := HJ10.out; have := HJ13.out; have := HJ15.out; omega
                                                  case rel => exact ⟨(x6_1 ++ (rdOf ByteArray.empty y319 1)), (y385), (wrap64 (x8_1 + 1)), (by first | rfl | (simp; done) | (simp [*]; done)), (by first | rfl | (simp; done) | (simp [*]; done)), H', ⟨by have := HK1.out; have := HJ4.out; have := HJ10.out; have := HJ13.out; have := HJ15.out; omega⟩, ⟨by (with_reducible repeat (first | apply Kd.R_alloc | apply Kd.R_drewN | apply Kd.R_drew)); exact Kd.R_mono HO_5.out (fun _ hk => hk.2)⟩, ⟨by (with_reducible repeat (first | apply Kd.R_alloc | apply Kd.R_drewN | apply Kd.R_drew)); exact HO387.out⟩, ⟨by repeat (first | (with_reducible first | exact HB.out | apply below_alloc | apply pw_below_drewN | apply below_drew1) | exact HB.out)⟩⟩
                                                · rw [if_neg c103] at H
                                                  exact absurd H (by simp)
                                              · rw [if_neg c102] at H
                                                exact absurd H (by simp)
                                            · rw [if_neg c101] at H
                                              exact absurd H (by simp)
                                          · rw [if_neg c100] at H
                                            have c100b0 : decide (6 ≤ x9_13) = false := decide_eq_false c100
                                            clear c100
                                            by_cases c106 : 0 ≤ x9_13
                                            · rw [if_pos c106] at H
                                              have c106b0 : decide (0 ≤ x9_13) = true := decide_eq_true c106
                                              clear c106
                                              by_cases c107 : x9_13 < (y319.length : Int)
                                              · rw [if_pos c107] at H
                                                have c107b0 : decide (x9_13 < (y319.length : Int)) = true := decide_eq_true c107
                                                clear c107
                                                by_cases c108 : x6_1.size + (rdOf ByteArray.empty y319 x9_13).size ≤ 9223372036854775807
                                                · rw [if_pos c108] at H
                                                  have c108b0 := eq_true c108
                                                  have c108b1 : decide (x6_1.size + (rdOf ByteArray.empty y319 x9_13).size ≤ 9223372036854775807) = true := decide_eq_true c108
                                                  try have c108b2 : (9223372036854775807 < x6_1.size + (rdOf ByteArray.empty y319 x9_13).size) = False := eq_false (Nat.not_lt.2 c108)
                                                  by_cases c109 : x7_1.length < 8796093022208
                                                  · rw [if_pos c109] at H
                                                    have LMc109 := Aside0.mk c109
                                                    clear c109
                                                    obtain ⟨y390, hy390⟩ : ∃ y_ : List ByteArray, y_ = (x7_1 ++ [rdOf ByteArray.empty y319 x9_13]) := ⟨_, rfl⟩
                                                    replace H : (umlautlaw17_LexOps.l0 kj15 l0 true y319 (x6_1 ++ (rdOf ByteArray.empty y319 x9_13)) y390 (wrap64 (x8_1 + 1))) = some r := by first | (rw [hy390]; with_reducible exact H) | (have H2_ := (Option.bind_some _ _).symm.trans H; rw [hy390]; with_reducible exact H2_) | (have H2_ := (Option.bind_some _ _).symm.trans H; with_reducible exact H2_) | with_reducible exact H | (rw [hy390]; exact H) | exact H
                                                    have Ny390 := Aside0.mk hy390
                                                    clear hy390
                                                    have H' := Aside0.mk H
                                                    clear H
                                                    obtain ⟨Ao110, co110, eo110⟩ := Kd.R_slice HO_7.out
                                                    subst eo110
                                                    have p382 : 0 ≤ ((ji96) : Int) := of_decide_eq_true (by first | (with_reducible assumption) | assumption)
                                                    have q382 : (ji96) < (x7_1.length : Int) := of_decide_eq_true (by first | (with_reducible assumption) | assumption)
                                                    obtain ⟨ad382, e382, hx382_0⟩ := Kd.at_string (Kd.R_reads' HO_7.out).2.2 (ji96) p382 q382
                                                    cases e382
                                                    replace p382 := eq_true p382
                                                    replace q382 := eq_true q382
                                                    have p388 : 0 ≤ (x9_13 : Int) := of_decide_eq_true (by first | (with_reducible assumption) | assumption)
                                                    have q388 : x9_13 < (y319.length : Int) := of_decide_eq_true (by first | (with_reducible assumption) | assumption)
                                                    obtain ⟨ad388, e388, hx388_0⟩ := Kd.at_string (Kd.R_reads' HO_5.out).2.2 x9_13 p388 q388
                                                    cases e388
                                                    replace p388 := eq_true p388
                                                    replace q388 := eq_true q388
                                                    have p389 : 0 ≤ (x9_13 : Int) := of_decide_eq_true (by first | (with_reducible assumption) | assumption)
                                                    have q389 : x9_13 < (y319.length : Int) := of_decide_eq_true (by first | (with_reducible assumption) | assumption)
                                                    obtain ⟨ad389, e389, hx389_0⟩ := Kd.at_string (Kd.R_reads' HO_5.out).2.2 x9_13 p389 q389
                                                    obtain rfl : ad388 = ad389 := (by injection e389)
                                                    replace p389 := eq_true p389
                                                    replace q389 := eq_true q389
                                                    go_wp2_with (first | ((with_reducible refine gate_builtin (b := .append) (xs := #[.tmp 98, .tmp 103]) rfl ?_); (try (refine gate_guard (by rfl) ?_; dsimp only)); at_builtin; refine Kd.R_append Kd.string (w0 := w) w.heap.size rfl (.tmp 98) (.tmp 103) 31 9 (.string ⟨#[]⟩) 16 rfl Tryd.underlying31 info9 rfl (by decide) (by omega) (.slice (some ad382) x7_1.length co110) x7_1 (rdOf ByteArray.empty y319 x9_13) [.string (rdOf ByteArray.empty y319 x9_13)] (fun k_ => some k_ ≠ (.slice (some ad388) y319.length co12 : Value).ownBlock) (fun _ => False) rfl rfl ?aP (fun _ hk => hk.elim) ?aF ?aO ?aB ?aS ?aL ?_; (case aP => exact rfl); (case aB => exact (by repeat (first | (with_reducible first | exact HB.out | apply below_alloc | apply pw_below_drewN | apply below_drew1) | exact HB.out))); (case aF => exact (fun k_ hk => Kd.fresh' (Kd.R_lt (by (with_reducible repeat (first | apply Kd.R_alloc | apply Kd.R_drewN | apply Kd.R_drew)); exact HO_5.out)) k_ hk)); (case aO => exact (by (with_reducible repeat (first | apply Kd.R_alloc | apply Kd.R_drewN | apply Kd.R_drew)); exact HO_7.out)); (case aS => exact (below_size (by repeat (first | (with_reducible first | exact HB.out | apply below_alloc | apply pw_below_drewN | apply below_drew1) | exact HB.out)))); (case aL => have := LMc109.out; omega); intro v391 w111 ho hb hg hat; rw [← Ny390.out] at ho; have n0_ := Aside0.mk (Kd.R_after (ok := (fun _ => True)) (by (with_reducible repeat (first | apply Kd.R_alloc | apply Kd.R_drewN | apply Kd.R_drew)); exact Kd.R_mono HO_5.out (fun _ hk => ⟨trivial, hk⟩)) hg hat); have n1_ := Aside0.mk (hb); have n2_ := Aside0.mk (ho); clear HO_5; clear HB; clear HO_7; have HO_5 := n0_; have HB := n1_; have HO392 := n2_; clear n0_ n1_ n2_; clear ho hb hg hat))
                                                    repeat (go_quiet (first | ((with_reducible refine gate_builtin (b := .append) (xs := #[.tmp 98, .tmp 103]) rfl ?_); (try (refine gate_guard (by rfl) ?_; dsimp only)); at_builtin; refine Kd.R_append Kd.string (w0 := w) w.heap.size rfl (.tmp 98) (.tmp 103) 31 9 (.string ⟨#[]⟩) 16 rfl Tryd.underlying31 info9 rfl (by decide) (by omega) (.slice (some ad382) x7_1.length co110) x7_1 (rdOf ByteArray.empty y319 x9_13) [.string (rdOf ByteArray.empty y319 x9_13)] (fun k_ => some k_ ≠ (.slice (some ad388) y319.length co12 : Value).ownBlock) (fun _ => False) rfl rfl ?aP (fun _ hk => hk.elim) ?aF ?aO ?aB ?aS ?aL ?_; (case aP => exact rfl); (case aB => exact (by repeat (first | (with_reducible first | exact HB.out | apply below_alloc | apply pw_below_drewN | apply below_drew1) | exact HB.out))); (case aF => exact (fun k_ hk => Kd.fresh' (Kd.R_lt (by (with_reducible repeat (first | apply Kd.R_alloc | apply Kd.R_drewN | apply Kd.R_drew)); exact HO_5.out)) k_ hk)); (case aO => exact (by (with_reducible repeat (first | apply Kd.R_alloc | apply Kd.R_drewN | apply Kd.R_drew)); exact HO_7.out)); (case aS => exact (below_size (by repeat (first | (with_reducible first | exact HB.out | apply below_alloc | apply pw_below_drewN | apply below_drew1) | exact HB.out)))); (case aL => have := LMc109.out; omega); intro v391 w111 ho hb hg hat; rw [← Ny390.out] at ho; have n0_ := Aside0.mk (Kd.R_after (ok := (fun _ => True)) (by (with_reducible repeat (first | apply Kd.R_alloc | apply Kd.R_drewN | apply Kd.R_drew)); exact Kd.R_mono HO_5.out (fun _ hk => ⟨trivial, hk⟩)) hg hat); have n1_ := Aside0.mk (hb); have n2_ := Aside0.mk (ho); clear HO_5; clear HB; clear HO_7; have HO_5 := n0_; have HB := n1_; have HO392 := n2_; clear n0_ n1_ n2_; clear ho hb hg hat)); try go_wp2_with (first | ((with_reducible refine gate_builtin (b := .append) (xs := #[.tmp 98, .tmp 103]) rfl ?_); (try (refine gate_guard (by rfl) ?_; dsimp only)); at_builtin; refine Kd.R_append Kd.string (w0 := w) w.heap.size rfl (.tmp 98) (.tmp 103) 31 9 (.string ⟨#[]⟩) 16 rfl Tryd.underlying31 info9 rfl (by decide) (by omega) (.slice (some ad382) x7_1.length co110) x7_1 (rdOf ByteArray.empty y319 x9_13) [.string (rdOf ByteArray.empty y319 x9_13)] (fun k_ => some k_ ≠ (.slice (some ad388) y319.length co12 : Value).ownBlock) (fun _ => False) rfl rfl ?aP (fun _ hk => hk.elim) ?aF ?aO ?aB ?aS ?aL ?_; (case aP => exact rfl); (case aB => exact (by repeat (first | (with_reducible first | exact HB.out | apply below_alloc | apply pw_below_drewN | apply below_drew1) | exact HB.out))); (case aF => exact (fun k_ hk => Kd.fresh' (Kd.R_lt (by (with_reducible repeat (first | apply Kd.R_alloc | apply Kd.R_drewN | apply Kd.R_drew)); exact HO_5.out)) k_ hk)); (case aO => exact (by (with_reducible repeat (first | apply Kd.R_alloc | apply Kd.R_drewN | apply Kd.R_drew)); exact HO_7.out)); (case aS => exact (below_size (by repeat (first | (with_reducible first | exact HB.out | apply below_alloc | apply pw_below_drewN | apply below_drew1) | exact HB.out)))); (case aL => have := LMc109.out; omega); intro v391 w111 ho hb hg hat; rw [← Ny390.out] at ho; have n0_ := Aside0.mk (Kd.R_after (ok := (fun _ => True)) (by (with_reducible repeat (first | apply Kd.R_alloc | apply Kd.R_drewN | apply Kd.R_drew)); exact Kd.R_mono HO_5.out (fun _ hk => ⟨trivial, hk⟩)) hg hat); have n1_ := Aside0.mk (hb); have n2_ := Aside0.mk (ho); clear HO_5; clear HB; clear HO_7; have HO_5 := n0_; have HB := n1_; have HO392 := n2_; clear n0_ n1_ n2_; clear ho hb hg hat)))
                                                    go_roundg kj15
                                                    case measure => have := HK1.out; have := HJ4.out; have := HJ10.out; have := HJ13.out; have := HJ15.out; omega
                                                    case rel => exact ⟨(x6_1 ++ (rdOf ByteArray.empty y319 x9_13)), (y390), (wrap64 (x8_1 + 1)), (by first | rfl | (simp; done) | (simp [*]; done)), (by first | rfl | (simp; done) | (simp [*]; done)), H', ⟨by have := HK1.out; have := HJ4.out; have := HJ10.out; have := HJ13.out; have := HJ15.out; omega⟩, ⟨by (with_reducible repeat (first | apply Kd.R_alloc | apply Kd.R_drewN | apply Kd.R_drew)); exact Kd.R_mono HO_5.out (fun _ hk => hk.2)⟩, ⟨by (with_reducible repeat (first | apply Kd.R_alloc | apply Kd.R_drewN | apply Kd.R_drew)); exact HO392.out⟩, ⟨by repeat (first | (with_reducible first | exact HB.out | apply below_alloc | apply pw_below_drewN | apply below_drew1) | exact HB.out)⟩⟩
                                                  · rw [if_neg c109] at H
                                                    exact absurd H (by simp)
                                                · rw [if_neg c108] at H
                                                  exact absurd H (by simp)
                                              · rw [if_neg c107] at H
                                                exact absurd H (by simp)
                                            · rw [if_neg c106] at H
                                              exact absurd H (by simp)
                                        · rw [if_neg c99] at H
                                          have c99b0 : ((rdOf ByteArray.empty x7_1 (ji96)).toList == ([60, 62] : List UInt8)) = false := beq_eq_false_iff_ne.mpr c99
                                          have c99b1 : ((rdOf ByteArray.empty x7_1 (ji96)).toList != ([60, 62] : List UInt8)) = true := bne_iff_ne.mpr c99
                                          by_cases c112 : (rdOf ByteArray.empty x7_1 (ji96)).toList = ([60, 60] : List UInt8)
                                          · rw [if_pos c112] at H
                                            have c112b0 : ((rdOf ByteArray.empty x7_1 (ji96)).toList == ([60, 60] : List UInt8)) = true := beq_iff_eq.mpr c112
                                            have c112b1 : ((rdOf ByteArray.empty x7_1 (ji96)).toList != ([60, 60] : List UInt8)) = false := bne_eq_false_iff_eq.mpr c112
                                            clear c112
                                            by_cases c113 : x9_13 ≥ 6
                                            · rw [if_pos c113] at H
                                              have c113b0 : decide (6 ≤ x9_13) = true := decide_eq_true c113
                                              clear c113
                                              by_cases c114 : 1 < (y319.length : Int)
                                              · rw [if_pos c114] at H
                                                have c114b0 : decide (1 < (y319.length : Int)) = true := decide_eq_true c114
                                                have c114b1 : decide (1 < y319.length) = true := decide_eq_true (by omega)
                                                clear c114
                                                by_cases c115 : x6_1.size + (rdOf ByteArray.empty y319 1).size ≤ 9223372036854775807
                                                · rw [if_pos c115] at H
                                                  have c115b0 := eq_true c115
                                                  have c115b1 : decide (x6_1.size + (rdOf ByteArray.empty y319 1).size ≤ 9223372036854775807) = true := decide_eq_true c115
                                                  try have c115b2 : (9223372036854775807 < x6_1.size + (rdOf ByteArray.empty y319 1).size) = False := eq_false (Nat.not_lt.2 c115)
                                                  by_cases c116 : x7_1.length < 8796093022208
                                                  · rw [if_pos c116] at H
                                                    have LMc116 := Aside0.mk c116
                                                    clear c116
                                                    obtain ⟨y396, hy396⟩ : ∃ y_ : List ByteArray, y_ = (x7_1 ++ [rdOf ByteArray.empty y319 1]) := ⟨_, rfl⟩
                                                    replace H : (umlautlaw17_LexOps.l0 kj15 l0 true y319 (x6_1 ++ (rdOf ByteArray.empty y319 1)) y396 (wrap64 (x8_1 + 1))) = some r := by first | (rw [hy396]; with_reducible exact H) | (have H2_ := (Option.bind_some _ _).symm.trans H; rw [hy396]; with_reducible exact H2_) | (have H2_ := (Option.bind_some _ _).symm.trans H; with_reducible exact H2_) | with_reducible exact H | (rw [hy396]; exact H) | exact H
                                                    have Ny396 := Aside0.mk hy396
                                                    clear hy396
                                                    have H' := Aside0.mk H
                                                    clear H
                                                    obtain ⟨Ao117, co117, eo117⟩ := Kd.R_slice HO_7.out
                                                    subst eo117
                                                    have p382 : 0 ≤ ((ji96) : Int) := of_decide_eq_true (by first | (with_reducible assumption) | assumption)
                                                    have q382 : (ji96) < (x7_1.length : Int) := of_decide_eq_true (by first | (with_reducible assumption) | assumption)
                                                    obtain ⟨ad382, e382, hx382_0⟩ := Kd.at_string (Kd.R_reads' HO_7.out).2.2 (ji96) p382 q382
                                                    cases e382
                                                    replace p382 := eq_true p382
                                                    replace q382 := eq_true q382
                                                    have p393 : 0 ≤ ((ji96) : Int) := of_decide_eq_true (by first | (with_reducible assumption) | assumption)
                                                    have q393 : (ji96) < (x7_1.length : Int) := of_decide_eq_true (by first | (with_reducible assumption) | assumption)
                                                    obtain ⟨ad393, e393, hx393_0⟩ := Kd.at_string (Kd.R_reads' HO_7.out).2.2 (ji96) p393 q393
                                                    obtain rfl : ad382 = ad393 := (by injection e393)
                                                    replace p393 := eq_true p393
                                                    replace q393 := eq_true q393
                                                    have p394 : 0 ≤ (1 : Int) := (by omega)
                                                    have q394 : 1 < (y319.length : Int) := of_decide_eq_true (by first | (with_reducible assumption) | assumption)
                                                    obtain ⟨ad394, e394, hx394_0⟩ := Kd.at_string (Kd.R_reads' HO_5.out).2.2 1 p394 q394
                                                    cases e394
                                                    (try simp only [show (1 : Int).toNat = 1 from rfl, Nat.reduceMul, Nat.reduceEqDiff, Go.Addr.add, ↓reduceIte] at hx394_0)
                                                    have qi394 : (1 < y319.length) = True := eq_true (by omega)
                                                    (try rw [show ((1 : Int)).toNat = 1 from rfl] at hx394_0)
                                                    replace p394 := eq_true p394
                                                    replace q394 := eq_true q394
                                                    have p395 : 0 ≤ (1 : Int) := (by omega)
                                                    have q395 : 1 < (y319.length : Int) := of_decide_eq_true (by first | (with_reducible assumption) | assumption)
                                                    obtain ⟨ad395, e395, hx395_0⟩ := Kd.at_string (Kd.R_reads' HO_5.out).2.2 1 p395 q395
                                                    obtain rfl : ad394 = ad395 := (by injection e395)
                                                    (try simp only [show (1 : Int).toNat = 1 from rfl, Nat.reduceMul, Nat.reduceEqDiff, Go.Addr.add, ↓reduceIte] at hx395_0)
                                                    have qi395 : (1 < y319.length) = True := eq_true (by omega)
                                                    (try rw [show ((1 : Int)).toNat = 1 from rfl] at hx395_0)
                                                    replace p395 := eq_true p395
                                                    replace q395 := eq_true q395
                                                    go_wp2_with (first | ((with_reducible refine gate_builtin (b := .append) (xs := #[.tmp 98, .tmp 103]) rfl ?_); (try (refine gate_guard (by rfl) ?_; dsimp only)); at_builtin; refine Kd.R_append Kd.string (w0 := w) w.heap.size rfl (.tmp 98) (.tmp 103) 31 9 (.string ⟨#[]⟩) 16 rfl Tryd.underlying31 info9 rfl (by decide) (by omega) (.slice (some ad382) x7_1.length co117) x7_1 (rdOf ByteArray.empty y319 1) [.string (rdOf ByteArray.empty y319 1)] (fun k_ => some k_ ≠ (.slice (some ad394) y319.length co12 : Value).ownBlock) (fun _ => False) rfl rfl ?aP (fun _ hk => hk.elim) ?aF ?aO ?aB ?aS ?aL ?_; (case aP => exact rfl); (case aB => exact (by repeat (first | (with_reducible first | exact HB.out | apply below_alloc | apply pw_below_drewN | apply below_drew1) | exact HB.out))); (case aF => exact (fun k_ hk => Kd.fresh' (Kd.R_lt (by (with_reducible repeat (first | apply Kd.R_alloc | apply Kd.R_drewN | apply Kd.R_drew)); exact HO_5.out)) k_ hk)); (case aO => exact (by (with_reducible repeat (first | apply Kd.R_alloc | apply Kd.R_drewN | apply Kd.R_drew)); exact HO_7.out)); (case aS => exact (below_size (by repeat (first | (with_reducible first | exact HB.out | apply below_alloc | apply pw_below_drewN | apply below_drew1) | exact HB.out)))); (case aL => have := LMc116.out; omega); intro v397 w118 ho hb hg hat; rw [← Ny396.out] at ho; have n0_ := Aside0.mk (Kd.R_after (ok := (fun _ => True)) (by (with_reducible repeat (first | apply Kd.R_alloc | apply Kd.R_drewN | apply Kd.R_drew)); exact Kd.R_mono HO_5.out (fun _ hk => ⟨trivial, hk⟩)) hg hat); have n1_ := Aside0.mk (hb); have n2_ := Aside0.mk (ho); clear HO_5; clear HB; clear HO_7; have HO_5 := n0_; have HB := n1_; have HO398 := n2_; clear n0_ n1_ n2_; clear ho hb hg hat))
                                                    repeat (go_quiet (first | ((with_reducible refine gate_builtin (b := .append) (xs := #[.tmp 98, .tmp 103]) rfl ?_); (try (refine gate_guard (by rfl) ?_; dsimp only)); at_builtin; refine Kd.R_append Kd.string (w0 := w) w.heap.size rfl (.tmp 98) (.tmp 103) 31 9 (.string ⟨#[]⟩) 16 rfl Tryd.underlying31 info9 rfl (by decide) (by omega) (.slice (some ad382) x7_1.length co117) x7_1 (rdOf ByteArray.empty y319 1) [.string (rdOf ByteArray.empty y319 1)] (fun k_ => some k_ ≠ (.slice (some ad394) y319.length co12 : Value).ownBlock) (fun _ => False) rfl rfl ?aP (fun _ hk => hk.elim) ?aF ?aO ?aB ?aS ?aL ?_; (case aP => exact rfl); (case aB => exact (by repeat (first | (with_reducible first | exact HB.out | apply below_alloc | apply pw_below_drewN | apply below_drew1) | exact HB.out))); (case aF => exact (fun k_ hk => Kd.fresh' (Kd.R_lt (by (with_reducible repeat (first | apply Kd.R_alloc | apply Kd.R_drewN | apply Kd.R_drew)); exact HO_5.out)) k_ hk)); (case aO => exact (by (with_reducible repeat (first | apply Kd.R_alloc | apply Kd.R_drewN | apply Kd.R_drew)); exact HO_7.out)); (case aS => exact (below_size (by repeat (first | (with_reducible first | exact HB.out | apply below_alloc | apply pw_below_drewN | apply below_drew1) | exact HB.out)))); (case aL => have := LMc116.out; omega); intro v397 w118 ho hb hg hat; rw [← Ny396.out] at ho; have n0_ := Aside0.mk (Kd.R_after (ok := (fun _ => True)) (by (with_reducible repeat (first | apply Kd.R_alloc | apply Kd.R_drewN | apply Kd.R_drew)); exact Kd.R_mono HO_5.out (fun _ hk => ⟨trivial, hk⟩)) hg hat); have n1_ := Aside0.mk (hb); have n2_ := Aside0.mk (ho); clear HO_5; clear HB; clear HO_7; have HO_5 := n0_; have HB := n1_; have HO398 := n2_; clear n0_ n1_ n2_; clear ho hb hg hat)); try go_wp2_with (first | ((with_reducible refine gate_builtin (b := .append) (xs := #[.tmp 98, .tmp 103]) rfl ?_); (try (refine gate_guard (by rfl) ?_; dsimp only)); at_builtin; refine Kd.R_append Kd.string (w0 := w) w.heap.size rfl (.tmp 98) (.tmp 103) 31 9 (.string ⟨#[]⟩) 16 rfl Tryd.underlying31 info9 rfl (by decide) (by omega) (.slice (some ad382) x7_1.length co117) x7_1 (rdOf ByteArray.empty y319 1) [.string (rdOf ByteArray.empty y319 1)] (fun k_ => some k_ ≠ (.slice (some ad394) y319.length co12 : Value).ownBlock) (fun _ => False) rfl rfl ?aP (fun _ hk => hk.elim) ?aF ?aO ?aB ?aS ?aL ?_; (case aP => exact rfl); (case aB => exact (by repeat (first | (with_reducible first | exact HB.out | apply below_alloc | apply pw_below_drewN | apply below_drew1) | exact HB.out))); (case aF => exact (fun k_ hk => Kd.fresh' (Kd.R_lt (by (with_reducible repeat (first | apply Kd.R_alloc | apply Kd.R_drewN | apply Kd.R_drew)); exact HO_5.out)) k_ hk)); (case aO => exact (by (with_reducible repeat (first | apply Kd.R_alloc | apply Kd.R_drewN | apply Kd.R_drew)); exact HO_7.out)); (case aS => exact (below_size (by repeat (first | (with_reducible first | exact HB.out | apply below_alloc | apply pw_below_drewN | apply below_drew1) | exact HB.out)))); (case aL => have := LMc116.out; omega); intro v397 w118 ho hb hg hat; rw [← Ny396.out] at ho; have n0_ := Aside0.mk (Kd.R_after (ok := (fun _ => True)) (by (with_reducible repeat (first | apply Kd.R_alloc | apply Kd.R_drewN | apply Kd.R_drew)); exact Kd.R_mono HO_5.out (fun _ hk => ⟨trivial, hk⟩)) hg hat); have n1_ := Aside0.mk (hb); have n2_ := Aside0.mk (ho); clear HO_5; clear HB; clear HO_7; have HO_5 := n0_; have HB := n1_; have HO398 := n2_; clear n0_ n1_ n2_; clear ho hb hg hat)))
                                                    go_roundg kj15
                                                    case measure => have := HK1.out; have := HJ4.out; have := HJ10.out; have := HJ13.out; have := HJ15.out; omega
                                                    case rel => exact ⟨(x6_1 ++ (rdOf ByteArray.empty y319 1)), (y396), (wrap64 (x8_1 + 1)), (by first | rfl | (simp; done) | (simp [*]; done)), (by first | rfl | (simp; done) | (simp [*]; done)), H', ⟨by have := HK1.out; have := HJ4.out; have := HJ10.out; have := HJ13.out; have := HJ15.out; omega⟩, ⟨by (with_reducible repeat (first | apply Kd.R_alloc | apply Kd.R_drewN | apply Kd.R_drew)); exact Kd.R_mono HO_5.out (fun _ hk => hk.2)⟩, ⟨by (with_reducible repeat (first | apply Kd.R_alloc | apply Kd.R_drewN | apply Kd.R_drew)); exact HO398.out⟩, ⟨by repeat (first | (with_reducible first | exact HB.out | apply below_alloc | apply pw_below_drewN | apply below_drew1) | exact HB.out)⟩⟩
                                                  · rw [if_neg c116] at H
                                                    exact absurd H (by simp)
                                                · rw [if_neg c115] at H
                                                  exact absurd H (by simp)
                                              · rw [if_neg c114] at H
                                                exact absurd H (by simp)
                                            · rw [if_neg c113] at H
                                              have c113b0 : decide (6 ≤ x9_13) = false := decide_eq_false c113
                                              clear c113
                                              by_cases c119 : 0 ≤ x9_13
                                              · rw [if_pos c119] at H
                                                have c119b0 : decide (0 ≤ x9_13) = true := decide_eq_true c119
                                                clear c119
                                                by_cases c120 : x9_13 < (y319.length : Int)
                                                · rw [if_pos c120] at H
                                                  have c120b0 : decide (x9_13 < (y319.length : Int)) = true := decide_eq_true c120
                                                  clear c120
                                                  by_cases c121 : x6_1.size + (rdOf ByteArray.empty y319 x9_13).size ≤ 9223372036854775807
                                                  · rw [if_pos c121] at H
                                                    have c121b0 := eq_true c121
                                                    have c121b1 : decide (x6_1.size + (rdOf ByteArray.empty y319 x9_13).size ≤ 9223372036854775807) = true := decide_eq_true c121
                                                    try have c121b2 : (9223372036854775807 < x6_1.size + (rdOf ByteArray.empty y319 x9_13).size) = False := eq_false (Nat.not_lt.2 c121)
                                                    by_cases c122 : x7_1.length < 8796093022208
                                                    · rw [if_pos c122] at H
                                                      have LMc122 := Aside0.mk c122
                                                      clear c122
                                                      obtain ⟨y401, hy401⟩ : ∃ y_ : List ByteArray, y_ = (x7_1 ++ [rdOf ByteArray.empty y319 x9_13]) := ⟨_, rfl⟩
                                                      replace H : (umlautlaw17_LexOps.l0 kj15 l0 true y319 (x6_1 ++ (rdOf ByteArray.empty y319 x9_13)) y401 (wrap64 (x8_1 + 1))) = some r := by first | (rw [hy401]; with_reducible exact H) | (have H2_ := (Option.bind_some _ _).symm.trans H; rw [hy401]; with_reducible exact H2_) | (have H2_ := (Option.bind_some _ _).symm.trans H; with_reducible exact H2_) | with_reducible exact H | (rw [hy401]; exact H) | exact H
                                                      have Ny401 := Aside0.mk hy401
                                                      clear hy401
                                                      have H' := Aside0.mk H
                                                      clear H
                                                      obtain ⟨Ao123, co123, eo123⟩ := Kd.R_slice HO_7.out
                                                      subst eo123
                                                      have p382 : 0 ≤ ((ji96) : Int) := of_decide_eq_true (by first | (with_reducible assumption) | assumption)
                                                      have q382 : (ji96) < (x7_1.length : Int) := of_decide_eq_true (by first | (with_reducible assumption) | assumption)
                                                      obtain ⟨ad382, e382, hx382_0⟩ := Kd.at_string (Kd.R_reads' HO_7.out).2.2 (ji96) p382 q382
                                                      cases e382
                                                      replace p382 := eq_true p382
                                                      replace q382 := eq_true q382
                                                      have p393 : 0 ≤ ((ji96) : Int) := of_decide_eq_true (by first | (with_reducible assumption) | assumption)
                                                      have q393 : (ji96) < (x7_1.length : Int) := of_decide_eq_true (by first | (with_reducible assumption) | assumption)
                                                      obtain ⟨ad393, e393, hx393_0⟩ := Kd.at_string (Kd.R_reads' HO_7.out).2.2 (ji96) p393 q393
                                                      obtain rfl : ad382 = ad393 := (by injection e393)
                                                      replace p393 := eq_true p393
                                                      replace q393 := eq_true q393
                                                      have p399 : 0 ≤ (x9_13 : Int) := of_decide_eq_true (by first | (with_reducible assumption) | assumption)
                                                      have q399 : x9_13 < (y319.length : Int) := of_decide_eq_true (by first | (with_reducible assumption) | assumption)
                                                      obtain ⟨ad399, e399, hx399_0⟩ := Kd.at_string (Kd.R_reads' HO_5.out).2.2 x9_13 p399 q399
                                                      cases e399
                                                      replace p399 := eq_true p399
                                                      replace q399 := eq_true q399
                                                      have p400 : 0 ≤ (x9_13 : Int) := of_decide_eq_true (by first | (with_reducible assumption) | assumption)
                                                      have q400 : x9_13 < (y319.length : Int) := of_decide_eq_true (by first | (with_reducible assumption) | assumption)
                                                      obtain ⟨ad400, e400, hx400_0⟩ := Kd.at_string (Kd.R_reads' HO_5.out).2.2 x9_13 p400 q400
                                                      obtain rfl : ad399 = ad400 := (by injection e400)
                                                      replace p400 := eq_true p400
                                                      replace q400 := eq_true q400
                                                      go_wp2_with (first | ((with_reducible refine gate_builtin (b := .append) (xs := #[.tmp 98, .tmp 103]) rfl ?_); (try (refine gate_guard (by rfl) ?_; dsimp only)); at_builtin; refine Kd.R_append Kd.string (w0 := w) w.heap.size rfl (.tmp 98) (.tmp 103) 31 9 (.string ⟨#[]⟩) 16 rfl Tryd.underlying31 info9 rfl (by decide) (by omega) (.slice (some ad382) x7_1.length co123) x7_1 (rdOf ByteArray.empty y319 x9_13) [.string (rdOf ByteArray.empty y319 x9_13)] (fun k_ => some k_ ≠ (.slice (some ad399) y319.length co12 : Value).ownBlock) (fun _ => False) rfl rfl ?aP (fun _ hk => hk.elim) ?aF ?aO ?aB ?aS ?aL ?_; (case aP => exact rfl); (case aB => exact (by repeat (first | (with_reducible first | exact HB.out | apply below_alloc | apply pw_below_drewN | apply below_drew1) | exact HB.out))); (case aF => exact (fun k_ hk => Kd.fresh' (Kd.R_lt (by (with_reducible repeat (first | apply Kd.R_alloc | apply Kd.R_drewN | apply Kd.R_drew)); exact HO_5.out)) k_ hk)); (case aO => exact (by (with_reducible repeat (first | apply Kd.R_alloc | apply Kd.R_drewN | apply Kd.R_drew)); exact HO_7.out)); (case aS => exact (below_size (by repeat (first | (with_reducible first | exact HB.out | apply below_alloc | apply pw_below_drewN | apply below_drew1) | exact HB.out)))); (case aL => have := LMc122.out; omega); intro v402 w124 ho hb hg hat; rw [← Ny401.out] at ho; have n0_ := Aside0.mk (Kd.R_after (ok := (fun _ => True)) (by (with_reducible repeat (first | apply Kd.R_alloc | apply Kd.R_drewN | apply Kd.R_drew)); exact Kd.R_mono HO_5.out (fun _ hk => ⟨trivial, hk⟩)) hg hat); have n1_ := Aside0.mk (hb); have n2_ := Aside0.mk (ho); clear HO_5; clear HB; clear HO_7; have HO_5 := n0_; have HB := n1_; have HO403 := n2_; clear n0_ n1_ n2_; clear ho hb hg hat))
                                                      repeat (go_quiet (first | ((with_reducible refine gate_builtin (b := .append) (xs := #[.tmp 98, .tmp 103]) rfl ?_); (try (refine gate_guard (by rfl) ?_; dsimp only)); at_builtin; refine Kd.R_append Kd.string (w0 := w) w.heap.size rfl (.tmp 98) (.tmp 103) 31 9 (.string ⟨#[]⟩) 16 rfl Tryd.underlying31 info9 rfl (by decide) (by omega) (.slice (some ad382) x7_1.length co123) x7_1 (rdOf ByteArray.empty y319 x9_13) [.string (rdOf ByteArray.empty y319 x9_13)] (fun k_ => some k_ ≠ (.slice (some ad399) y319.length co12 : Value).ownBlock) (fun _ => False) rfl rfl ?aP (fun _ hk => hk.elim) ?aF ?aO ?aB ?aS ?aL ?_; (case aP => exact rfl); (case aB => exact (by repeat (first | (with_reducible first | exact HB.out | apply below_alloc | apply pw_below_drewN | apply below_drew1) | exact HB.out))); (case aF => exact (fun k_ hk => Kd.fresh' (Kd.R_lt (by (with_reducible repeat (first | apply Kd.R_alloc | apply Kd.R_drewN | apply Kd.R_drew)); exact HO_5.out)) k_ hk)); (case aO => exact (by (with_reducible repeat (first | apply Kd.R_alloc | apply Kd.R_drewN | apply Kd.R_drew)); exact HO_7.out)); (case aS => exact (below_size (by repeat (first | (with_reducible first | exact HB.out | apply below_alloc | apply pw_below_drewN | apply below_drew1) | exact HB.out)))); (case aL => have := LMc122.out; omega); intro v402 w124 ho hb hg hat; rw [← Ny401.out] at ho; have n0_ := Aside0.mk (Kd.R_after (ok := (fun _ => True)) (by (with_reducible repeat (first | apply Kd.R_alloc | apply Kd.R_drewN | apply Kd.R_drew)); exact Kd.R_mono HO_5.out (fun _ hk => ⟨trivial, hk⟩)) hg hat); have n1_ := Aside0.mk (hb); have n2_ := Aside0.mk (ho); clear HO_5; clear HB; clear HO_7; have HO_5 := n0_; have HB := n1_; have HO403 := n2_; clear n0_ n1_ n2_; clear ho hb hg hat)); try go_wp2_with (first | ((with_reducible refine gate_builtin (b := .append) (xs := #[.tmp 98, .tmp 103]) rfl ?_); (try (refine gate_guard (by rfl) ?_; dsimp only)); at_builtin; refine Kd.R_append Kd.string (w0 := w) w.heap.size rfl (.tmp 98) (.tmp 103) 31 9 (.string ⟨#[]⟩) 16 rfl Tryd.underlying31 info9 rfl (by decide) (by omega) (.slice (some ad382) x7_1.length co123) x7_1 (rdOf ByteArray.empty y319 x9_13) [.string (rdOf ByteArray.empty y319 x9_13)] (fun k_ => some k_ ≠ (.slice (some ad399) y319.length co12 : Value).ownBlock) (fun _ => False) rfl rfl ?aP (fun _ hk => hk.elim) ?aF ?aO ?aB ?aS ?aL ?_; (case aP => exact rfl); (case aB => exact (by repeat (first | (with_reducible first | exact HB.out | apply below_alloc | apply pw_below_drewN | apply below_drew1) | exact HB.out))); (case aF => exact (fun k_ hk => Kd.fresh' (Kd.R_lt (by (with_reducible repeat (first | apply Kd.R_alloc | apply Kd.R_drewN | apply Kd.R_drew)); exact HO_5.out)) k_ hk)); (case aO => exact (by (with_reducible repeat (first | apply Kd.R_alloc | apply Kd.R_drewN | apply Kd.R_drew)); exact HO_7.out)); (case aS => exact (below_size (by repeat (first | (with_reducible first | exact HB.out | apply below_alloc | apply pw_below_drewN | apply below_drew1) | exact HB.out)))); (case aL => have := LMc122.out; omega); intro v402 w124 ho hb hg hat; rw [← Ny401.out] at ho; have n0_ := Aside0.mk (Kd.R_after (ok := (fun _ => True)) (by (with_reducible repeat (first | apply Kd.R_alloc | apply Kd.R_drewN | apply Kd.R_drew)); exact Kd.R_mono HO_5.out (fun _ hk => ⟨trivial, hk⟩)) hg hat); have n1_ := Aside0.mk (hb); have n2_ := Aside0.mk (ho); clear HO_5; clear HB; clear HO_7; have HO_5 := n0_; have HB := n1_; have HO403 := n2_; clear n0_ n1_ n2_; clear ho hb hg hat)))
                                                      go_roundg kj15
                                                      case measure => have := HK1.out; have := HJ4.out; have := HJ10.out; have := HJ13.out; have := HJ15.out; omega
                                                      case rel => exact ⟨(x6_1 ++ (rdOf ByteArray.empty y319 x9_13)), (y401), (wrap64 (x8_1 + 1)), (by first | rfl | (simp; done) | (simp [*]; done)), (by first | rfl | (simp; done) | (simp [*]; done)), H', ⟨by have := HK1.out; have := HJ4.out; have := HJ10.out; have := HJ13.out; have := HJ15.out; omega⟩, ⟨by (with_reducible repeat (first | apply Kd.R_alloc | apply Kd.R_drewN | apply Kd.R_drew)); exact Kd.R_mono HO_5.out (fun _ hk => hk.2)⟩, ⟨by (with_reducible repeat (first | apply Kd.R_alloc | apply Kd.R_drewN | apply Kd.R_drew)); exact HO403.out⟩, ⟨by repeat (first | (with_reducible first | exact HB.out | apply below_alloc | apply pw_below_drewN | apply below_drew1) | exact HB.out)⟩⟩
                                                    · rw [if_neg c122] at H
                                                      exact absurd H (by simp)
                                                  · rw [if_neg c121] at H
                                                    exact absurd H (by simp)
                                                · rw [if_neg c120] at H
                                                  exact absurd H (by simp)
                                              · rw [if_neg c119] at H
                                                exact absurd H (by simp)
                                          · rw [if_neg c112] at H
                                            have c112b0 : ((rdOf ByteArray.empty x7_1 (ji96)).toList == ([60, 60] : List UInt8)) = false := beq_eq_false_iff_ne.mpr c112
                                            have c112b1 : ((rdOf ByteArray.empty x7_1 (ji96)).toList != ([60, 60] : List UInt8)) = true := bne_iff_ne.mpr c112
                                            by_cases c125 : (rdOf ByteArray.empty x7_1 (ji96)).toList = ([60, 61] : List UInt8)
                                            · rw [if_pos c125] at H
                                              have c125b0 : ((rdOf ByteArray.empty x7_1 (ji96)).toList == ([60, 61] : List UInt8)) = true := beq_iff_eq.mpr c125
                                              have c125b1 : ((rdOf ByteArray.empty x7_1 (ji96)).toList != ([60, 61] : List UInt8)) = false := bne_eq_false_iff_eq.mpr c125
                                              clear c125
                                              by_cases c126 : x9_13 ≥ 6
                                              · rw [if_pos c126] at H
                                                have c126b0 : decide (6 ≤ x9_13) = true := decide_eq_true c126
                                                clear c126
                                                by_cases c127 : 1 < (y319.length : Int)
                                                · rw [if_pos c127] at H
                                                  have c127b0 : decide (1 < (y319.length : Int)) = true := decide_eq_true c127
                                                  have c127b1 : decide (1 < y319.length) = true := decide_eq_true (by omega)
                                                  clear c127
                                                  by_cases c128 : x6_1.size + (rdOf ByteArray.empty y319 1).size ≤ 9223372036854775807
                                                  · rw [if_pos c128] at H
                                                    have c128b0 := eq_true c128
                                                    have c128b1 : decide (x6_1.size + (rdOf ByteArray.empty y319 1).size ≤ 9223372036854775807) = true := decide_eq_true c128
                                                    try have c128b2 : (9223372036854775807 < x6_1.size + (rdOf ByteArray.empty y319 1).size) = False := eq_false (Nat.not_lt.2 c128)
                                                    by_cases c129 : x7_1.length < 8796093022208
                                                    · rw [if_pos c129] at H
                                                      have LMc129 := Aside0.mk c129
                                                      clear c129
                                                      obtain ⟨y407, hy407⟩ : ∃ y_ : List ByteArray, y_ = (x7_1 ++ [rdOf ByteArray.empty y319 1]) := ⟨_, rfl⟩
                                                      replace H : (umlautlaw17_LexOps.l0 kj15 l0 true y319 (x6_1 ++ (rdOf ByteArray.empty y319 1)) y407 (wrap64 (x8_1 + 1))) = some r := by first | (rw [hy407]; with_reducible exact H) | (have H2_ := (Option.bind_some _ _).symm.trans H; rw [hy407]; with_reducible exact H2_) | (have H2_ := (Option.bind_some _ _).symm.trans H; with_reducible exact H2_) | with_reducible exact H | (rw [hy407]; exact H) | exact H
                                                      have Ny407 := Aside0.mk hy407
                                                      clear hy407
                                                      have H' := Aside0.mk H
                                                      clear H
                                                      obtain ⟨Ao130, co130, eo130⟩ := Kd.R_slice HO_7.out
                                                      subst eo130
                                                      have p382 : 0 ≤ ((ji96) : Int) := of_decide_eq_true (by first | (with_reducible assumption) | assumption)
                                                      have q382 : (ji96) < (x7_1.length : Int) := of_decide_eq_true (by first | (with_reducible assumption) | assumption)
                                                      obtain ⟨ad382, e382, hx382_0⟩ := Kd.at_string (Kd.R_reads' HO_7.out).2.2 (ji96) p382 q382
                                                      cases e382
                                                      replace p382 := eq_true p382
                                                      replace q382 := eq_true q382
                                                      have p393 : 0 ≤ ((ji96) : Int) := of_decide_eq_true (by first | (with_reducible assumption) | assumption)
                                                      have q393 : (ji96) < (x7_1.length : Int) := of_decide_eq_true (by first | (with_reducible assumption) | assumption)
                                                      obtain ⟨ad393, e393, hx393_0⟩ := Kd.at_string (Kd.R_reads' HO_7.out).2.2 (ji96) p393 q393
                                                      obtain rfl : ad382 = ad393 := (by injection e393)
                                                      replace p393 := eq_true p393
                                                      replace q393 := eq_true q393
                                                      have p404 : 0 ≤ ((ji96) : Int) := of_decide_eq_true (by first | (with_reducible assumption) | assumption)
                                                      have q404 : (ji96) < (x7_1.length : Int) := of_decide_eq_true (by first | (with_reducible assumption) | assumption)
                                                      obtain ⟨ad404, e404, hx404_0⟩ := Kd.at_string (Kd.R_reads' HO_7.out).2.2 (ji96) p404 q404
                                                      obtain rfl : ad382 = ad404 := (by injection e404)
                                                      replace p404 := eq_true p404
                                                      replace q404 := eq_true q404
                                                      have p405 : 0 ≤ (1 : Int) := (by omega)
                                                      have q405 : 1 < (y319.length : Int) := of_decide_eq_true (by first | (with_reducible assumption) | assumption)
                                                      obtain ⟨ad405, e405, hx405_0⟩ := Kd.at_string (Kd.R_reads' HO_5.out).2.2 1 p405 q405
                                                      cases e405
                                                      (try simp only [show (1 : Int).toNat = 1 from rfl, Nat.reduceMul, Nat.reduceEqDiff, Go.Addr.add, ↓reduceIte] at hx405_0)
                                                      have qi405 : (1 < y319.length) = True := eq_true (by omega)
                                                      (try rw [show ((1 : Int)).toNat = 1 from rfl] at hx405_0)
                                                      replace p405 := eq_true p405
                                                      replace q405 := eq_true q405
                                                      have p406 : 0 ≤ (1 : Int) := (by omega)
                                                      have q406 : 1 < (y319.length : Int) := of_decide_eq_true (by first | (with_reducible assumption) | assumption)
                                                      obtain ⟨ad406, e406, hx406_0⟩ := Kd.at_string (Kd.R_reads' HO_5.out).2.2 1 p406 q406
                                                      obtain rfl : ad405 = ad406 := (by injection e406)
                                                      (try simp only [show (1 : Int).toNat = 1 from rfl, Nat.reduceMul, Nat.reduceEqDiff, Go.Addr.add, ↓reduceIte] at hx406_0)
                                                      have qi406 : (1 < y319.length) = True := eq_true (by omega)
                                                      (try rw [show ((1 : Int)).toNat = 1 from rfl] at hx406_0)
                                                      replace p406 := eq_true p406
                                                      replace q406 := eq_true q406
                                                      go_wp2_with (first | ((with_reducible refine gate_builtin (b := .append) (xs := #[.tmp 98, .tmp 103]) rfl ?_); (try (refine gate_guard (by rfl) ?_; dsimp only)); at_builtin; refine Kd.R_append Kd.string (w0 := w) w.heap.size rfl (.tmp 98) (.tmp 103) 31 9 (.string ⟨#[]⟩) 16 rfl Tryd.underlying31 info9 rfl (by decide) (by omega) (.slice (some ad382) x7_1.length co130) x7_1 (rdOf ByteArray.empty y319 1) [.string (rdOf ByteArray.empty y319 1)] (fun k_ => some k_ ≠ (.slice (some ad405) y319.length co12 : Value).ownBlock) (fun _ => False) rfl rfl ?aP (fun _ hk => hk.elim) ?aF ?aO ?aB ?aS ?aL ?_; (case aP => exact rfl); (case aB => exact (by repeat (first | (with_reducible first | exact HB.out | apply below_alloc | apply pw_below_drewN | apply below_drew1) | exact HB.out))); (case aF => exact (fun k_ hk => Kd.fresh' (Kd.R_lt (by (with_reducible repeat (first | apply Kd.R_alloc | apply Kd.R_drewN | apply Kd.R_drew)); exact HO_5.out)) k_ hk)); (case aO => exact (by (with_reducible repeat (first | apply Kd.R_alloc | apply Kd.R_drewN | apply Kd.R_drew)); exact HO_7.out)); (case aS => exact (below_size (by repeat (first | (with_reducible first | exact HB.out | apply below_alloc | apply pw_below_drewN | apply below_drew1) | exact HB.out)))); (case aL => have := LMc129.out; omega); intro v408 w131 ho hb hg hat; rw [← Ny407.out] at ho; have n0_ := Aside0.mk (Kd.R_after (ok := (fun _ => True)) (by (with_reducible repeat (first | apply Kd.R_alloc | apply Kd.R_drewN | apply Kd.R_drew)); exact Kd.R_mono HO_5.out (fun _ hk => ⟨trivial, hk⟩)) hg hat); have n1_ := Aside0.mk (hb); have n2_ := Aside0.mk (ho); clear HO_5; clear HB; clear HO_7; have HO_5 := n0_; have HB := n1_; have HO409 := n2_; clear n0_ n1_ n2_; clear ho hb hg hat))
                                                      repeat (go_quiet (first | ((with_reducible refine gate_builtin (b := .append) (xs := #[.tmp 98, .tmp 103]) rfl ?_); (try (refine gate_guard (by rfl) ?_; dsimp only)); at_builtin; refine Kd.R_append Kd.string (w0 := w) w.heap.size rfl (.tmp 98) (.tmp 103) 31 9 (.string ⟨#[]⟩) 16 rfl Tryd.underlying31 info9 rfl (by decide) (by omega) (.slice (some ad382) x7_1.length co130) x7_1 (rdOf ByteArray.empty y319 1) [.string (rdOf ByteArray.empty y319 1)] (fun k_ => some k_ ≠ (.slice (some ad405) y319.length co12 : Value).ownBlock) (fun _ => False) rfl rfl ?aP (fun _ hk => hk.elim) ?aF ?aO ?aB ?aS ?aL ?_; (case aP => exact rfl); (case aB => exact (by repeat (first | (with_reducible first | exact HB.out | apply below_alloc | apply pw_below_drewN | apply below_drew1) | exact HB.out))); (case aF => exact (fun k_ hk => Kd.fresh' (Kd.R_lt (by (with_reducible repeat (first | apply Kd.R_alloc | apply Kd.R_drewN | apply Kd.R_drew)); exact HO_5.out)) k_ hk)); (case aO => exact (by (with_reducible repeat (first | apply Kd.R_alloc | apply Kd.R_drewN | apply Kd.R_drew)); exact HO_7.out)); (case aS => exact (below_size (by repeat (first | (with_reducible first | exact HB.out | apply below_alloc | apply pw_below_drewN | apply below_drew1) | exact HB.out)))); (case aL => have := LMc129.out; omega); intro v408 w131 ho hb hg hat; rw [← Ny407.out] at ho; have n0_ := Aside0.mk (Kd.R_after (ok := (fun _ => True)) (by (with_reducible repeat (first | apply Kd.R_alloc | apply Kd.R_drewN | apply Kd.R_drew)); exact Kd.R_mono HO_5.out (fun _ hk => ⟨trivial, hk⟩)) hg hat); have n1_ := Aside0.mk (hb); have n2_ := Aside0.mk (ho); clear HO_5; clear HB; clear HO_7; have HO_5 := n0_; have HB := n1_; have HO409 := n2_; clear n0_ n1_ n2_; clear ho hb hg hat)); try go_wp2_with (first | ((with_reducible refine gate_builtin (b := .append) (xs := #[.tmp 98, .tmp 103]) rfl ?_); (try (refine gate_guard (by rfl) ?_; dsimp only)); at_builtin; refine Kd.R_append Kd.string (w0 := w) w.heap.size rfl (.tmp 98) (.tmp 103) 31 9 (.string ⟨#[]⟩) 16 rfl Tryd.underlying31 info9 rfl (by decide) (by omega) (.slice (some ad382) x7_1.length co130) x7_1 (rdOf ByteArray.empty y319 1) [.string (rdOf ByteArray.empty y319 1)] (fun k_ => some k_ ≠ (.slice (some ad405) y319.length co12 : Value).ownBlock) (fun _ => False) rfl rfl ?aP (fun _ hk => hk.elim) ?aF ?aO ?aB ?aS ?aL ?_; (case aP => exact rfl); (case aB => exact (by repeat (first | (with_reducible first | exact HB.out | apply below_alloc | apply pw_below_drewN | apply below_drew1) | exact HB.out))); (case aF => exact (fun k_ hk => Kd.fresh' (Kd.R_lt (by (with_reducible repeat (first | apply Kd.R_alloc | apply Kd.R_drewN | apply Kd.R_drew)); exact HO_5.out)) k_ hk)); (case aO => exact (by (with_reducible repeat (first | apply Kd.R_alloc | apply Kd.R_drewN | apply Kd.R_drew)); exact HO_7.out)); (case aS => exact (below_size (by repeat (first | (with_reducible first | exact HB.out | apply below_alloc | apply pw_below_drewN | apply below_drew1) | exact HB.out)))); (case aL => have := LMc129.out; omega); intro v408 w131 ho hb hg hat; rw [← Ny407.out] at ho; have n0_ := Aside0.mk (Kd.R_after (ok := (fun _ => True)) (by (with_reducible repeat (first | apply Kd.R_alloc | apply Kd.R_drewN | apply Kd.R_drew)); exact Kd.R_mono HO_5.out (fun _ hk => ⟨trivial, hk⟩)) hg hat); have n1_ := Aside0.mk (hb); have n2_ := Aside0.mk (ho); clear HO_5; clear HB; clear HO_7; have HO_5 := n0_; have HB := n1_; have HO409 := n2_; clear n0_ n1_ n2_; clear ho hb hg hat)))
                                                      go_roundg kj15
                                                      case measure => have := HK1.out; have := HJ4.out; have := HJ10.out; have := HJ13.out; have := HJ15.out; omega
                                                      case rel => exact ⟨(x6_1 ++ (rdOf ByteArray.empty y319 1)), (y407), (wrap64 (x8_1 + 1)), (by first | rfl | (simp; done) | (simp [*]; done)), (by first | rfl | (simp; done) | (simp [*]; done)), H', ⟨by have := HK1.out; have := HJ4.out; have := HJ10.out; have := HJ13.out; have := HJ15.out; omega⟩, ⟨by (with_reducible repeat (first | apply Kd.R_alloc | apply Kd.R_drewN | apply Kd.R_drew)); exact Kd.R_mono HO_5.out (fun _ hk => hk.2)⟩, ⟨by (with_reducible repeat (first | apply Kd.R_alloc | apply Kd.R_drewN | apply Kd.R_drew)); exact HO409.out⟩, ⟨by repeat (first | (with_reducible first | exact HB.out | apply below_alloc | apply pw_below_drewN | apply below_drew1) | exact HB.out)⟩⟩
                                                    · rw [if_neg c129] at H
                                                      exact absurd H (by simp)
                                                  · rw [if_neg c128] at H
                                                    exact absurd H (by simp)
                                                · rw [if_neg c127] at H
                                                  exact absurd H (by simp)
                                              · rw [if_neg c126] at H
                                                have c126b0 : decide (6 ≤ x9_13) = false := decide_eq_false c126
                                                clear c126
                                                by_cases c132 : 0 ≤ x9_13
                                                · rw [if_pos c132] at H
                                                  have c132b0 : decide (0 ≤ x9_13) = true := decide_eq_true c132
                                                  clear c132
                                                  by_cases c133 : x9_13 < (y319.length : Int)
                                                  · rw [if_pos c133] at H
                                                    have c133b0 : decide (x9_13 < (y319.length : Int)) = true := decide_eq_true c133
                                                    clear c133
                                                    by_cases c134 : x6_1.size + (rdOf ByteArray.empty y319 x9_13).size ≤ 9223372036854775807
                                                    · rw [if_pos c134] at H
                                                      have c134b0 := eq_true c134
                                                      have c134b1 : decide (x6_1.size + (rdOf ByteArray.empty y319 x9_13).size ≤ 9223372036854775807) = true := decide_eq_true c134
                                                      try have c134b2 : (9223372036854775807 < x6_1.size + (rdOf ByteArray.empty y319 x9_13).size) = False := eq_false (Nat.not_lt.2 c134)
                                                      by_cases c135 : x7_1.length < 8796093022208
                                                      · rw [if_pos c135] at H
                                                        have LMc135 := Aside0.mk c135
                                                        clear c135
                                                        obtain ⟨y412, hy412⟩ : ∃ y_ : List ByteArray, y_ = (x7_1 ++ [rdOf ByteArray.empty y319 x9_13]) := ⟨_, rfl⟩
                                                        replace H : (umlautlaw17_LexOps.l0 kj15 l0 true y319 (x6_1 ++ (rdOf ByteArray.empty y319 x9_13)) y412 (wrap64 (x8_1 + 1))) = some r := by first | (rw [hy412]; with_reducible exact H) | (have H2_ := (Option.bind_some _ _).symm.trans H; rw [hy412]; with_reducible exact H2_) | (have H2_ := (Option.bind_some _ _).symm.trans H; with_reducible exact H2_) | with_reducible exact H | (rw [hy412]; exact H) | exact H
                                                        have Ny412 := Aside0.mk hy412
                                                        clear hy412
                                                        have H' := Aside0.mk H
                                                        clear H
                                                        obtain ⟨Ao136, co136, eo136⟩ := Kd.R_slice HO_7.out
                                                        subst eo136
                                                        have p382 : 0 ≤ ((ji96) : Int) := of_decide_eq_true (by first | (with_reducible assumption) | assumption)
                                                        have q382 : (ji96) < (x7_1.length : Int) := of_decide_eq_true (by first | (with_reducible assumption) | assumption)
                                                        obtain ⟨ad382, e382, hx382_0⟩ := Kd.at_string (Kd.R_reads' HO_7.out).2.2 (ji96) p382 q382
                                                        cases e382
                                                        replace p382 := eq_true p382
                                                        replace q382 := eq_true q382
                                                        have p393 : 0 ≤ ((ji96) : Int) := of_decide_eq_true (by first | (with_reducible assumption) | assumption)
                                                        have q393 : (ji96) < (x7_1.length : Int) := of_decide_eq_true (by first | (with_reducible assumption) | assumption)
                                                        obtain ⟨ad393, e393, hx393_0⟩ := Kd.at_string (Kd.R_reads' HO_7.out).2.2 (ji96) p393 q393
                                                        obtain rfl : ad382 = ad393 := (by injection e393)
                                                        replace p393 := eq_true p393
                                                        replace q393 := eq_true q393
                                                        have p404 : 0 ≤ ((ji96) : Int) := of_decide_eq_true (by first | (with_reducible assumption) | assumption)
                                                        have q404 : (ji96) < (x7_1.length : Int) := of_decide_eq_true (by first | (with_reducible assumption) | assumption)
                                                        obtain ⟨ad404, e404, hx404_0⟩ := Kd.at_string (Kd.R_reads' HO_7.out).2.2 (ji96) p404 q404
                                                        obtain rfl : ad382 = ad404 := (by injection e404)
                                                        replace p404 := eq_true p404
                                                        replace q404 := eq_true q404
                                                        have p410 : 0 ≤ (x9_13 : Int) := of_decide_eq_true (by first | (with_reducible assumption) | assumption)
                                                        have q410 : x9_13 < (y319.length : Int) := of_decide_eq_true (by first | (with_reducible assumption) | assumption)
                                                        obtain ⟨ad410, e410, hx410_0⟩ := Kd.at_string (Kd.R_reads' HO_5.out).2.2 x9_13 p410 q410
                                                        cases e410
                                                        replace p410 := eq_true p410
                                                        replace q410 := eq_true q410
                                                        have p411 : 0 ≤ (x9_13 : Int) := of_decide_eq_true (by first | (with_reducible assumption) | assumption)
                                                        have q411 : x9_13 < (y319.length : Int) := of_decide_eq_true (by first | (with_reducible assumption) | assumption)
                                                        obtain ⟨ad411, e411, hx411_0⟩ := Kd.at_string (Kd.R_reads' HO_5.out).2.2 x9_13 p411 q411
                                                        obtain rfl : ad410 = ad411 := (by injection e411)
                                                        replace p411 := eq_true p411
                                                        replace q411 := eq_true q411
                                                        go_wp2_with (first | ((with_reducible refine gate_builtin (b := .append) (xs := #[.tmp 98, .tmp 103]) rfl ?_); (try (refine gate_guard (by rfl) ?_; dsimp only)); at_builtin; refine Kd.R_append Kd.string (w0 := w) w.heap.size rfl (.tmp 98) (.tmp 103) 31 9 (.string ⟨#[]⟩) 16 rfl Tryd.underlying31 info9 rfl (by decide) (by omega) (.slice (some ad382) x7_1.length co136) x7_1 (rdOf ByteArray.empty y319 x9_13) [.string (rdOf ByteArray.empty y319 x9_13)] (fun k_ => some k_ ≠ (.slice (some ad410) y319.length co12 : Value).ownBlock) (fun _ => False) rfl rfl ?aP (fun _ hk => hk.elim) ?aF ?aO ?aB ?aS ?aL ?_; (case aP => exact rfl); (case aB => exact (by repeat (first | (with_reducible first | exact HB.out | apply below_alloc | apply pw_below_drewN | apply below_drew1) | exact HB.out))); (case aF => exact (fun k_ hk => Kd.fresh' (Kd.R_lt (by (with_reducible repeat (first | apply Kd.R_alloc | apply Kd.R_drewN | apply Kd.R_drew)); exact HO_5.out)) k_ hk)); (case aO => exact (by (with_reducible repeat (first | apply Kd.R_alloc | apply Kd.R_drewN | apply Kd.R_drew)); exact HO_7.out)); (case aS => exact (below_size (by repeat (first | (with_reducible first | exact HB.out | apply below_alloc | apply pw_below_drewN | apply below_drew1) | exact HB.out)))); (case aL => have := LMc135.out; omega); intro v413 w137 ho hb hg hat; rw [← Ny412.out] at ho; have n0_ := Aside0.mk (Kd.R_after (ok := (fun _ => True)) (by (with_reducible repeat (first | apply Kd.R_alloc | apply Kd.R_drewN | apply Kd.R_drew)); exact Kd.R_mono HO_5.out (fun _ hk => ⟨trivial, hk⟩)) hg hat); have n1_ := Aside0.mk (hb); have n2_ := Aside0.mk (ho); clear HO_5; clear HB; clear HO_7; have HO_5 := n0_; have HB := n1_; have HO414 := n2_; clear n0_ n1_ n2_; clear ho hb hg hat))
                                                        repeat (go_quiet (first | ((with_reducible refine gate_builtin (b := .append) (xs := #[.tmp 98, .tmp 103]) rfl ?_); (try (refine gate_guard (by rfl) ?_; dsimp only)); at_builtin; refine Kd.R_append Kd.string (w0 := w) w.heap.size rfl (.tmp 98) (.tmp 103) 31 9 (.string ⟨#[]⟩) 16 rfl Tryd.underlying31 info9 rfl (by decide) (by omega) (.slice (some ad382) x7_1.length co136) x7_1 (rdOf ByteArray.empty y319 x9_13) [.string (rdOf ByteArray.empty y319 x9_13)] (fun k_ => some k_ ≠ (.slice (some ad410) y319.length co12 : Value).ownBlock) (fun _ => False) rfl rfl ?aP (fun _ hk => hk.elim) ?aF ?aO ?aB ?aS ?aL ?_; (case aP => exact rfl); (case aB => exact (by repeat (first | (with_reducible first | exact HB.out | apply below_alloc | apply pw_below_drewN | apply below_drew1) | exact HB.out))); (case aF => exact (fun k_ hk => Kd.fresh' (Kd.R_lt (by (with_reducible repeat (first | apply Kd.R_alloc | apply Kd.R_drewN | apply Kd.R_drew)); exact HO_5.out)) k_ hk)); (case aO => exact (by (with_reducible repeat (first | apply Kd.R_alloc | apply Kd.R_drewN | apply Kd.R_drew)); exact HO_7.out)); (case aS => exact (below_size (by repeat (first | (with_reducible first | exact HB.out | apply below_alloc | apply pw_below_drewN | apply below_drew1) | exact HB.out)))); (case aL => have := LMc135.out; omega); intro v413 w137 ho hb hg hat; rw [← Ny412.out] at ho; have n0_ := Aside0.mk (Kd.R_after (ok := (fun _ => True)) (by (with_reducible repeat (first | apply Kd.R_alloc | apply Kd.R_drewN | apply Kd.R_drew)); exact Kd.R_mono HO_5.out (fun _ hk => ⟨trivial, hk⟩)) hg hat); have n1_ := Aside0.mk (hb); have n2_ := Aside0.mk (ho); clear HO_5; clear HB; clear HO_7; have HO_5 := n0_; have HB := n1_; have HO414 := n2_; clear n0_ n1_ n2_; clear ho hb hg hat)); try go_wp2_with (first | ((with_reducible refine gate_builtin (b := .append) (xs := #[.tmp 98, .tmp 103]) rfl ?_); (try (refine gate_guard (by rfl) ?_; dsimp only)); at_builtin; refine Kd.R_append Kd.string (w0 := w) w.heap.size rfl (.tmp 98) (.tmp 103) 31 9 (.string ⟨#[]⟩) 16 rfl Tryd.underlying31 info9 rfl (by decide) (by omega) (.slice (some ad382) x7_1.length co136) x7_1 (rdOf ByteArray.empty y319 x9_13) [.string (rdOf ByteArray.empty y319 x9_13)] (fun k_ => some k_ ≠ (.slice (some ad410) y319.length co12 : Value).ownBlock) (fun _ => False) rfl rfl ?aP (fun _ hk => hk.elim) ?aF ?aO ?aB ?aS ?aL ?_; (case aP => exact rfl); (case aB => exact (by repeat (first | (with_reducible first | exact HB.out | apply below_alloc | apply pw_below_drewN | apply below_drew1) | exact HB.out))); (case aF => exact (fun k_ hk => Kd.fresh' (Kd.R_lt (by (with_reducible repeat (first | apply Kd.R_alloc | apply Kd.R_drewN | apply Kd.R_drew)); exact HO_5.out)) k_ hk)); (case aO => exact (by (with_reducible repeat (first | apply Kd.R_alloc | apply Kd.R_drewN | apply Kd.R_drew)); exact HO_7.out)); (case aS => exact (below_size (by repeat (first | (with_reducible first | exact HB.out | apply below_alloc | apply pw_below_drewN | apply below_drew1) | exact HB.out)))); (case aL => have := LMc135.out; omega); intro v413 w137 ho hb hg hat; rw [← Ny412.out] at ho; have n0_ := Aside0.mk (Kd.R_after (ok := (fun _ => True)) (by (with_reducible repeat (first | apply Kd.R_alloc | apply Kd.R_drewN | apply Kd.R_drew)); exact Kd.R_mono HO_5.out (fun _ hk => ⟨trivial, hk⟩)) hg hat); have n1_ := Aside0.mk (hb); have n2_ := Aside0.mk (ho); clear HO_5; clear HB; clear HO_7; have HO_5 := n0_; have HB := n1_; have HO414 := n2_; clear n0_ n1_ n2_; clear ho hb hg hat)))
                                                        go_roundg kj15
                                                        case measure => have := HK1.out; have := HJ4.out; have := HJ10.out; have := HJ13.out; have := HJ15.out; omega
                                                        case rel => exact ⟨(x6_1 ++ (rdOf ByteArray.empty y319 x9_13)), (y412), (wrap64 (x8_1 + 1)), (by first | rfl | (simp; done) | (simp [*]; done)), (by first | rfl | (simp; done) | (simp [*]; done)), H', ⟨by have := HK1.out; have := HJ4.out; have := HJ10.out; have := HJ13.out; have := HJ15.out; omega⟩, ⟨by (with_reducible repeat (first | apply Kd.R_alloc | apply Kd.R_drewN | apply Kd.R_drew)); exact Kd.R_mono HO_5.out (fun _ hk => hk.2)⟩, ⟨by (with_reducible repeat (first | apply Kd.R_alloc | apply Kd.R_drewN | apply Kd.R_drew)); exact HO414.out⟩, ⟨by repeat (first | (with_reducible first | exact HB.out | apply below_alloc | apply pw_below_drewN | apply below_drew1) | exact HB.out)⟩⟩
                                                      · rw [if_neg c135] at H
                                                        exact absurd H (by simp)
                                                    · rw [if_neg c134] at H
                                                      exact absurd H (by simp)
                                                  · rw [if_neg c133] at H
                                                    exact absurd H (by simp)
                                                · rw [if_neg c132] at H
                                                  exact absurd H (by simp)
                                            · rw [if_neg c125] at H
                                              have c125b0 : ((rdOf ByteArray.empty x7_1 (ji96)).toList == ([60, 61] : List UInt8)) = false := beq_eq_false_iff_ne.mpr c125
                                              have c125b1 : ((rdOf ByteArray.empty x7_1 (ji96)).toList != ([60, 61] : List UInt8)) = true := bne_iff_ne.mpr c125
                                              by_cases c138 : (rdOf ByteArray.empty x7_1 (ji96)).toList = ([124, 124] : List UInt8)
                                              · rw [if_pos c138] at H
                                                have c138b0 : ((rdOf ByteArray.empty x7_1 (ji96)).toList == ([124, 124] : List UInt8)) = true := beq_iff_eq.mpr c138
                                                have c138b1 : ((rdOf ByteArray.empty x7_1 (ji96)).toList != ([124, 124] : List UInt8)) = false := bne_eq_false_iff_eq.mpr c138
                                                clear c138
                                                by_cases c139 : x9_13 ≥ 6
                                                · rw [if_pos c139] at H
                                                  have c139b0 : decide (6 ≤ x9_13) = true := decide_eq_true c139
                                                  clear c139
                                                  by_cases c140 : 1 < (y319.length : Int)
                                                  · rw [if_pos c140] at H
                                                    have c140b0 : decide (1 < (y319.length : Int)) = true := decide_eq_true c140
                                                    have c140b1 : decide (1 < y319.length) = true := decide_eq_true (by omega)
                                                    clear c140
                                                    by_cases c141 : x6_1.size + (rdOf ByteArray.empty y319 1).size ≤ 9223372036854775807
                                                    · rw [if_pos c141] at H
                                                      have c141b0 := eq_true c141
                                                      have c141b1 : decide (x6_1.size + (rdOf ByteArray.empty y319 1).size ≤ 9223372036854775807) = true := decide_eq_true c141
                                                      try have c141b2 : (9223372036854775807 < x6_1.size + (rdOf ByteArray.empty y319 1).size) = False := eq_false (Nat.not_lt.2 c141)
                                                      by_cases c142 : x7_1.length < 8796093022208
                                                      · rw [if_pos c142] at H
                                                        have LMc142 := Aside0.mk c142
                                                        clear c142
                                                        obtain ⟨y418, hy418⟩ : ∃ y_ : List ByteArray, y_ = (x7_1 ++ [rdOf ByteArray.empty y319 1]) := ⟨_, rfl⟩
                                                        replace H : (umlautlaw17_LexOps.l0 kj15 l0 true y319 (x6_1 ++ (rdOf ByteArray.empty y319 1)) y418 (wrap64 (x8_1 + 1))) = some r := by first | (rw [hy418]; with_reducible exact H) | (have H2_ := (Option.bind_some _ _).symm.trans H; rw [hy418]; with_reducible exact H2_) | (have H2_ := (Option.bind_some _ _).symm.trans H; with_reducible exact H2_) | with_reducible exact H | (rw [hy418]; exact H) | exact H
                                                        have Ny418 := Aside0.mk hy418
                                                        clear hy418
                                                        have H' := Aside0.mk H
                                                        clear H
                                                        obtain ⟨Ao143, co143, eo143⟩ := Kd.R_slice HO_7.out
                                                        subst eo143
                                                        have p382 : 0 ≤ ((ji96) : Int) := of_decide_eq_true (by first | (with_reducible assumption) | assumption)
                                                        have q382 : (ji96) < (x7_1.length : Int) := of_decide_eq_true (by first | (with_reducible assumption) | assumption)
                                                        obtain ⟨ad382, e382, hx382_0⟩ := Kd.at_string (Kd.R_reads' HO_7.out).2.2 (ji96) p382 q382
                                                        cases e382
                                                        replace p382 := eq_true p382
                                                        replace q382 := eq_true q382
                                                        have p393 : 0 ≤ ((ji96) : Int) := of_decide_eq_true (by first | (with_reducible assumption) | assumption)
                                                        have q393 : (ji96) < (x7_1.length : Int) := of_decide_eq_true (by first | (with_reducible assumption) | assumption)
                                                        obtain ⟨ad393, e393, hx393_0⟩ := Kd.at_string (Kd.R_reads' HO_7.out).2.2 (ji96) p393 q393
                                                        obtain rfl : ad382 = ad393 := (by injection e393)
                                                        replace p393 := eq_true p393
                                                        replace q393 := eq_true q393
                                                        have p404 : 0 ≤ ((ji96) : Int) := of_decide_eq_true (by first | (with_reducible assumption) | assumption)
                                                        have q404 : (ji96) < (x7_1.length : Int) := of_decide_eq_true (by first | (with_reducible assumption) | assumption)
                                                        obtain ⟨ad404, e404, hx404_0⟩ := Kd.at_string (Kd.R_reads' HO_7.out).2.2 (ji96) p404 q404
                                                        obtain rfl : ad382 = ad404 := (by injection e404)
                                                        replace p404 := eq_true p404
                                                        replace q404 := eq_true q404
                                                        have p415 : 0 ≤ ((ji96) : Int) := of_decide_eq_true (by first | (with_reducible assumption) | assumption)
                                                        have q415 : (ji96) < (x7_1.length : Int) := of_decide_eq_true (by first | (with_reducible assumption) | assumption)
                                                        obtain ⟨ad415, e415, hx415_0⟩ := Kd.at_string (Kd.R_reads' HO_7.out).2.2 (ji96) p415 q415
                                                        obtain rfl : ad382 = ad415 := (by injection e415)
                                                        replace p415 := eq_true p415
                                                        replace q415 := eq_true q415
                                                        have p416 : 0 ≤ (1 : Int) := (by omega)
                                                        have q416 : 1 < (y319.length : Int) := of_decide_eq_true (by first | (with_reducible assumption) | assumption)
                                                        obtain ⟨ad416, e416, hx416_0⟩ := Kd.at_string (Kd.R_reads' HO_5.out).2.2 1 p416 q416
                                                        cases e416
                                                        (try simp only [show (1 : Int).toNat = 1 from rfl, Nat.reduceMul, Nat.reduceEqDiff, Go.Addr.add, ↓reduceIte] at hx416_0)
                                                        have qi416 : (1 < y319.length) = True := eq_true (by omega)
                                                        (try rw [show ((1 : Int)).toNat = 1 from rfl] at hx416_0)
                                                        replace p416 := eq_true p416
                                                        replace q416 := eq_true q416
                                                        have p417 : 0 ≤ (1 : Int) := (by omega)
                                                        have q417 : 1 < (y319.length : Int) := of_decide_eq_true (by first | (with_reducible assumption) | assumption)
                                                        obtain ⟨ad417, e417, hx417_0⟩ := Kd.at_string (Kd.R_reads' HO_5.out).2.2 1 p417 q417
                                                        obtain rfl : ad416 = ad417 := (by injection e417)
                                                        (try simp only [show (1 : Int).toNat = 1 from rfl, Nat.reduceMul, Nat.reduceEqDiff, Go.Addr.add, ↓reduceIte] at hx417_0)
                                                        have qi417 : (1 < y319.length) = True := eq_true (by omega)
                                                        (try rw [show ((1 : Int)).toNat = 1 from rfl] at hx417_0)
                                                        replace p417 := eq_true p417
                                                        replace q417 := eq_true q417
                                                        go_wp2_with (first | ((with_reducible refine gate_builtin (b := .append) (xs := #[.tmp 98, .tmp 103]) rfl ?_); (try (refine gate_guard (by rfl) ?_; dsimp only)); at_builtin; refine Kd.R_append Kd.string (w0 := w) w.heap.size rfl (.tmp 98) (.tmp 103) 31 9 (.string ⟨#[]⟩) 16 rfl Tryd.underlying31 info9 rfl (by decide) (by omega) (.slice (some ad382) x7_1.length co143) x7_1 (rdOf ByteArray.empty y319 1) [.string (rdOf ByteArray.empty y319 1)] (fun k_ => some k_ ≠ (.slice (some ad416) y319.length co12 : Value).ownBlock) (fun _ => False) rfl rfl ?aP (fun _ hk => hk.elim) ?aF ?aO ?aB ?aS ?aL ?_; (case aP => exact rfl); (case aB => exact (by repeat (first | (with_reducible first | exact HB.out | apply below_alloc | apply pw_below_drewN | apply below_drew1) | exact HB.out))); (case aF => exact (fun k_ hk => Kd.fresh' (Kd.R_lt (by (with_reducible repeat (first | apply Kd.R_alloc | apply Kd.R_drewN | apply Kd.R_drew)); exact HO_5.out)) k_ hk)); (case aO => exact (by (with_reducible repeat (first | apply Kd.R_alloc | apply Kd.R_drewN | apply Kd.R_drew)); exact HO_7.out)); (case aS => exact (below_size (by repeat (first | (with_reducible first | exact HB.out | apply below_alloc | apply pw_below_drewN | apply below_drew1) | exact HB.out)))); (case aL => have := LMc142.out; omega); intro v419 w144 ho hb hg hat; rw [← Ny418.out] at ho; have n0_ := Aside0.mk (Kd.R_after (ok := (fun _ => True)) (by (with_reducible repeat (first | apply Kd.R_alloc | apply Kd.R_drewN | apply Kd.R_drew)); exact Kd.R_mono HO_5.out (fun _ hk => ⟨trivial, hk⟩)) hg hat); have n1_ := Aside0.mk (hb); have n2_ := Aside0.mk (ho); clear HO_5; clear HB; clear HO_7; have HO_5 := n0_; have HB := n1_; have HO420 := n2_; clear n0_ n1_ n2_; clear ho hb hg hat))
                                                        repeat (go_quiet (first | ((with_reducible refine gate_builtin (b := .append) (xs := #[.tmp 98, .tmp 103]) rfl ?_); (try (refine gate_guard (by rfl) ?_; dsimp only)); at_builtin; refine Kd.R_append Kd.string (w0 := w) w.heap.size rfl (.tmp 98) (.tmp 103) 31 9 (.string ⟨#[]⟩) 16 rfl Tryd.underlying31 info9 rfl (by decide) (by omega) (.slice (some ad382) x7_1.length co143) x7_1 (rdOf ByteArray.empty y319 1) [.string (rdOf ByteArray.empty y319 1)] (fun k_ => some k_ ≠ (.slice (some ad416) y319.length co12 : Value).ownBlock) (fun _ => False) rfl rfl ?aP (fun _ hk => hk.elim) ?aF ?aO ?aB ?aS ?aL ?_; (case aP => exact rfl); (case aB => exact (by repeat (first | (with_reducible first | exact HB.out | apply below_alloc | apply pw_below_drewN | apply below_drew1) | exact HB.out))); (case aF => exact (fun k_ hk => Kd.fresh' (Kd.R_lt (by (with_reducible repeat (first | apply Kd.R_alloc | apply Kd.R_drewN | apply Kd.R_drew)); exact HO_5.out)) k_ hk)); (case aO => exact (by (with_reducible repeat (first | apply Kd.R_alloc | apply Kd.R_drewN | apply Kd.R_drew)); exact HO_7.out)); (case aS => exact (below_size (by repeat (first | (with_reducible first | exact HB.out | apply below_alloc | apply pw_below_drewN | apply below_drew1) | exact HB.out)))); (case aL => have := LMc142.out; omega); intro v419 w144 ho hb hg hat; rw [← Ny418.out] at ho; have n0_ := Aside0.mk (Kd.R_after (ok := (fun _ => True)) (by (with_reducible repeat (first | apply Kd.R_alloc | apply Kd.R_drewN | apply Kd.R_drew)); exact Kd.R_mono HO_5.out (fun _ hk => ⟨trivial, hk⟩)) hg hat); have n1_ := Aside0.mk (hb); have n2_ := Aside0.mk (ho); clear HO_5; clear HB; clear HO_7; have HO_5 := n0_; have HB := n1_; have HO420 := n2_; clear n0_ n1_ n2_; clear ho hb hg hat)); try go_wp2_with (first | ((with_reducible refine gate_builtin (b := .append) (xs := #[.tmp 98, .tmp 103]) rfl ?_); (try (refine gate_guard (by rfl) ?_; dsimp only)); at_builtin; refine Kd.R_append Kd.string (w0 := w) w.heap.size rfl (.tmp 98) (.tmp 103) 31 9 (.string ⟨#[]⟩) 16 rfl Tryd.underlying31 info9 rfl (by decide) (by omega) (.slice (some ad382) x7_1.length co143) x7_1 (rdOf ByteArray.empty y319 1) [.string (rdOf ByteArray.empty y319 1)] (fun k_ => some k_ ≠ (.slice (some ad416) y319.length co12 : Value).ownBlock) (fun _ => False) rfl rfl ?aP (fun _ hk => hk.elim) ?aF ?aO ?aB ?aS ?aL ?_; (case aP => exact rfl); (case aB => exact (by repeat (first | (with_reducible first | exact HB.out | apply below_alloc | apply pw_below_drewN | apply below_drew1) | exact HB.out))); (case aF => exact (fun k_ hk => Kd.fresh' (Kd.R_lt (by (with_reducible repeat (first | apply Kd.R_alloc | apply Kd.R_drewN | apply Kd.R_drew)); exact HO_5.out)) k_ hk)); (case aO => exact (by (with_reducible repeat (first | apply Kd.R_alloc | apply Kd.R_drewN | apply Kd.R_drew)); exact HO_7.out)); (case aS => exact (below_size (by repeat (first | (with_reducible first | exact HB.out | apply below_alloc | apply pw_below_drewN | apply below_drew1) | exact HB.out)))); (case aL => have := LMc142.out; omega); intro v419 w144 ho hb hg hat; rw [← Ny418.out] at ho; have n0_ := Aside0.mk (Kd.R_after (ok := (fun _ => True)) (by (with_reducible repeat (first | apply Kd.R_alloc | apply Kd.R_drewN | apply Kd.R_drew)); exact Kd.R_mono HO_5.out (fun _ hk => ⟨trivial, hk⟩)) hg hat); have n1_ := Aside0.mk (hb); have n2_ := Aside0.mk (ho); clear HO_5; clear HB; clear HO_7; have HO_5 := n0_; have HB := n1_; have HO420 := n2_; clear n0_ n1_ n2_; clear ho hb hg hat)))
                                                        go_roundg kj15
                                                        case measure => have := HK1.out; have := HJ4.out; have := HJ10.out; have := HJ13.out; have := HJ15.out; omega
                                                        case rel => exact ⟨(x6_1 ++ (rdOf ByteArray.empty y319 1)), (y418), (wrap64 (x8_1 + 1)), (by first | rfl | (simp; done) | (simp [*]; done)), (by first | rfl | (simp; done) | (simp [*]; done)), H', ⟨by have := HK1.out; have := HJ4.out; have := HJ10.out; have := HJ13.out; have := HJ15.out; omega⟩, ⟨by (with_reducible repeat (first | apply Kd.R_alloc | apply Kd.R_drewN | apply Kd.R_drew)); exact Kd.R_mono HO_5.out (fun _ hk => hk.2)⟩, ⟨by (with_reducible repeat (first | apply Kd.R_alloc | apply Kd.R_drewN | apply Kd.R_drew)); exact HO420.out⟩, ⟨by repeat (first | (with_reducible first | exact HB.out | apply below_alloc | apply pw_below_drewN | apply below_drew1) | exact HB.out)⟩⟩
                                                      · rw [if_neg c142] at H
                                                        exact absurd H (by simp)
                                                    · rw [if_neg c141] at H
                                                      exact absurd H (by simp)
                                                  · rw [if_neg c140] at H
                                                    exact absurd H (by simp)
                                                · rw [if_neg c139] at H
                                                  have c139b0 : decide (6 ≤ x9_13) = false := decide_eq_false c139
                                                  clear c139
                                                  by_cases c145 : 0 ≤ x9_13
                                                  · rw [if_pos c145] at H
                                                    have c145b0 : decide (0 ≤ x9_13) = true := decide_eq_true c145
                                                    clear c145
                                                    by_cases c146 : x9_13 < (y319.length : Int)
                                                    · rw [if_pos c146] at H
                                                      have c146b0 : decide (x9_13 < (y319.length : Int)) = true := decide_eq_true c146
                                                      clear c146
                                                      by_cases c147 : x6_1.size + (rdOf ByteArray.empty y319 x9_13).size ≤ 9223372036854775807
                                                      · rw [if_pos c147] at H
                                                        have c147b0 := eq_true c147
                                                        have c147b1 : decide (x6_1.size + (rdOf ByteArray.empty y319 x9_13).size ≤ 9223372036854775807) = true := decide_eq_true c147
                                                        try have c147b2 : (9223372036854775807 < x6_1.size + (rdOf ByteArray.empty y319 x9_13).size) = False := eq_false (Nat.not_lt.2 c147)
                                                        by_cases c148 : x7_1.length < 8796093022208
                                                        · rw [if_pos c148] at H
                                                          have LMc148 := Aside0.mk c148
                                                          clear c148
                                                          obtain ⟨y423, hy423⟩ : ∃ y_ : List ByteArray, y_ = (x7_1 ++ [rdOf ByteArray.empty y319 x9_13]) := ⟨_, rfl⟩
                                                          replace H : (umlautlaw17_LexOps.l0 kj15 l0 true y319 (x6_1 ++ (rdOf ByteArray.empty y319 x9_13)) y423 (wrap64 (x8_1 + 1))) = some r := by first | (rw [hy423]; with_reducible exact H) | (have H2_ := (Option.bind_some _ _).symm.trans H; rw [hy423]; with_reducible exact H2_) | (have H2_ := (Option.bind_some _ _).symm.trans H; with_reducible exact H2_) | with_reducible exact H | (rw [hy423]; exact H) | exact H
                                                          have Ny423 := Aside0.mk hy423
                                                          clear hy423
                                                          have H' := Aside0.mk H
                                                          clear H
                                                          obtain ⟨Ao149, co149, eo149⟩ := Kd.R_slice HO_7.out
                                                          subst eo149
                                                          have p382 : 0 ≤ ((ji96) : Int) := of_decide_eq_true (by first | (with_reducible assumption) | assumption)
                                                          have q382 : (ji96) < (x7_1.length : Int) := of_decide_eq_true (by first | (with_reducible assumption) | assumption)
                                                          obtain ⟨ad382, e382, hx382_0⟩ := Kd.at_string (Kd.R_reads' HO_7.out).2.2 (ji96) p382 q382
                                                          cases e382
                                                          replace p382 := eq_true p382
                                                          replace q382 := eq_true q382
                                                          have p393 : 0 ≤ ((ji96) : Int) := of_decide_eq_true (by first | (with_reducible assumption) | assumption)
                                                          have q393 : (ji96) < (x7_1.length : Int) := of_decide_eq_true (by first | (with_reducible assumption) | assumption)
                                                          obtain ⟨ad393, e393, hx393_0⟩ := Kd.at_string (Kd.R_reads' HO_7.out).2.2 (ji96) p393 q393
                                                          obtain rfl : ad382 = ad393 := (by injection e393)
                                                          replace p393 := eq_true p393
                                                          replace q393 := eq_true q393
                                                          have p404 : 0 ≤ ((ji96) : Int) := of_decide_eq_true (by first | (with_reducible assumption) | assumption)
                                                          have q404 : (ji96) < (x7_1.length : Int) := of_decide_eq_true (by first | (with_reducible assumption) | assumption)
                                                          obtain ⟨ad404, e404, hx404_0⟩ := Kd.at_string (Kd.R_reads' HO_7.out).2.2 (ji96) p404 q404
                                                          obtain rfl : ad382 = ad404 := (by injection e404)
                                                          replace p404 := eq_true p404
                                                          replace q404 := eq_true q404
                                                          have p415 : 0 ≤ ((ji96) : Int) := of_decide_eq_true (by first | (with_reducible assumption) | assumption)
                                                          have q415 : (ji96) < (x7_1.length : Int) := of_decide_eq_true (by first | (with_reducible assumption) | assumption)
                                                          obtain ⟨ad415, e415, hx415_0⟩ := Kd.at_string (Kd.R_reads' HO_7.out).2.2 (ji96) p415 q415
                                                          obtain rfl : ad382 = ad415 := (by injection e415)
                                                          replace p415 := eq_true p415
                                                          replace q415 := eq_true q415
                                                          have p421 : 0 ≤ (x9_13 : Int) := of_decide_eq_true (by first | (with_reducible assumption) | assumption)
                                                          have q421 : x9_13 < (y319.length : Int) := of_decide_eq_true (by first | (with_reducible assumption) | assumption)
                                                          obtain ⟨ad421, e421, hx421_0⟩ := Kd.at_string (Kd.R_reads' HO_5.out).2.2 x9_13 p421 q421
                                                          cases e421
                                                          replace p421 := eq_true p421
                                                          replace q421 := eq_true q421
                                                          have p422 : 0 ≤ (x9_13 : Int) := of_decide_eq_true (by first | (with_reducible assumption) | assumption)
                                                          have q422 : x9_13 < (y319.length : Int) := of_decide_eq_true (by first | (with_reducible assumption) | assumption)
                                                          obtain ⟨ad422, e422, hx422_0⟩ := Kd.at_string (Kd.R_reads' HO_5.out).2.2 x9_13 p422 q422
                                                          obtain rfl : ad421 = ad422 := (by injection e422)
                                                          replace p422 := eq_true p422
                                                          replace q422 := eq_true q422
                                                          go_wp2_with (first | ((with_reducible refine gate_builtin (b := .append) (xs := #[.tmp 98, .tmp 103]) rfl ?_); (try (refine gate_guard (by rfl) ?_; dsimp only)); at_builtin; refine Kd.R_append Kd.string (w0 := w) w.heap.size rfl (.tmp 98) (.tmp 103) 31 9 (.string ⟨#[]⟩) 16 rfl Tryd.underlying31 info9 rfl (by decide) (by omega) (.slice (some ad382) x7_1.length co149) x7_1 (rdOf ByteArray.empty y319 x9_13) [.string (rdOf ByteArray.empty y319 x9_13)] (fun k_ => some k_ ≠ (.slice (some ad421) y319.length co12 : Value).ownBlock) (fun _ => False) rfl rfl ?aP (fun _ hk => hk.elim) ?aF ?aO ?aB ?aS ?aL ?_; (case aP => exact rfl); (case aB => exact (by repeat (first | (with_reducible first | exact HB.out | apply below_alloc | apply pw_below_drewN | apply below_drew1) | exact HB.out))); (case aF => exact (fun k_ hk => Kd.fresh' (Kd.R_lt (by (with_reducible repeat (first | apply Kd.R_alloc | apply Kd.R_drewN | apply Kd.R_drew)); exact HO_5.out)) k_ hk)); (case aO => exact (by (with_reducible repeat (first | apply Kd.R_alloc | apply Kd.R_drewN | apply Kd.R_drew)); exact HO_7.out)); (case aS => exact (below_size (by repeat (first | (with_reducible first | exact HB.out | apply below_alloc | apply pw_below_drewN | apply below_drew1) | exact HB.out)))); (case aL => have := LMc148.out; omega); intro v424 w150 ho hb hg hat; rw [← Ny423.out] at ho; have n0_ := Aside0.mk (Kd.R_after (ok := (fun _ => True)) (by (with_reducible repeat (first | apply Kd.R_alloc | apply Kd.R_drewN | apply Kd.R_drew)); exact Kd.R_mono HO_5.out (fun _ hk => ⟨trivial, hk⟩)) hg hat); have n1_ := Aside0.mk (hb); have n2_ := Aside0.mk (ho); clear HO_5; clear HB; clear HO_7; have HO_5 := n0_; have HB := n1_; have HO425 := n2_; clear n0_ n1_ n2_; clear ho hb hg hat))
                                                          repeat (go_quiet (first | ((with_reducible refine gate_builtin (b := .append) (xs := #[.tmp 98, .tmp 103]) rfl ?_); (try (refine gate_guard (by rfl) ?_; dsimp only)); at_builtin; refine Kd.R_append Kd.string (w0 := w) w.heap.size rfl (.tmp 98) (.tmp 103) 31 9 (.string ⟨#[]⟩) 16 rfl Tryd.underlying31 info9 rfl (by decide) (by omega) (.slice (some ad382) x7_1.length co149) x7_1 (rdOf ByteArray.empty y319 x9_13) [.string (rdOf ByteArray.empty y319 x9_13)] (fun k_ => some k_ ≠ (.slice (some ad421) y319.length co12 : Value).ownBlock) (fun _ => False) rfl rfl ?aP (fun _ hk => hk.elim) ?aF ?aO ?aB ?aS ?aL ?_; (case aP => exact rfl); (case aB => exact (by repeat (first | (with_reducible first | exact HB.out | apply below_alloc | apply pw_below_drewN | apply below_drew1) | exact HB.out))); (case aF => exact (fun k_ hk => Kd.fresh' (Kd.R_lt (by (with_reducible repeat (first | apply Kd.R_alloc | apply Kd.R_drewN | apply Kd.R_drew)); exact HO_5.out)) k_ hk)); (case aO => exact (by (with_reducible repeat (first | apply Kd.R_alloc | apply Kd.R_drewN | apply Kd.R_drew)); exact HO_7.out)); (case aS => exact (below_size (by repeat (first | (with_reducible first | exact HB.out | apply below_alloc | apply pw_below_drewN | apply below_drew1) | exact HB.out)))); (case aL => have := LMc148.out; omega); intro v424 w150 ho hb hg hat; rw [← Ny423.out] at ho; have n0_ := Aside0.mk (Kd.R_after (ok := (fun _ => True)) (by (with_reducible repeat (first | apply Kd.R_alloc | apply Kd.R_drewN | apply Kd.R_drew)); exact Kd.R_mono HO_5.out (fun _ hk => ⟨trivial, hk⟩)) hg hat); have n1_ := Aside0.mk (hb); have n2_ := Aside0.mk (ho); clear HO_5; clear HB; clear HO_7; have HO_5 := n0_; have HB := n1_; have HO425 := n2_; clear n0_ n1_ n2_; clear ho hb hg hat)); try go_wp2_with (first | ((with_reducible refine gate_builtin (b := .append) (xs := #[.tmp 98, .tmp 103]) rfl ?_); (try (refine gate_guard (by rfl) ?_; dsimp only)); at_builtin; refine Kd.R_append Kd.string (w0 := w) w.heap.size rfl (.tmp 98) (.tmp 103) 31 9 (.string ⟨#[]⟩) 16 rfl Tryd.underlying31 info9 rfl (by decide) (by omega) (.slice (some ad382) x7_1.length co149) x7_1 (rdOf ByteArray.empty y319 x9_13) [.string (rdOf ByteArray.empty y319 x9_13)] (fun k_ => some k_ ≠ (.slice (some ad421) y319.length co12 : Value).ownBlock) (fun _ => False) rfl rfl ?aP (fun _ hk => hk.elim) ?aF ?aO ?aB ?aS ?aL ?_; (case aP => exact rfl); (case aB => exact (by repeat (first | (with_reducible first | exact HB.out | apply below_alloc | apply pw_below_drewN | apply below_drew1) | exact HB.out))); (case aF => exact (fun k_ hk => Kd.fresh' (Kd.R_lt (by (with_reducible repeat (first | apply Kd.R_alloc | apply Kd.R_drewN | apply Kd.R_drew)); exact HO_5.out)) k_ hk)); (case aO => exact (by (with_reducible repeat (first | apply Kd.R_alloc | apply Kd.R_drewN | apply Kd.R_drew)); exact HO_7.out)); (case aS => exact (below_size (by repeat (first | (with_reducible first | exact HB.out | apply below_alloc | apply pw_below_drewN | apply below_drew1) | exact HB.out)))); (case aL => have := LMc148.out; omega); intro v424 w150 ho hb hg hat; rw [← Ny423.out] at ho; have n0_ := Aside0.mk (Kd.R_after (ok := (fun _ => True)) (by (with_reducible repeat (first | apply Kd.R_alloc | apply Kd.R_drewN | apply Kd.R_drew)); exact Kd.R_mono HO_5.out (fun _ hk => ⟨trivial, hk⟩)) hg hat); have n1_ := Aside0.mk (hb); have n2_ := Aside0.mk (ho); clear HO_5; clear HB; clear HO_7; have HO_5 := n0_; have HB := n1_; have HO425 := n2_; clear n0_ n1_ n2_; clear ho hb hg hat)))
                                                          go_roundg kj15
                                                          case measure => have := HK1.out; have := HJ4.out; have := HJ10.out; have := HJ13.out; have := HJ15.out; omega
                                                          case rel => exact ⟨(x6_1 ++ (rdOf ByteArray.empty y319 x9_13)), (y423), (wrap64 (x8_1 + 1)), (by first | rfl | (simp; done) | (simp [*]; done)), (by first | rfl | (simp; done) | (simp [*]; done)), H', ⟨by have := HK1.out; have := HJ4.out; have := HJ10.out; have := HJ13.out; have := HJ15.out; omega⟩, ⟨by (with_reducible repeat (first | apply Kd.R_alloc | apply Kd.R_drewN | apply Kd.R_drew)); exact Kd.R_mono HO_5.out (fun _ hk => hk.2)⟩, ⟨by (with_reducible repeat (first | apply Kd.R_alloc | apply Kd.R_drewN | apply Kd.R_drew)); exact HO425.out⟩, ⟨by repeat (first | (with_reducible first | exact HB.out | apply below_alloc | apply pw_below_drewN | apply below_drew1) | exact HB.out)⟩⟩
                                                        · rw [if_neg c148] at H
                                                          exact absurd H (by simp)
                                                      · rw [if_neg c147] at H
                                                        exact absurd H (by simp)
                                                    · rw [if_neg c146] at H
                                                      exact absurd H (by simp)
                                                  · rw [if_neg c145] at H
                                                    exact absurd H (by simp)
                                              · rw [if_neg c138] at H
                                                have c138b0 : ((rdOf ByteArray.empty x7_1 (ji96)).toList == ([124, 124] : List UInt8)) = false := beq_eq_false_iff_ne.mpr c138
                                                have c138b1 : ((rdOf ByteArray.empty x7_1 (ji96)).toList != ([124, 124] : List UInt8)) = true := bne_iff_ne.mpr c138
                                                by_cases c151 : 0 ≤ x9_13
                                                · rw [if_pos c151] at H
                                                  have c151b0 : decide (0 ≤ x9_13) = true := decide_eq_true c151
                                                  clear c151
                                                  by_cases c152 : x9_13 < (y319.length : Int)
                                                  · rw [if_pos c152] at H
                                                    have c152b0 : decide (x9_13 < (y319.length : Int)) = true := decide_eq_true c152
                                                    clear c152
                                                    by_cases c153 : x6_1.size + (rdOf ByteArray.empty y319 x9_13).size ≤ 9223372036854775807
                                                    · rw [if_pos c153] at H
                                                      have c153b0 := eq_true c153
                                                      have c153b1 : decide (x6_1.size + (rdOf ByteArray.empty y319 x9_13).size ≤ 9223372036854775807) = true := decide_eq_true c153
                                                      try have c153b2 : (9223372036854775807 < x6_1.size + (rdOf ByteArray.empty y319 x9_13).size) = False := eq_false (Nat.not_lt.2 c153)
                                                      by_cases c154 : x7_1.length < 8796093022208
                                                      · rw [if_pos c154] at H
                                                        have LMc154 := Aside0.mk c154
                                                        clear c154
                                                        obtain ⟨y428, hy428⟩ : ∃ y_ : List ByteArray, y_ = (x7_1 ++ [rdOf ByteArray.empty y319 x9_13]) := ⟨_, rfl⟩
                                                        replace H : (umlautlaw17_LexOps.l0 kj15 l0 true y319 (x6_1 ++ (rdOf ByteArray.empty y319 x9_13)) y428 (wrap64 (x8_1 + 1))) = some r := by first | (rw [hy428]; with_reducible exact H) | (have H2_ := (Option.bind_some _ _).symm.trans H; rw [hy428]; with_reducible exact H2_) | (have H2_ := (Option.bind_some _ _).symm.trans H; with_reducible exact H2_) | with_reducible exact H | (rw [hy428]; exact H) | exact H
                                                        have Ny428 := Aside0.mk hy428
                                                        clear hy428
                                                        have H' := Aside0.mk H
                                                        clear H
                                                        obtain ⟨Ao155, co155, eo155⟩ := Kd.R_slice HO_7.out
                                                        subst eo155
                                                        have p382 : 0 ≤ ((ji96) : Int) := of_decide_eq_true (by first | (with_reducible assumption) | assumption)
                                                        have q382 : (ji96) < (x7_1.length : Int) := of_decide_eq_true (by first | (with_reducible assumption) | assumption)
                                                        obtain ⟨ad382, e382, hx382_0⟩ := Kd.at_string (Kd.R_reads' HO_7.out).2.2 (ji96) p382 q382
                                                        cases e382
                                                        replace p382 := eq_true p382
                                                        replace q382 := eq_true q382
                                                        have p393 : 0 ≤ ((ji96) : Int) := of_decide_eq_true (by first | (with_reducible assumption) | assumption)
                                                        have q393 : (ji96) < (x7_1.length : Int) := of_decide_eq_true (by first | (with_reducible assumption) | assumption)
                                                        obtain ⟨ad393, e393, hx393_0⟩ := Kd.at_string (Kd.R_reads' HO_7.out).2.2 (ji96) p393 q393
                                                        obtain rfl : ad382 = ad393 := (by injection e393)
                                                        replace p393 := eq_true p393
                                                        replace q393 := eq_true q393
                                                        have p404 : 0 ≤ ((ji96) : Int) := of_decide_eq_true (by first | (with_reducible assumption) | assumption)
                                                        have q404 : (ji96) < (x7_1.length : Int) := of_decide_eq_true (by first | (with_reducible assumption) | assumption)
                                                        obtain ⟨ad404, e404, hx404_0⟩ := Kd.at_string (Kd.R_reads' HO_7.out).2.2 (ji96) p404 q404
                                                        obtain rfl : ad382 = ad404 := (by injection e404)
                                                        replace p404 := eq_true p404
                                                        replace q404 := eq_true q404
                                                        have p415 : 0 ≤ ((ji96) : Int) := of_decide_eq_true (by first | (with_reducible assumption) | assumption)
                                                        have q415 : (ji96) < (x7_1.length : Int) := of_decide_eq_true (by first | (with_reducible assumption) | assumption)
                                                        obtain ⟨ad415, e415, hx415_0⟩ := Kd.at_string (Kd.R_reads' HO_7.out).2.2 (ji96) p415 q415
                                                        obtain rfl : ad382 = ad415 := (by injection e415)
                                                        replace p415 := eq_true p415
                                                        replace q415 := eq_true q415
                                                        have p426 : 0 ≤ (x9_13 : Int) := of_decide_eq_true (by first | (with_reducible assumption) | assumption)
                                                        have q426 : x9_13 < (y319.length : Int) := of_decide_eq_true (by first | (with_reducible assumption) | assumption)
                                                        obtain ⟨ad426, e426, hx426_0⟩ := Kd.at_string (Kd.R_reads' HO_5.out).2.2 x9_13 p426 q426
                                                        cases e426
                                                        replace p426 := eq_true p426
                                                        replace q426 := eq_true q426
                                                        have p427 : 0 ≤ (x9_13 : Int) := of_decide_eq_true (by first | (with_reducible assumption) | assumption)
                                                        have q427 : x9_13 < (y319.length : Int) := of_decide_eq_true (by first | (with_reducible assumption) | assumption)
                                                        obtain ⟨ad427, e427, hx427_0⟩ := Kd.at_string (Kd.R_reads' HO_5.out).2.2 x9_13 p427 q427
                                                        obtain rfl : ad426 = ad427 := (by injection e427)
                                                        replace p427 := eq_true p427
                                                        replace q427 := eq_true q427
                                                        go_wp2_with (first | ((with_reducible refine gate_builtin (b := .append) (xs := #[.tmp 98, .tmp 103]) rfl ?_); (try (refine gate_guard (by rfl) ?_; dsimp only)); at_builtin; refine Kd.R_append Kd.string (w0 := w) w.heap.size rfl (.tmp 98) (.tmp 103) 31 9 (.string ⟨#[]⟩) 16 rfl Tryd.underlying31 info9 rfl (by decide) (by omega) (.slice (some ad382) x7_1.length co155) x7_1 (rdOf ByteArray.empty y319 x9_13) [.string (rdOf ByteArray.empty y319 x9_13)] (fun k_ => some k_ ≠ (.slice (some ad426) y319.length co12 : Value).ownBlock) (fun _ => False) rfl rfl ?aP (fun _ hk => hk.elim) ?aF ?aO ?aB ?aS ?aL ?_; (case aP => exact rfl); (case aB => exact (by repeat (first | (with_reducible first | exact HB.out | apply below_alloc | apply pw_below_drewN | apply below_drew1) | exact HB.out))); (case aF => exact (fun k_ hk => Kd.fresh' (Kd.R_lt (by (with_reducible repeat (first | apply Kd.R_alloc | apply Kd.R_drewN | apply Kd.R_drew)); exact HO_5.out)) k_ hk)); (case aO => exact (by (with_reducible repeat (first | apply Kd.R_alloc | apply Kd.R_drewN | apply Kd.R_drew)); exact HO_7.out)); (case aS => exact (below_size (by repeat (first | (with_reducible first | exact HB.out | apply below_alloc | apply pw_below_drewN | apply below_drew1) | exact HB.out)))); (case aL => have := LMc154.out; omega); intro v429 w156 ho hb hg hat; rw [← Ny428.out] at ho; have n0_ := Aside0.mk (Kd.R_after (ok := (fun _ => True)) (by (with_reducible repeat (first | apply Kd.R_alloc | apply Kd.R_drewN | apply Kd.R_drew)); exact Kd.R_mono HO_5.out (fun _ hk => ⟨trivial, hk⟩)) hg hat); have n1_ := Aside0.mk (hb); have n2_ := Aside0.mk (ho); clear HO_5; clear HB; clear HO_7; have HO_5 := n0_; have HB := n1_; have HO430 := n2_; clear n0_ n1_ n2_; clear ho hb hg hat))
                                                        repeat (go_quiet (first | ((with_reducible refine gate_builtin (b := .append) (xs := #[.tmp 98, .tmp 103]) rfl ?_); (try (refine gate_guard (by rfl) ?_; dsimp only)); at_builtin; refine Kd.R_append Kd.string (w0 := w) w.heap.size rfl (.tmp 98) (.tmp 103) 31 9 (.string ⟨#[]⟩) 16 rfl Tryd.underlying31 info9 rfl (by decide) (by omega) (.slice (some ad382) x7_1.length co155) x7_1 (rdOf ByteArray.empty y319 x9_13) [.string (rdOf ByteArray.empty y319 x9_13)] (fun k_ => some k_ ≠ (.slice (some ad426) y319.length co12 : Value).ownBlock) (fun _ => False) rfl rfl ?aP (fun _ hk => hk.elim) ?aF ?aO ?aB ?aS ?aL ?_; (case aP => exact rfl); (case aB => exact (by repeat (first | (with_reducible first | exact HB.out | apply below_alloc | apply pw_below_drewN | apply below_drew1) | exact HB.out))); (case aF => exact (fun k_ hk => Kd.fresh' (Kd.R_lt (by (with_reducible repeat (first | apply Kd.R_alloc | apply Kd.R_drewN | apply Kd.R_drew)); exact HO_5.out)) k_ hk)); (case aO => exact (by (with_reducible repeat (first | apply Kd.R_alloc | apply Kd.R_drewN | apply Kd.R_drew)); exact HO_7.out)); (case aS => exact (below_size (by repeat (first | (with_reducible first | exact HB.out | apply below_alloc | apply pw_below_drewN | apply below_drew1) | exact HB.out)))); (case aL => have := LMc154.out; omega); intro v429 w156 ho hb hg hat; rw [← Ny428.out] at ho; have n0_ := Aside0.mk (Kd.R_after (ok := (fun _ => True)) (by (with_reducible repeat (first | apply Kd.R_alloc | apply Kd.R_drewN | apply Kd.R_drew)); exact Kd.R_mono HO_5.out (fun _ hk => ⟨trivial, hk⟩)) hg hat); have n1_ := Aside0.mk (hb); have n2_ := Aside0.mk (ho); clear HO_5; clear HB; clear HO_7; have HO_5 := n0_; have HB := n1_; have HO430 := n2_; clear n0_ n1_ n2_; clear ho hb hg hat)); try go_wp2_with (first | ((with_reducible refine gate_builtin (b := .append) (xs := #[.tmp 98, .tmp 103]) rfl ?_); (try (refine gate_guard (by rfl) ?_; dsimp only)); at_builtin; refine Kd.R_append Kd.string (w0 := w) w.heap.size rfl (.tmp 98) (.tmp 103) 31 9 (.string ⟨#[]⟩) 16 rfl Tryd.underlying31 info9 rfl (by decide) (by omega) (.slice (some ad382) x7_1.length co155) x7_1 (rdOf ByteArray.empty y319 x9_13) [.string (rdOf ByteArray.empty y319 x9_13)] (fun k_ => some k_ ≠ (.slice (some ad426) y319.length co12 : Value).ownBlock) (fun _ => False) rfl rfl ?aP (fun _ hk => hk.elim) ?aF ?aO ?aB ?aS ?aL ?_; (case aP => exact rfl); (case aB => exact (by repeat (first | (with_reducible first | exact HB.out | apply below_alloc | apply pw_below_drewN | apply below_drew1) | exact HB.out))); (case aF => exact (fun k_ hk => Kd.fresh' (Kd.R_lt (by (with_reducible repeat (first | apply Kd.R_alloc | apply Kd.R_drewN | apply Kd.R_drew)); exact HO_5.out)) k_ hk)); (case aO => exact (by (with_reducible repeat (first | apply Kd.R_alloc | apply Kd.R_drewN | apply Kd.R_drew)); exact HO_7.out)); (case aS => exact (below_size (by repeat (first | (with_reducible first | exact HB.out | apply below_alloc | apply pw_below_drewN | apply below_drew1) | exact HB.out)))); (case aL => have := LMc154.out; omega); intro v429 w156 ho hb hg hat; rw [← Ny428.out] at ho; have n0_ := Aside0.mk (Kd.R_after (ok := (fun _ => True)) (by (with_reducible repeat (first | apply Kd.R_alloc | apply Kd.R_drewN | apply Kd.R_drew)); exact Kd.R_mono HO_5.out (fun _ hk => ⟨trivial, hk⟩)) hg hat); have n1_ := Aside0.mk (hb); have n2_ := Aside0.mk (ho); clear HO_5; clear HB; clear HO_7; have HO_5 := n0_; have HB := n1_; have HO430 := n2_; clear n0_ n1_ n2_; clear ho hb hg hat)))
                                                        go_roundg kj15
                                                        case measure => have := HK1.out; have := HJ4.out; have := HJ10.out; have := HJ13.out; have := HJ15.out; omega
                                                        case rel => exact ⟨(x6_1 ++ (rdOf ByteArray.empty y319 x9_13)), (y428), (wrap64 (x8_1 + 1)), (by first | rfl | (simp; done) | (simp [*]; done)), (by first | rfl | (simp; done) | (simp [*]; done)), H', ⟨by have := HK1.out; have := HJ4.out; have := HJ10.out; have := HJ13.out; have := HJ15.out; omega⟩, ⟨by (with_reducible repeat (first | apply Kd.R_alloc | apply Kd.R_drewN | apply Kd.R_drew)); exact Kd.R_mono HO_5.out (fun _ hk => hk.2)⟩, ⟨by (with_reducible repeat (first | apply Kd.R_alloc | apply Kd.R_drewN | apply Kd.R_drew)); exact HO430.out⟩, ⟨by repeat (first | (with_reducible first | exact HB.out | apply below_alloc | apply pw_below_drewN | apply below_drew1) | exact HB.out)⟩⟩
                                                      · rw [if_neg c154] at H
                                                        exact absurd H (by simp)
                                                    · rw [if_neg c153] at H
                                                      exact absurd H (by simp)
                                                  · rw [if_neg c152] at H
                                                    exact absurd H (by simp)
                                                · rw [if_neg c151] at H
                                                  exact absurd H (by simp)
                                      · rw [if_neg c98] at H
                                        exact absurd H (by simp)
                                    · rw [if_neg c97] at H
                                      exact absurd H (by simp)
                                  · rw [if_neg c95] at H
                                    have c95b0 : decide (0 < (x7_1.length : Int)) = false := decide_eq_false c95
                                    have c95b1 : decide (0 < x7_1.length) = false := decide_eq_false (by omega)
                                    clear c95
                                    by_cases c157 : 0 ≤ x9_13
                                    · rw [if_pos c157] at H
                                      have c157b0 : decide (0 ≤ x9_13) = true := decide_eq_true c157
                                      clear c157
                                      by_cases c158 : x9_13 < (y319.length : Int)
                                      · rw [if_pos c158] at H
                                        have c158b0 : decide (x9_13 < (y319.length : Int)) = true := decide_eq_true c158
                                        clear c158
                                        by_cases c159 : x6_1.size + (rdOf ByteArray.empty y319 x9_13).size ≤ 9223372036854775807
                                        · rw [if_pos c159] at H
                                          have c159b0 := eq_true c159
                                          have c159b1 : decide (x6_1.size + (rdOf ByteArray.empty y319 x9_13).size ≤ 9223372036854775807) = true := decide_eq_true c159
                                          try have c159b2 : (9223372036854775807 < x6_1.size + (rdOf ByteArray.empty y319 x9_13).size) = False := eq_false (Nat.not_lt.2 c159)
                                          by_cases c160 : x7_1.length < 8796093022208
                                          · rw [if_pos c160] at H
                                            have LMc160 := Aside0.mk c160
                                            clear c160
                                            obtain ⟨y433, hy433⟩ : ∃ y_ : List ByteArray, y_ = (x7_1 ++ [rdOf ByteArray.empty y319 x9_13]) := ⟨_, rfl⟩
                                            replace H : (umlautlaw17_LexOps.l0 kj15 l0 true y319 (x6_1 ++ (rdOf ByteArray.empty y319 x9_13)) y433 (wrap64 (x8_1 + 1))) = some r := by first | (rw [hy433]; with_reducible exact H) | (have H2_ := (Option.bind_some _ _).symm.trans H; rw [hy433]; with_reducible exact H2_) | (have H2_ := (Option.bind_some _ _).symm.trans H; with_reducible exact H2_) | with_reducible exact H | (rw [hy433]; exact H) | exact H
                                            have Ny433 := Aside0.mk hy433
                                            clear hy433
                                            have H' := Aside0.mk H
                                            clear H
                                            obtain ⟨Ao161, co161, eo161⟩ := Kd.R_slice HO_7.out
                                            subst eo161
                                            have p431 : 0 ≤ (x9_13 : Int) := of_decide_eq_true (by first | (with_reducible assumption) | assumption)
                                            have q431 : x9_13 < (y319.length : Int) := of_decide_eq_true (by first | (with_reducible assumption) | assumption)
                                            obtain ⟨ad431, e431, hx431_0⟩ := Kd.at_string (Kd.R_reads' HO_5.out).2.2 x9_13 p431 q431
                                            cases e431
                                            replace p431 := eq_true p431
                                            replace q431 := eq_true q431
                                            have p432 : 0 ≤ (x9_13 : Int) := of_decide_eq_true (by first | (with_reducible assumption) | assumption)
                                            have q432 : x9_13 < (y319.length : Int) := of_decide_eq_true (by first | (with_reducible assumption) | assumption)
                                            obtain ⟨ad432, e432, hx432_0⟩ := Kd.at_string (Kd.R_reads' HO_5.out).2.2 x9_13 p432 q432
                                            obtain rfl : ad431 = ad432 := (by injection e432)
                                            replace p432 := eq_true p432
                                            replace q432 := eq_true q432
                                            go_wp2_with (first | ((with_reducible refine gate_builtin (b := .append) (xs := #[.tmp 98, .tmp 103]) rfl ?_); (try (refine gate_guard (by rfl) ?_; dsimp only)); at_builtin; refine Kd.R_append Kd.string (w0 := w) w.heap.size rfl (.tmp 98) (.tmp 103) 31 9 (.string ⟨#[]⟩) 16 rfl Tryd.underlying31 info9 rfl (by decide) (by omega) (.slice Ao161 x7_1.length co161) x7_1 (rdOf ByteArray.empty y319 x9_13) [.string (rdOf ByteArray.empty y319 x9_13)] (fun k_ => some k_ ≠ (.slice (some ad431) y319.length co12 : Value).ownBlock) (fun _ => False) rfl rfl ?aP (fun _ hk => hk.elim) ?aF ?aO ?aB ?aS ?aL ?_; (case aP => exact rfl); (case aB => exact (by repeat (first | (with_reducible first | exact HB.out | apply below_alloc | apply pw_below_drewN | apply below_drew1) | exact HB.out))); (case aF => exact (fun k_ hk => Kd.fresh' (Kd.R_lt (by (with_reducible repeat (first | apply Kd.R_alloc | apply Kd.R_drewN | apply Kd.R_drew)); exact HO_5.out)) k_ hk)); (case aO => exact (by (with_reducible repeat (first | apply Kd.R_alloc | apply Kd.R_drewN | apply Kd.R_drew)); exact HO_7.out)); (case aS => exact (below_size (by repeat (first | (with_reducible first | exact HB.out | apply below_alloc | apply pw_below_drewN | apply below_drew1) | exact HB.out)))); (case aL => have := LMc160.out; omega); intro v434 w162 ho hb hg hat; rw [← Ny433.out] at ho; have n0_ := Aside0.mk (Kd.R_after (ok := (fun _ => True)) (by (with_reducible repeat (first | apply Kd.R_alloc | apply Kd.R_drewN | apply Kd.R_drew)); exact Kd.R_mono HO_5.out (fun _ hk => ⟨trivial, hk⟩)) hg hat); have n1_ := Aside0.mk (hb); have n2_ := Aside0.mk (ho); clear HO_5; clear HB; clear HO_7; have HO_5 := n0_; have HB := n1_; have HO435 := n2_; clear n0_ n1_ n2_; clear ho hb hg hat))
                                            repeat (go_quiet (first | ((with_reducible refine gate_builtin (b := .append) (xs := #[.tmp 98, .tmp 103]) rfl ?_); (try (refine gate_guard (by rfl) ?_; dsimp only)); at_builtin; refine Kd.R_append Kd.string (w0 := w) w.heap.size rfl (.tmp 98) (.tmp 103) 31 9 (.string ⟨#[]⟩) 16 rfl Tryd.underlying31 info9 rfl (by decide) (by omega) (.slice Ao161 x7_1.length co161) x7_1 (rdOf ByteArray.empty y319 x9_13) [.string (rdOf ByteArray.empty y319 x9_13)] (fun k_ => some k_ ≠ (.slice (some ad431) y319.length co12 : Value).ownBlock) (fun _ => False) rfl rfl ?aP (fun _ hk => hk.elim) ?aF ?aO ?aB ?aS ?aL ?_; (case aP => exact rfl); (case aB => exact (by repeat (first | (with_reducible first | exact HB.out | apply below_alloc | apply pw_below_drewN | apply below_drew1) | exact HB.out))); (case aF => exact (fun k_ hk => Kd.fresh' (Kd.R_lt (by (with_reducible repeat (first | apply Kd.R_alloc | apply Kd.R_drewN | apply Kd.R_drew)); exact HO_5.out)) k_ hk)); (case aO => exact (by (with_reducible repeat (first | apply Kd.R_alloc | apply Kd.R_drewN | apply Kd.R_drew)); exact HO_7.out)); (case aS => exact (below_size (by repeat (first | (with_reducible first | exact HB.out | apply below_alloc | apply pw_below_drewN | apply below_drew1) | exact HB.out)))); (case aL => have := LMc160.out; omega); intro v434 w162 ho hb hg hat; rw [← Ny433.out] at ho; have n0_ := Aside0.mk (Kd.R_after (ok := (fun _ => True)) (by (with_reducible repeat (first | apply Kd.R_alloc | apply Kd.R_drewN | apply Kd.R_drew)); exact Kd.R_mono HO_5.out (fun _ hk => ⟨trivial, hk⟩)) hg hat); have n1_ := Aside0.mk (hb); have n2_ := Aside0.mk (ho); clear HO_5; clear HB; clear HO_7; have HO_5 := n0_; have HB := n1_; have HO435 := n2_; clear n0_ n1_ n2_; clear ho hb hg hat)); try go_wp2_with (first | ((with_reducible refine gate_builtin (b := .append) (xs := #[.tmp 98, .tmp 103]) rfl ?_); (try (refine gate_guard (by rfl) ?_; dsimp only)); at_builtin; refine Kd.R_append Kd.string (w0 := w) w.heap.size rfl (.tmp 98) (.tmp 103) 31 9 (.string ⟨#[]⟩) 16 rfl Tryd.underlying31 info9 rfl (by decide) (by omega) (.slice Ao161 x7_1.length co161) x7_1 (rdOf ByteArray.empty y319 x9_13) [.string (rdOf ByteArray.empty y319 x9_13)] (fun k_ => some k_ ≠ (.slice (some ad431) y319.length co12 : Value).ownBlock) (fun _ => False) rfl rfl ?aP (fun _ hk => hk.elim) ?aF ?aO ?aB ?aS ?aL ?_; (case aP => exact rfl); (case aB => exact (by repeat (first | (with_reducible first | exact HB.out | apply below_alloc | apply pw_below_drewN | apply below_drew1) | exact HB.out))); (case aF => exact (fun k_ hk => Kd.fresh' (Kd.R_lt (by (with_reducible repeat (first | apply Kd.R_alloc | apply Kd.R_drewN | apply Kd.R_drew)); exact HO_5.out)) k_ hk)); (case aO => exact (by (with_reducible repeat (first | apply Kd.R_alloc | apply Kd.R_drewN | apply Kd.R_drew)); exact HO_7.out)); (case aS => exact (below_size (by repeat (first | (with_reducible first | exact HB.out | apply below_alloc | apply pw_below_drewN | apply below_drew1) | exact HB.out)))); (case aL => have := LMc160.out; omega); intro v434 w162 ho hb hg hat; rw [← Ny433.out] at ho; have n0_ := Aside0.mk (Kd.R_after (ok := (fun _ => True)) (by (with_reducible repeat (first | apply Kd.R_alloc | apply Kd.R_drewN | apply Kd.R_drew)); exact Kd.R_mono HO_5.out (fun _ hk => ⟨trivial, hk⟩)) hg hat); have n1_ := Aside0.mk (hb); have n2_ := Aside0.mk (ho); clear HO_5; clear HB; clear HO_7; have HO_5 := n0_; have HB := n1_; have HO435 := n2_; clear n0_ n1_ n2_; clear ho hb hg hat)))
                                            go_roundg kj15
                                            case measure => have := HK1.out; have := HJ4.out; have := HJ10.out; have := HJ13.out; have := HJ15.out; omega
                                            case rel => exact ⟨(x6_1 ++ (rdOf ByteArray.empty y319 x9_13)), (y433), (wrap64 (x8_1 + 1)), (by first | rfl | (simp; done) | (simp [*]; done)), (by first | rfl | (simp; done) | (simp [*]; done)), H', ⟨by have := HK1.out; have := HJ4.out; have := HJ10.out; have := HJ13.out; have := HJ15.out; omega⟩, ⟨by (with_reducible repeat (first | apply Kd.R_alloc | apply Kd.R_drewN | apply Kd.R_drew)); exact Kd.R_mono HO_5.out (fun _ hk => hk.2)⟩, ⟨by (with_reducible repeat (first | apply Kd.R_alloc | apply Kd.R_drewN | apply Kd.R_drew)); exact HO435.out⟩, ⟨by repeat (first | (with_reducible first | exact HB.out | apply below_alloc | apply pw_below_drewN | apply below_drew1) | exact HB.out)⟩⟩
                                          · rw [if_neg c160] at H
                                            exact absurd H (by simp)
                                        · rw [if_neg c159] at H
                                          exact absurd H (by simp)
                                      · rw [if_neg c158] at H
                                        exact absurd H (by simp)
                                    · rw [if_neg c157] at H
                                      exact absurd H (by simp)
                                · replace c94 := Bool.eq_false_iff.mpr c94
                                  subst c94
                                  have H1 : (if 0 ≤ x9_13 then (if x9_13 < (y319.length : Int) then (if x6_1.size + (rdOf ByteArray.empty y319 x9_13).size ≤ 9223372036854775807 then (if x7_1.length < 8796093022208 then (umlautlaw17_LexOps.l0 kj15 l0 false y319 (x6_1 ++ (rdOf ByteArray.empty y319 x9_13)) (x7_1 ++ [rdOf ByteArray.empty y319 x9_13]) (wrap64 (x8_1 + 1))) else (none)) else (none)) else (none)) else (none)) = some r := by rw [if_neg (show ¬ (false = true) by decide)] at H; exact H
                                  clear H
                                  have H := H1
                                  clear H1
                                  by_cases c163 : 0 ≤ x9_13
                                  · rw [if_pos c163] at H
                                    have c163b0 : decide (0 ≤ x9_13) = true := decide_eq_true c163
                                    clear c163
                                    by_cases c164 : x9_13 < (y319.length : Int)
                                    · rw [if_pos c164] at H
                                      have c164b0 : decide (x9_13 < (y319.length : Int)) = true := decide_eq_true c164
                                      clear c164
                                      by_cases c165 : x6_1.size + (rdOf ByteArray.empty y319 x9_13).size ≤ 9223372036854775807
                                      · rw [if_pos c165] at H
                                        have c165b0 := eq_true c165
                                        have c165b1 : decide (x6_1.size + (rdOf ByteArray.empty y319 x9_13).size ≤ 9223372036854775807) = true := decide_eq_true c165
                                        try have c165b2 : (9223372036854775807 < x6_1.size + (rdOf ByteArray.empty y319 x9_13).size) = False := eq_false (Nat.not_lt.2 c165)
                                        by_cases c166 : x7_1.length < 8796093022208
                                        · rw [if_pos c166] at H
                                          have LMc166 := Aside0.mk c166
                                          clear c166
                                          obtain ⟨y438, hy438⟩ : ∃ y_ : List ByteArray, y_ = (x7_1 ++ [rdOf ByteArray.empty y319 x9_13]) := ⟨_, rfl⟩
                                          replace H : (umlautlaw17_LexOps.l0 kj15 l0 false y319 (x6_1 ++ (rdOf ByteArray.empty y319 x9_13)) y438 (wrap64 (x8_1 + 1))) = some r := by first | (rw [hy438]; with_reducible exact H) | (have H2_ := (Option.bind_some _ _).symm.trans H; rw [hy438]; with_reducible exact H2_) | (have H2_ := (Option.bind_some _ _).symm.trans H; with_reducible exact H2_) | with_reducible exact H | (rw [hy438]; exact H) | exact H
                                          have Ny438 := Aside0.mk hy438
                                          clear hy438
                                          have H' := Aside0.mk H
                                          clear H
                                          have p436 : 0 ≤ (x9_13 : Int) := of_decide_eq_true (by first | (with_reducible assumption) | assumption)
                                          have q436 : x9_13 < (y319.length : Int) := of_decide_eq_true (by first | (with_reducible assumption) | assumption)
                                          obtain ⟨ad436, e436, hx436_0⟩ := Kd.at_string (Kd.R_reads' HO_5.out).2.2 x9_13 p436 q436
                                          cases e436
                                          replace p436 := eq_true p436
                                          replace q436 := eq_true q436
                                          have p437 : 0 ≤ (x9_13 : Int) := of_decide_eq_true (by first | (with_reducible assumption) | assumption)
                                          have q437 : x9_13 < (y319.length : Int) := of_decide_eq_true (by first | (with_reducible assumption) | assumption)
                                          obtain ⟨ad437, e437, hx437_0⟩ := Kd.at_string (Kd.R_reads' HO_5.out).2.2 x9_13 p437 q437
                                          obtain rfl : ad436 = ad437 := (by injection e437)
                                          replace p437 := eq_true p437
                                          replace q437 := eq_true q437
                                          go_wp2_with (first | ((with_reducible refine gate_builtin (b := .append) (xs := #[.tmp 98, .tmp 103]) rfl ?_); (try (refine gate_guard (by rfl) ?_; dsimp only)); at_builtin; refine Kd.R_append Kd.string (w0 := w) w.heap.size rfl (.tmp 98) (.tmp 103) 31 9 (.string ⟨#[]⟩) 16 rfl Tryd.underlying31 info9 rfl (by decide) (by omega) u7 x7_1 (rdOf ByteArray.empty y319 x9_13) [.string (rdOf ByteArray.empty y319 x9_13)] (fun k_ => some k_ ≠ (.slice (some ad436) y319.length co12 : Value).ownBlock) (fun _ => False) rfl rfl ?aP (fun _ hk => hk.elim) ?aF ?aO ?aB ?aS ?aL ?_; (case aP => exact rfl); (case aB => exact (by repeat (first | (with_reducible first | exact HB.out | apply below_alloc | apply pw_below_drewN | apply below_drew1) | exact HB.out))); (case aF => exact (fun k_ hk => Kd.fresh' (Kd.R_lt (by (with_reducible repeat (first | apply Kd.R_alloc | apply Kd.R_drewN | apply Kd.R_drew)); exact HO_5.out)) k_ hk)); (case aO => exact (by (with_reducible repeat (first | apply Kd.R_alloc | apply Kd.R_drewN | apply Kd.R_drew)); exact HO_7.out)); (case aS => exact (below_size (by repeat (first | (with_reducible first | exact HB.out | apply below_alloc | apply pw_below_drewN | apply below_drew1) | exact HB.out)))); (case aL => have := LMc166.out; omega); intro v439 w167 ho hb hg hat; rw [← Ny438.out] at ho; have n0_ := Aside0.mk (Kd.R_after (ok := (fun _ => True)) (by (with_reducible repeat (first | apply Kd.R_alloc | apply Kd.R_drewN | apply Kd.R_drew)); exact Kd.R_mono HO_5.out (fun _ hk => ⟨trivial, hk⟩)) hg hat); have n1_ := Aside0.mk (hb); have n2_ := Aside0.mk (ho); clear HO_5; clear HB; clear HO_7; have HO_5 := n0_; have HB := n1_; have HO440 := n2_; clear n0_ n1_ n2_; clear ho hb hg hat))
                                          repeat (go_quiet (first | ((with_reducible refine gate_builtin (b := .append) (xs := #[.tmp 98, .tmp 103]) rfl ?_); (try (refine gate_guard (by rfl) ?_; dsimp only)); at_builtin; refine Kd.R_append Kd.string (w0 := w) w.heap.size rfl (.tmp 98) (.tmp 103) 31 9 (.string ⟨#[]⟩) 16 rfl Tryd.underlying31 info9 rfl (by decide) (by omega) u7 x7_1 (rdOf ByteArray.empty y319 x9_13) [.string (rdOf ByteArray.empty y319 x9_13)] (fun k_ => some k_ ≠ (.slice (some ad436) y319.length co12 : Value).ownBlock) (fun _ => False) rfl rfl ?aP (fun _ hk => hk.elim) ?aF ?aO ?aB ?aS ?aL ?_; (case aP => exact rfl); (case aB => exact (by repeat (first | (with_reducible first | exact HB.out | apply below_alloc | apply pw_below_drewN | apply below_drew1) | exact HB.out))); (case aF => exact (fun k_ hk => Kd.fresh' (Kd.R_lt (by (with_reducible repeat (first | apply Kd.R_alloc | apply Kd.R_drewN | apply Kd.R_drew)); exact HO_5.out)) k_ hk)); (case aO => exact (by (with_reducible repeat (first | apply Kd.R_alloc | apply Kd.R_drewN | apply Kd.R_drew)); exact HO_7.out)); (case aS => exact (below_size (by repeat (first | (with_reducible first | exact HB.out | apply below_alloc | apply pw_below_drewN | apply below_drew1) | exact HB.out)))); (case aL => have := LMc166.out; omega); intro v439 w167 ho hb hg hat; rw [← Ny438.out] at ho; have n0_ := Aside0.mk (Kd.R_after (ok := (fun _ => True)) (by (with_reducible repeat (first | apply Kd.R_alloc | apply Kd.R_drewN | apply Kd.R_drew)); exact Kd.R_mono HO_5.out (fun _ hk => ⟨trivial, hk⟩)) hg hat); have n1_ := Aside0.mk (hb); have n2_ := Aside0.mk (ho); clear HO_5; clear HB; clear HO_7; have HO_5 := n0_; have HB := n1_; have HO440 := n2_; clear n0_ n1_ n2_; clear ho hb hg hat)); try go_wp2_with (first | ((with_reducible refine gate_builtin (b := .append) (xs := #[.tmp 98, .tmp 103]) rfl ?_); (try (refine gate_guard (by rfl) ?_; dsimp only)); at_builtin; refine Kd.R_append Kd.string (w0 := w) w.heap.size rfl (.tmp 98) (.tmp 103) 31 9 (.string ⟨#[]⟩) 16 rfl Tryd.underlying31 info9 rfl (by decide) (by omega) u7 x7_1 (rdOf ByteArray.empty y319 x9_13) [.string (rdOf ByteArray.empty y319 x9_13)] (fun k_ => some k_ ≠ (.slice (some ad436) y319.length co12 : Value).ownBlock) (fun _ => False) rfl rfl ?aP (fun _ hk => hk.elim) ?aF ?aO ?aB ?aS ?aL ?_; (case aP => exact rfl); (case aB => exact (by repeat (first | (with_reducible first | exact HB.out | apply below_alloc | apply pw_below_drewN | apply below_drew1) | exact HB.out))); (case aF => exact (fun k_ hk => Kd.fresh' (Kd.R_lt (by (with_reducible repeat (first | apply Kd.R_alloc | apply Kd.R_drewN | apply Kd.R_drew)); exact HO_5.out)) k_ hk)); (case aO => exact (by (with_reducible repeat (first | apply Kd.R_alloc | apply Kd.R_drewN | apply Kd.R_drew)); exact HO_7.out)); (case aS => exact (below_size (by repeat (first | (with_reducible first | exact HB.out | apply below_alloc | apply pw_below_drewN | apply below_drew1) | exact HB.out)))); (case aL => have := LMc166.out; omega); intro v439 w167 ho hb hg hat; rw [← Ny438.out] at ho; have n0_ := Aside0.mk (Kd.R_after (ok := (fun _ => True)) (by (with_reducible repeat (first | apply Kd.R_alloc | apply Kd.R_drewN | apply Kd.R_drew)); exact Kd.R_mono HO_5.out (fun _ hk => ⟨trivial, hk⟩)) hg hat); have n1_ := Aside0.mk (hb); have n2_ := Aside0.mk (ho); clear HO_5; clear HB; clear HO_7; have HO_5 := n0_; have HB := n1_; have HO440 := n2_; clear n0_ n1_ n2_; clear ho hb hg hat)))
                                          go_roundg kj15
                                          case measure => have := HK1.out; have := HJ4.out; have := HJ10.out; have := HJ13.out; have := HJ15.out; omega
                                          case rel => exact ⟨(x6_1 ++ (rdOf ByteArray.empty y319 x9_13)), (y438), (wrap64 (x8_1 + 1)), (by first | rfl | (simp; done) | (simp [*]; done)), (by first | rfl | (simp; done) | (simp [*]; done)), H', ⟨by have := HK1.out; have := HJ4.out; have := HJ10.out; have := HJ13.out; have := HJ15.out; omega⟩, ⟨by (with_reducible repeat (first | apply Kd.R_alloc | apply Kd.R_drewN | apply Kd.R_drew)); exact Kd.R_mono HO_5.out (fun _ hk => hk.2)⟩, ⟨by (with_reducible repeat (first | apply Kd.R_alloc | apply Kd.R_drewN | apply Kd.R_drew)); exact HO440.out⟩, ⟨by repeat (first | (with_reducible first | exact HB.out | apply below_alloc | apply pw_below_drewN | apply below_drew1) | exact HB.out)⟩⟩
                                        · rw [if_neg c166] at H
                                          exact absurd H (by simp)
                                      · rw [if_neg c165] at H
                                        exact absurd H (by simp)
                                    · rw [if_neg c164] at H
                                      exact absurd H (by simp)
                                  · rw [if_neg c163] at H
                                    exact absurd H (by simp)
              · rw [if_neg c9] at H
                exact absurd H (by simp)
            · rw [if_neg c8] at H
              exact absurd H (by simp)
          · replace c7 := Bool.eq_false_iff.mpr c7
            subst c7
            have H1 : ((lex_Tokens.f kj4 x6_1).bind fun bt441 => (if bt441.2.2 = 0 then (umlautlaw17_LexOps.j5 kj4 x7_1 bt441.1 ((bt441.1.length : Int) != (x7_1.length : Int))) else (umlautlaw17_LexOps.j5 kj4 x7_1 bt441.1 true))) = some r := by rw [if_neg (show ¬ (false = true) by decide)] at H; exact H
            clear H
            have H := H1
            clear H1
            replace H := Option.bind_eq_some_iff.mp H
            obtain ⟨⟨t441, t442, t443⟩, A1680, H⟩ := H
            replace H : (if t443 = 0 then (umlautlaw17_LexOps.j5 kj4 x7_1 t441 ((t441.length : Int) != (x7_1.length : Int))) else (umlautlaw17_LexOps.j5 kj4 x7_1 t441 true)) = some r := H
            have A168 := Aside0.mk A1680
            clear A1680
            have HC169 := Aside0.mk H
            clear H
            go_upto_region 17 with (first | (go_at_call 10; (with_reducible refine (lex_Tokens.calls kj4 x6_1 t441 t442 t443 _ ?hwd66 A168.out).mono ?_); (case hwd66 => exact Wd.below hgw (by repeat (first | (with_reducible first | exact HB.out | apply below_alloc | apply pw_below_drewN | apply below_drew1) | exact HB.out))); rintro e w170 ⟨v444, rfl, ho0, hb⟩; have n0_ := Aside0.mk (Kd.R_below (by (with_reducible repeat (first | apply Kd.R_alloc | apply Kd.R_drewN | apply Kd.R_drew)); exact HO_5.out) hb); have n1_ := Aside0.mk (Kd.R_below (by (with_reducible repeat (first | apply Kd.R_alloc | apply Kd.R_drewN | apply Kd.R_drew)); exact HO_7.out) hb); have n2_ := Aside0.mk (Kd.R_lower ho0 (below_size (by repeat (first | (with_reducible first | exact HB.out | apply below_alloc | apply pw_below_drewN | apply below_drew1) | exact HB.out)))); have n3_ := Aside0.mk (below_step (by repeat (first | (with_reducible first | exact HB.out | apply below_alloc | apply pw_below_drewN | apply below_drew1) | exact HB.out)) hb); clear HO_5; clear HO_7; clear HB; have HO_5 := n0_; have HO_7 := n1_; have HO445 := n2_; have HB := n3_; clear n0_ n1_ n2_ n3_; (try clear hb); (try clear hb2); (try clear hk); (try clear hi); (try clear ho0)))
            repeat (go_quiet (first | (go_at_call 10; (with_reducible refine (lex_Tokens.calls kj4 x6_1 t441 t442 t443 _ ?hwd67 A168.out).mono ?_); (case hwd67 => exact Wd.below hgw (by repeat (first | (with_reducible first | exact HB.out | apply below_alloc | apply pw_below_drewN | apply below_drew1) | exact HB.out))); rintro e w170 ⟨v444, rfl, ho0, hb⟩; have n0_ := Aside0.mk (Kd.R_below (by (with_reducible repeat (first | apply Kd.R_alloc | apply Kd.R_drewN | apply Kd.R_drew)); exact HO_5.out) hb); have n1_ := Aside0.mk (Kd.R_below (by (with_reducible repeat (first | apply Kd.R_alloc | apply Kd.R_drewN | apply Kd.R_drew)); exact HO_7.out) hb); have n2_ := Aside0.mk (Kd.R_lower ho0 (below_size (by repeat (first | (with_reducible first | exact HB.out | apply below_alloc | apply pw_below_drewN | apply below_drew1) | exact HB.out)))); have n3_ := Aside0.mk (below_step (by repeat (first | (with_reducible first | exact HB.out | apply below_alloc | apply pw_below_drewN | apply below_drew1) | exact HB.out)) hb); clear HO_5; clear HO_7; clear HB; have HO_5 := n0_; have HO_7 := n1_; have HO445 := n2_; have HB := n3_; clear n0_ n1_ n2_ n3_; (try clear hb); (try clear hb2); (try clear hk); (try clear hi); (try clear ho0))); go_upto_region 17 with (first | (go_at_call 10; (with_reducible refine (lex_Tokens.calls kj4 x6_1 t441 t442 t443 _ ?hwd68 A168.out).mono ?_); (case hwd68 => exact Wd.below hgw (by repeat (first | (with_reducible first | exact HB.out | apply below_alloc | apply pw_below_drewN | apply below_drew1) | exact HB.out))); rintro e w170 ⟨v444, rfl, ho0, hb⟩; have n0_ := Aside0.mk (Kd.R_below (by (with_reducible repeat (first | apply Kd.R_alloc | apply Kd.R_drewN | apply Kd.R_drew)); exact HO_5.out) hb); have n1_ := Aside0.mk (Kd.R_below (by (with_reducible repeat (first | apply Kd.R_alloc | apply Kd.R_drewN | apply Kd.R_drew)); exact HO_7.out) hb); have n2_ := Aside0.mk (Kd.R_lower ho0 (below_size (by repeat (first | (with_reducible first | exact HB.out | apply below_alloc | apply pw_below_drewN | apply below_drew1) | exact HB.out)))); have n3_ := Aside0.mk (below_step (by repeat (first | (with_reducible first | exact HB.out | apply below_alloc | apply pw_below_drewN | apply below_drew1) | exact HB.out)) hb); clear HO_5; clear HO_7; clear HB; have HO_5 := n0_; have HO_7 := n1_; have HO445 := n2_; have HB := n3_; clear n0_ n1_ n2_ n3_; (try clear hb); (try clear hb2); (try clear hk); (try clear hi); (try clear ho0))))
            (try simp only [Act.put, List.setIfInBounds_toArray, List.set_cons_zero, List.set_cons_succ])
            go_cut [119] (fun v119 wc => ∃ (kq : Nat) (x119_168 : Bool), v119 = .bool x119_168 ∧ Aside0 (umlautlaw17_LexOps.j5 kq x7_1 t441 x119_168 = some r) ∧ Aside0 (kq ≤ kj4) ∧ Aside0 (Kd.R Kd.string 9 wc w.heap.size (fun _ => True) u7 x7_1) ∧ Aside0 (Kd.R k28 28 wc w.heap.size (fun _ => True) v444 t441) ∧ Aside0 (Below w.heap.size w wc))
            case first =>
              have H := HC169.out
              clear HC169
              by_cases c171 : t443 = 0
              · rw [if_pos c171] at H
                have c171b0 : (t443 == 0) = true := beq_iff_eq.mpr c171
                have c171b1 : (t443 != 0) = false := bne_eq_false_iff_eq.mpr c171
                clear c171
                (first | rw [c171b0] | (simp only [i64_w, i32_w]; rw [c171b0]) | skip)
                have H' := Aside0.mk H
                clear H
                obtain ⟨Ao172, co172, eo172⟩ := Kd.R_slice HO445.out
                subst eo172
                obtain ⟨Ao173, co173, eo173⟩ := Kd.R_slice HO_7.out
                subst eo173
                go_wp2
                repeat (go_quiet (fail); try go_wp2)
                go_meet
                case rel => exact ⟨_, (((t441.length : Int) != (x7_1.length : Int))), (by first | rfl | (simp; done) | (simp [*]; done)), H', ⟨by have := HK1.out; have := HJ4.out; first | omega | exact Nat.le_refl _⟩, ⟨by (with_reducible repeat (first | apply Kd.R_alloc | apply Kd.R_drewN | apply Kd.R_drew)); exact Kd.R_mono HO_7.out (fun _ hk => trivial)⟩, ⟨by (with_reducible repeat (first | apply Kd.R_alloc | apply Kd.R_drewN | apply Kd.R_drew)); exact HO445.out⟩, ⟨by repeat (first | (with_reducible first | exact HB.out | apply below_alloc | apply pw_below_drewN | apply below_drew1) | exact HB.out)⟩⟩
              · rw [if_neg c171] at H
                have c171b0 : (t443 == 0) = false := beq_eq_false_iff_ne.mpr c171
                have c171b1 : (t443 != 0) = true := bne_iff_ne.mpr c171
                (first | rw [c171b0] | (simp only [i64_w, i32_w]; rw [c171b0]) | skip)
                have H' := Aside0.mk H
                clear H
                go_wp2
                repeat (go_quiet (fail); try go_wp2)
                go_meet
                case rel => exact ⟨_, (true), (by first | rfl | (simp; done) | (simp [*]; done)), H', ⟨by have := HK1.out; have := HJ4.out; first | omega | exact Nat.le_refl _⟩, ⟨by (with_reducible repeat (first | apply Kd.R_alloc | apply Kd.R_drewN | apply Kd.R_drew)); exact Kd.R_mono HO_7.out (fun _ hk => trivial)⟩, ⟨by (with_reducible repeat (first | apply Kd.R_alloc | apply Kd.R_drewN | apply Kd.R_drew)); exact HO445.out⟩, ⟨by repeat (first | (with_reducible first | exact HB.out | apply below_alloc | apply pw_below_drewN | apply below_drew1) | exact HB.out)⟩⟩
            case rest =>
              clear HC169
              try clear c1
              try clear p2
              try clear p3
              try clear q3
              try clear hx3
              try clear p4
              try clear q4
              try clear hx4
              try clear qi4
              try clear p6
              try clear c7
              try clear c8
              try clear c9
              try clear c11
              try clear c12
              try clear c13
              try clear c14
              try clear c15
              try clear c16
              try clear c17
              try clear p38
              try clear q38
              try clear hx38
              try clear p39
              try clear q39
              try clear hx39
              try clear p40
              try clear q40
              try clear hx40
              try clear qi40
              try clear p41
              try clear q41
              try clear hx41
              try clear qi41
              try clear p42
              try clear q42
              try clear hx42
              try clear p43
              try clear q43
              try clear hx43
              try clear p64
              try clear c94
              try clear c95
              try clear c95b0
              try clear c95b1
              try clear c97
              try clear c98
              try clear c112
              try clear c112b0
              try clear c112b1
              try clear c119
              try clear c120
              try clear c121
              try clear c122
              try clear c125
              try clear c125b0
              try clear c125b1
              try clear c126
              try clear c126b0
              try clear c127
              try clear c127b0
              try clear c127b1
              try clear c128
              try clear c128b0
              try clear c128b1
              try clear c128b2
              try clear c129
              try clear c132
              try clear c132b0
              try clear c133
              try clear c133b0
              try clear c134
              try clear c134b0
              try clear c134b1
              try clear c134b2
              try clear c135
              try clear c138
              try clear c138b0
              try clear c138b1
              try clear c139
              try clear c139b0
              try clear c140
              try clear c140b0
              try clear c140b1
              try clear c141
              try clear c141b0
              try clear c141b1
              try clear c141b2
              try clear c142
              try clear c145
              try clear c145b0
              try clear c146
              try clear c146b0
              try clear c147
              try clear c147b0
              try clear c147b1
              try clear c147b2
              try clear c148
              try clear c151
              try clear c151b0
              try clear c152
              try clear c152b0
              try clear c153
              try clear c153b0
              try clear c153b1
              try clear c153b2
              try clear c154
              try clear c157
              try clear c157b0
              try clear c158
              try clear c158b0
              try clear c159
              try clear c159b0
              try clear c159b1
              try clear c159b2
              try clear c160
              try clear c163
              try clear c163b0
              try clear c164
              try clear c164b0
              try clear c165
              try clear c165b0
              try clear c165b1
              try clear c165b2
              try clear c166
              try clear c171
              try clear c171b0
              try clear c171b1
              try clear hx382_0
              try clear hx393_0
              try clear hx399_0
              try clear hx400_0
              try clear hx404_0
              try clear hx405_0
              try clear hx406_0
              try clear hx410_0
              try clear hx411_0
              try clear hx415_0
              try clear hx416_0
              try clear hx417_0
              try clear hx421_0
              try clear hx422_0
              try clear hx426_0
              try clear hx427_0
              try clear hx431_0
              try clear hx432_0
              try clear hx436_0
              try clear hx437_0
              try clear p382
              try clear p393
              try clear p399
              try clear p400
              try clear p404
              try clear p405
              try clear p406
              try clear p410
              try clear p411
              try clear p415
              try clear p416
              try clear p417
              try clear p421
              try clear p422
              try clear p426
              try clear p427
              try clear p431
              try clear p432
              try clear p436
              try clear p437
              try clear q382
              try clear q393
              try clear q399
              try clear q400
              try clear q404
              try clear q405
              try clear q406
              try clear q410
              try clear q411
              try clear q415
              try clear q416
              try clear q417
              try clear q421
              try clear q422
              try clear q426
              try clear q427
              try clear q431
              try clear q432
              try clear q436
              try clear q437
              obtain ⟨kq, x119_168, rfl, HA, HJ168, HO_7, HO_10, HB⟩ := hcut
              cases kq with
              | zero => exact absurd HA.out (by simp [umlautlaw17_LexOps.j5])
              | succ kj168 =>
                have H := HA.out
                clear HA
                simp only [umlautlaw17_LexOps.j5] at H
                by_cases c174 : x119_168 = true
                · subst c174
                  have H1 : (some false) = some r := by rw [if_pos rfl] at H; exact H
                  clear H
                  have H := H1
                  clear H1
                  obtain rfl := Option.some.inj H
                  go_wp2
                  repeat (go_quiet (fail); try go_wp2)
                  go_ret
                  exact ⟨by first | rfl | (simp [errW_none, errW_some] <;> rfl) | (simp [*, errW_none, errW_some] <;> rfl), by repeat (first | (with_reducible first | exact HB.out | apply below_alloc | apply pw_below_drewN | apply below_drew1) | exact HB.out)⟩
                · replace c174 := Bool.eq_false_iff.mpr c174
                  subst c174
                  have H1 : (umlautlaw17_LexOps.l1 kj168 x7_1 t441 0) = some r := by rw [if_neg (show ¬ (false = true) by decide)] at H; exact H
                  clear H
                  have H := H1
                  clear H1
                  have H' := Aside0.mk H
                  clear H
                  go_wp2
                  repeat (go_quiet (fail); try go_wp2)
                  go_loopg [13] kj168 (fun kq v13 w' => ∃ (x13_4 : Int), v13 = .int .i64 x13_4 ∧ Aside0 (umlautlaw17_LexOps.l1 kq x7_1 t441 x13_4 = some r) ∧ Aside0 (kq ≤ kj168) ∧ Aside0 (Kd.R Kd.string 9 w' w.heap.size (fun _ => True) u7 x7_1) ∧ Aside0 (Kd.R k28 28 w' w.heap.size (fun _ => True) v444 t441) ∧ Aside0 (Below w.heap.size w w'))
                  case atStart => exact ⟨(0), (by first | rfl | (simp; done) | (simp [*]; done)), H', ⟨Nat.le_refl _⟩, ⟨by (with_reducible repeat (first | apply Kd.R_alloc | apply Kd.R_drewN | apply Kd.R_drew)); exact HO_7.out⟩, ⟨by (with_reducible repeat (first | apply Kd.R_alloc | apply Kd.R_drewN | apply Kd.R_drew)); exact HO_10.out⟩, ⟨by repeat (first | (with_reducible first | exact HB.out | apply below_alloc | apply pw_below_drewN | apply below_drew1) | exact HB.out)⟩⟩
                  case round =>
                    clear H'
                    try clear c1
                    try clear p2
                    try clear p3
                    try clear q3
                    try clear hx3
                    try clear p4
                    try clear q4
                    try clear hx4
                    try clear qi4
                    try clear p6
                    try clear c7
                    try clear c8
                    try clear c9
                    try clear c11
                    try clear c12
                    try clear c13
                    try clear c14
                    try clear c15
                    try clear c16
                    try clear c17
                    try clear p38
                    try clear q38
                    try clear hx38
                    try clear p39
                    try clear q39
                    try clear hx39
                    try clear p40
                    try clear q40
                    try clear hx40
                    try clear qi40
                    try clear p41
                    try clear q41
                    try clear hx41
                    try clear qi41
                    try clear p42
                    try clear q42
                    try clear hx42
                    try clear p43
                    try clear q43
                    try clear hx43
                    try clear p64
                    try clear c94
                    try clear c95
                    try clear c95b0
                    try clear c95b1
                    try clear c97
                    try clear c98
                    try clear c112
                    try clear c112b0
                    try clear c112b1
                    try clear c119
                    try clear c120
                    try clear c121
                    try clear c122
                    try clear c125
                    try clear c125b0
                    try clear c125b1
                    try clear c126
                    try clear c126b0
                    try clear c127
                    try clear c127b0
                    try clear c127b1
                    try clear c128
                    try clear c128b0
                    try clear c128b1
                    try clear c128b2
                    try clear c129
                    try clear c132
                    try clear c132b0
                    try clear c133
                    try clear c133b0
                    try clear c134
                    try clear c134b0
                    try clear c134b1
                    try clear c134b2
                    try clear c135
                    try clear c138
                    try clear c138b0
                    try clear c138b1
                    try clear c139
                    try clear c139b0
                    try clear c140
                    try clear c140b0
                    try clear c140b1
                    try clear c141
                    try clear c141b0
                    try clear c141b1
                    try clear c141b2
                    try clear c142
                    try clear c145
                    try clear c145b0
                    try clear c146
                    try clear c146b0
                    try clear c147
                    try clear c147b0
                    try clear c147b1
                    try clear c147b2
                    try clear c148
                    try clear c151
                    try clear c151b0
                    try clear c152
                    try clear c152b0
                    try clear c153
                    try clear c153b0
                    try clear c153b1
                    try clear c153b2
                    try clear c154
                    try clear c157
                    try clear c157b0
                    try clear c158
                    try clear c158b0
                    try clear c159
                    try clear c159b0
                    try clear c159b1
                    try clear c159b2
                    try clear c160
                    try clear c163
                    try clear c163b0
                    try clear c164
                    try clear c164b0
                    try clear c165
                    try clear c165b0
                    try clear c165b1
                    try clear c165b2
                    try clear c166
                    try clear c171
                    try clear c171b0
                    try clear c171b1
                    try clear c174
                    try clear hx382_0
                    try clear hx393_0
                    try clear hx399_0
                    try clear hx400_0
                    try clear hx404_0
                    try clear hx405_0
                    try clear hx406_0
                    try clear hx410_0
                    try clear hx411_0
                    try clear hx415_0
                    try clear hx416_0
                    try clear hx417_0
                    try clear hx421_0
                    try clear hx422_0
                    try clear hx426_0
                    try clear hx427_0
                    try clear hx431_0
                    try clear hx432_0
                    try clear hx436_0
                    try clear hx437_0
                    try clear p2
                    try clear p3
                    try clear p38
                    try clear p382
                    try clear p39
                    try clear p393
                    try clear p399
                    try clear p4
                    try clear p40
                    try clear p400
                    try clear p404
                    try clear p405
                    try clear p406
                    try clear p41
                    try clear p410
                    try clear p411
                    try clear p415
                    try clear p416
                    try clear p417
                    try clear p42
                    try clear p421
                    try clear p422
                    try clear p426
                    try clear p427
                    try clear p43
                    try clear p431
                    try clear p432
                    try clear p436
                    try clear p437
                    try clear p6
                    try clear p64
                    try clear q3
                    try clear q38
                    try clear q382
                    try clear q39
                    try clear q393
                    try clear q399
                    try clear q4
                    try clear q40
                    try clear q400
                    try clear q404
                    try clear q405
                    try clear q406
                    try clear q41
                    try clear q410
                    try clear q411
                    try clear q415
                    try clear q416
                    try clear q417
                    try clear q42
                    try clear q421
                    try clear q422
                    try clear q426
                    try clear q427
                    try clear q43
                    try clear q431
                    try clear q432
                    try clear q436
                    try clear q437
                    obtain ⟨x13_4, rfl, HA, HK4, HO_7, HO_10, HB⟩ := hrel
                    cases gk with
                    | zero => exact absurd HA.out (by simp [umlautlaw17_LexOps.l1])
                    | succ k4 =>
                      have H := HA.out
                      clear HA
                      simp only [umlautlaw17_LexOps.l1] at H
                      by_cases c175 : x13_4 < (t441.length : Int)
                      · rw [if_pos c175] at H
                        have c175b0 : decide (x13_4 < (t441.length : Int)) = true := decide_eq_true c175
                        clear c175
                        by_cases c176 : 0 ≤ x13_4
                        · rw [if_pos c176] at H
                          have c176b0 : decide (0 ≤ x13_4) = true := decide_eq_true c176
                          clear c176
                          by_cases c177 : ((rd_T28 t441 x13_4).f0) = 5
                          · rw [if_pos c177] at H
                            have c177b0 : (((rd_T28 t441 x13_4).f0) == 5) = true := beq_iff_eq.mpr c177
                            have c177b1 : (((rd_T28 t441 x13_4).f0) != 5) = false := bne_eq_false_iff_eq.mpr c177
                            clear c177
                            by_cases c178 : x13_4 < (x7_1.length : Int)
                            · rw [if_pos c178] at H
                              have c178b0 : decide (x13_4 < (x7_1.length : Int)) = true := decide_eq_true c178
                              clear c178
                              by_cases c179 : ((rd_T28 t441 x13_4).f1).toList = (rdOf ByteArray.empty x7_1 x13_4).toList
                              · rw [if_pos c179] at H
                                have c179b0 : (((rd_T28 t441 x13_4).f1).toList == (rdOf ByteArray.empty x7_1 x13_4).toList) = true := beq_iff_eq.mpr c179
                                have c179b1 : (((rd_T28 t441 x13_4).f1).toList != (rdOf ByteArray.empty x7_1 x13_4).toList) = false := bne_eq_false_iff_eq.mpr c179
                                clear c179
                                have H' := Aside0.mk H
                                clear H
                                obtain ⟨Ao180, co180, eo180⟩ := Kd.R_slice HO_10.out
                                subst eo180
                                have p446 : 0 ≤ (x13_4 : Int) := of_decide_eq_true (by first | (with_reducible assumption) | assumption)
                                have q446 : x13_4 < (t441.length : Int) := of_decide_eq_true (by first | (with_reducible assumption) | assumption)
                                obtain ⟨ad446, e446, hx446_0, hx446_1, hx446_2, hx446_3⟩ := at_T28 (Kd.R_reads' HO_10.out).2.2 x13_4 p446 q446
                                cases e446
                                replace p446 := eq_true p446
                                replace q446 := eq_true q446
                                have p447 : 0 ≤ (x13_4 : Int) := of_decide_eq_true (by first | (with_reducible assumption) | assumption)
                                have q447 : x13_4 < (t441.length : Int) := of_decide_eq_true (by first | (with_reducible assumption) | assumption)
                                obtain ⟨ad447, e447, hx447_0, hx447_1, hx447_2, hx447_3⟩ := at_T28 (Kd.R_reads' HO_10.out).2.2 x13_4 p447 q447
                                obtain rfl : ad446 = ad447 := (by injection e447)
                                replace p447 := eq_true p447
                                replace q447 := eq_true q447
                                obtain ⟨Ao181, co181, eo181⟩ := Kd.R_slice HO_7.out
                                subst eo181
                                have p448 : 0 ≤ (x13_4 : Int) := of_decide_eq_true (by first | (with_reducible assumption) | assumption)
                                have q448 : x13_4 < (x7_1.length : Int) := of_decide_eq_true (by first | (with_reducible assumption) | assumption)
                                obtain ⟨ad448, e448, hx448_0⟩ := Kd.at_string (Kd.R_reads' HO_7.out).2.2 x13_4 p448 q448
                                cases e448
                                replace p448 := eq_true p448
                                replace q448 := eq_true q448
                                go_wp2
                                repeat (go_quiet (fail); try go_wp2)
                                go_roundg k4
                                case measure => have := HK1.out; have := HJ4.out; have := HJ168.out; have := HK4.out; omega
                                case rel => exact ⟨(wrap64 (x13_4 + 1)), (by first | rfl | (simp; done) | (simp [*]; done)), H', ⟨by have := HK1.out; have := HJ4.out; have := HJ168.out; have := HK4.out; omega⟩, ⟨by (with_reducible repeat (first | apply Kd.R_alloc | apply Kd.R_drewN | apply Kd.R_drew)); exact HO_7.out⟩, ⟨by (with_reducible repeat (first | apply Kd.R_alloc | apply Kd.R_drewN | apply Kd.R_drew)); exact HO_10.out⟩, ⟨by repeat (first | (with_reducible first | exact HB.out | apply below_alloc | apply pw_below_drewN | apply below_drew1) | exact HB.out)⟩⟩
                              · rw [if_neg c179] at H
                                have c179b0 : (((rd_T28 t441 x13_4).f1).toList == (rdOf ByteArray.empty x7_1 x13_4).toList) = false := beq_eq_false_iff_ne.mpr c179
                                have c179b1 : (((rd_T28 t441 x13_4).f1).toList != (rdOf ByteArray.empty x7_1 x13_4).toList) = true := bne_iff_ne.mpr c179
                                obtain rfl := Option.some.inj H
                                obtain ⟨Ao182, co182, eo182⟩ := Kd.R_slice HO_10.out
                                subst eo182
                                have p446 : 0 ≤ (x13_4 : Int) := of_decide_eq_true (by first | (with_reducible assumption) | assumption)
                                have q446 : x13_4 < (t441.length : Int) := of_decide_eq_true (by first | (with_reducible assumption) | assumption)
                                obtain ⟨ad446, e446, hx446_0, hx446_1, hx446_2, hx446_3⟩ := at_T28 (Kd.R_reads' HO_10.out).2.2 x13_4 p446 q446
                                cases e446
                                replace p446 := eq_true p446
                                replace q446 := eq_true q446
                                have p447 : 0 ≤ (x13_4 : Int) := of_decide_eq_true (by first | (with_reducible assumption) | assumption)
                                have q447 : x13_4 < (t441.length : Int) := of_decide_eq_true (by first | (with_reducible assumption) | assumption)
                                obtain ⟨ad447, e447, hx447_0, hx447_1, hx447_2, hx447_3⟩ := at_T28 (Kd.R_reads' HO_10.out).2.2 x13_4 p447 q447
                                obtain rfl : ad446 = ad447 := (by injection e447)
                                replace p447 := eq_true p447
                                replace q447 := eq_true q447
                                obtain ⟨Ao183, co183, eo183⟩ := Kd.R_slice HO_7.out
                                subst eo183
                                have p448 : 0 ≤ (x13_4 : Int) := of_decide_eq_true (by first | (with_reducible assumption) | assumption)
                                have q448 : x13_4 < (x7_1.length : Int) := of_decide_eq_true (by first | (with_reducible assumption) | assumption)
                                obtain ⟨ad448, e448, hx448_0⟩ := Kd.at_string (Kd.R_reads' HO_7.out).2.2 x13_4 p448 q448
                                cases e448
                                replace p448 := eq_true p448
                                replace q448 := eq_true q448
                                go_wp2
                                repeat (go_quiet (fail); try go_wp2)
                                go_ret
                                exact ⟨by first | rfl | (simp [errW_none, errW_some] <;> rfl) | (simp [*, errW_none, errW_some] <;> rfl), by repeat (first | (with_reducible first | exact HB.out | apply below_alloc | apply pw_below_drewN | apply below_drew1) | exact HB.out)⟩
                            · rw [if_neg c178] at H
                              exact absurd H (by simp)
                          · rw [if_neg c177] at H
                            have c177b0 : (((rd_T28 t441 x13_4).f0) == 5) = false := beq_eq_false_iff_ne.mpr c177
                            have c177b1 : (((rd_T28 t441 x13_4).f0) != 5) = true := bne_iff_ne.mpr c177
                            obtain rfl := Option.some.inj H
                            obtain ⟨Ao184, co184, eo184⟩ := Kd.R_slice HO_10.out
                            subst eo184
                            have p446 : 0 ≤ (x13_4 : Int) := of_decide_eq_true (by first | (with_reducible assumption) | assumption)
                            have q446 : x13_4 < (t441.length : Int) := of_decide_eq_true (by first | (with_reducible assumption) | assumption)
                            obtain ⟨ad446, e446, hx446_0, hx446_1, hx446_2, hx446_3⟩ := at_T28 (Kd.R_reads' HO_10.out).2.2 x13_4 p446 q446
                            cases e446
                            replace p446 := eq_true p446
                            replace q446 := eq_true q446
                            go_wp2
                            repeat (go_quiet (fail); try go_wp2)
                            go_ret
                            exact ⟨by first | rfl | (simp [errW_none, errW_some] <;> rfl) | (simp [*, errW_none, errW_some] <;> rfl), by repeat (first | (with_reducible first | exact HB.out | apply below_alloc | apply pw_below_drewN | apply below_drew1) | exact HB.out)⟩
                        · rw [if_neg c176] at H
                          exact absurd H (by simp)
                      · rw [if_neg c175] at H
                        have c175b0 : decide (x13_4 < (t441.length : Int)) = false := decide_eq_false c175
                        clear c175
                        replace H := Option.bind_eq_some_iff.mp H
                        obtain ⟨t449, A1850, H⟩ := H
                        replace H : (some t449) = some r := H
                        have A185 := Aside0.mk A1850
                        clear A1850
                        obtain rfl := Option.some.inj H
                        obtain ⟨Ao186, co186, eo186⟩ := Kd.R_slice HO_10.out
                        subst eo186
                        go_wp2_with (first | (go_at_call 9; (with_reducible refine (umlautlaw17_awake.calls k4  t449 _ ?hwd63 A185.out).mono ?_); (case hwd63 => exact Wd.below hgw (by repeat (first | (with_reducible first | exact HB.out | apply below_alloc | apply pw_below_drewN | apply below_drew1) | exact HB.out))); rintro e w187 ⟨rfl, hb⟩; have n0_ := Aside0.mk (Kd.R_below (by (with_reducible repeat (first | apply Kd.R_alloc | apply Kd.R_drewN | apply Kd.R_drew)); exact HO_7.out) hb); have n1_ := Aside0.mk (Kd.R_below (by (with_reducible repeat (first | apply Kd.R_alloc | apply Kd.R_drewN | apply Kd.R_drew)); exact HO_10.out) hb); have n2_ := Aside0.mk (below_step (by repeat (first | (with_reducible first | exact HB.out | apply below_alloc | apply pw_below_drewN | apply below_drew1) | exact HB.out)) hb); clear HO_7; clear HO_10; clear HB; have HO_7 := n0_; have HO_10 := n1_; have HB := n2_; clear n0_ n1_ n2_; (try clear hb); (try clear hb2); (try clear hk); (try clear hi)))
                        repeat (go_quiet (first | (go_at_call 9; (with_reducible refine (umlautlaw17_awake.calls k4  t449 _ ?hwd64 A185.out).mono ?_); (case hwd64 => exact Wd.below hgw (by repeat (first | (with_reducible first | exact HB.out | apply below_alloc | apply pw_below_drewN | apply below_drew1) | exact HB.out))); rintro e w187 ⟨rfl, hb⟩; have n0_ := Aside0.mk (Kd.R_below (by (with_reducible repeat (first | apply Kd.R_alloc | apply Kd.R_drewN | apply Kd.R_drew)); exact HO_7.out) hb); have n1_ := Aside0.mk (Kd.R_below (by (with_reducible repeat (first | apply Kd.R_alloc | apply Kd.R_drewN | apply Kd.R_drew)); exact HO_10.out) hb); have n2_ := Aside0.mk (below_step (by repeat (first | (with_reducible first | exact HB.out | apply below_alloc | apply pw_below_drewN | apply below_drew1) | exact HB.out)) hb); clear HO_7; clear HO_10; clear HB; have HO_7 := n0_; have HO_10 := n1_; have HB := n2_; clear n0_ n1_ n2_; (try clear hb); (try clear hb2); (try clear hk); (try clear hi))); try go_wp2_with (first | (go_at_call 9; (with_reducible refine (umlautlaw17_awake.calls k4  t449 _ ?hwd65 A185.out).mono ?_); (case hwd65 => exact Wd.below hgw (by repeat (first | (with_reducible first | exact HB.out | apply below_alloc | apply pw_below_drewN | apply below_drew1) | exact HB.out))); rintro e w187 ⟨rfl, hb⟩; have n0_ := Aside0.mk (Kd.R_below (by (with_reducible repeat (first | apply Kd.R_alloc | apply Kd.R_drewN | apply Kd.R_drew)); exact HO_7.out) hb); have n1_ := Aside0.mk (Kd.R_below (by (with_reducible repeat (first | apply Kd.R_alloc | apply Kd.R_drewN | apply Kd.R_drew)); exact HO_10.out) hb); have n2_ := Aside0.mk (below_step (by repeat (first | (with_reducible first | exact HB.out | apply below_alloc | apply pw_below_drewN | apply below_drew1) | exact HB.out)) hb); clear HO_7; clear HO_10; clear HB; have HO_7 := n0_; have HO_10 := n1_; have HB := n2_; clear n0_ n1_ n2_; (try clear hb); (try clear hb2); (try clear hk); (try clear hi))))
                        go_ret
                        exact ⟨by first | rfl | (simp [errW_none, errW_some] <;> rfl) | (simp [*, errW_none, errW_some] <;> rfl), by repeat (first | (with_reducible first | exact HB.out | apply below_alloc | apply pw_below_drewN | apply below_drew1) | exact HB.out)⟩

/-- THE ONE PURE STATEMENT of umlautlaw17_LexOps: yours. -/
def umlautlaw17_LexOps.Pure : Prop := ∀ (l0 : List Int) (a1 : Bool), l0.length ≤ maxLen → l0.length * 8 ≤ 140737488351232 → (∀ x ∈ l0, (Lit.int .i64 x).wf = true) → ∃ k, umlautlaw17_LexOps.f k l0 a1 = some true
theorem umlautlaw17_LexOps.walk (P : umlautlaw17_LexOps.Pure) (a0 : Option Addr) (len0 cap0 : Nat) (z0 : List Int) (a1 : Bool) (w : World) (hgw : Wd w) (w0 : (a0 = none ∧ len0 = 0 ∧ cap0 = 0 ∧ z0 = []) ∨ ∃ x, a0 = some x ∧ len0 ≤ cap0 ∧ cap0 ≤ maxLen ∧ z0.length = cap0 ∧ (∀ i, i < z0.length → w.cell? (x.add i) = some (.int .i64 (z0.getD i 0))) ∧ ∀ n ∈ z0, (Lit.int .i64 n).wf = true) (y0 : len0 * 8 ≤ 140737488351232) :
    Calls Tryd.prog 4 #[.slice a0 len0 cap0, .bool a1] w fun e w' => e = .returned (.bool true) ∧ Below w.heap.size w w' := by
  obtain ⟨l0, rfl, hr0, hm0, hw0, hc0⟩ := ReadsInt.ofRowC w0
  obtain ⟨k, h⟩ := P l0 a1 hm0 y0 hw0
  refine (umlautlaw17_LexOps.calls k _ _ l0 a1 true w hgw (Kd.C_of_reads (d := (0 : Int)) (h1 := fun _ => rfl) hr0) hc0 h).mono ?_
  rintro e w' ⟨rfl, hd⟩
  exact ⟨rfl, hd⟩

end Go.Proofs.YtobhcpfdgfkeiaaDoor.Lx
