/-
  Texts of this claim, joined: part 4.
-/
import Derived.Test.YtobhcpfdgfkeiaaDoorJC0
import Derived.Test.YtobhcpfdgfkeiaaDoorJC1
import Derived.Test.YtobhcpfdgfkeiaaDoorJC2
import Derived.Test.YtobhcpfdgfkeiaaDoorCards
import Derived.Test.YtobhcpfdgfkeiaaDoorTie
import Derived.WalkKit
import Derived.ProofKit
import Derived.OpenShut
import Derived.ShutString
import Derived.ChangeOld
import Derived.Below
import Derived.SizedLaws
import Derived.Deep.DeepHandedRow
import Derived.Lay
namespace Go.Proofs.YtobhcpfdgfkeiaaDoor.Lx
open Go.RowKit Go.Proofs.YtobhcpfdgfkeiaaDoorW.PrintWords Go.Proofs.YtobhcpfdgfkeiaaDoorW.PrintLast Go.Proofs.YtobhcpfdgfkeiaaDoorW.PrintMore Go.Proofs.YtobhcpfdgfkeiaaDoor.Lf Go.Proofs.YtobhcpfdgfkeiaaDoor.Ext
attribute [local go_sem] max2_int min2_int max_two min_two max_three min_three max_four min_four   -- for this text's walks alone
set_option linter.unusedVariables false
set_option linter.unusedSimpArgs false

/-! ### umlautlaw17_LexTokens: function 5 -/
mutual
def umlautlaw17_LexTokens.j0 : Nat → List (S28) → Bool → List (S37) → Int → Int → Option (Bool)
  | 0, _, _, _, _, _ => none
  | k + 1, x3, x33, x238000, x238001, x238002 => if x33 = true then (some false) else (umlautlaw17_LexTokens.l0 k x3 0 x238000 x238001 x238002)
def umlautlaw17_LexTokens.l0 : Nat → List (S28) → Int → List (S37) → Int → Int → Option (Bool)
  | 0, _, _, _, _, _ => none
  | k + 1, x3, x7, x238000, x238001, x238002 => if x7 < (x3.length : Int) then (if 0 ≤ x7 then (if x7 < (x238000.length : Int) then (if ((rd_T28 x3 x7).f0) = ((rd_T37 x238000 x7).f0) then (if ((rd_T28 x3 x7).f1).toList = ((rd_T37 x238000 x7).f1).toList then (if ((rd_T28 x3 x7).f2) = ((rd_T37 x238000 x7).f2) then (if ((rd_T28 x3 x7).f3) = ((rd_T37 x238000 x7).f3) then (umlautlaw17_LexTokens.l0 k x3 (wrap64 (x7 + 1)) x238000 x238001 x238002) else (some false)) else (some false)) else (some false)) else (some false)) else (none)) else (none)) else ((umlautlaw17_awake.f k).bind fun t246 => (some t246))
end
def umlautlaw17_LexTokens.f (k : Nat) (a0 : ByteArray) : Option (Bool) := (lex_Tokens.f k a0).bind fun bt227 => ((umlautref17_Tokens.f k a0).bind fun bt232 => (if bt227.2.1 = bt232.2.1 then (if bt227.2.2 = bt232.2.2 then (umlautlaw17_LexTokens.j0 k bt227.1 ((bt227.1.length : Int) != (bt232.1.length : Int)) bt232.1 bt232.2.1 bt232.2.2) else (umlautlaw17_LexTokens.j0 k bt227.1 true bt232.1 bt232.2.1 bt232.2.2)) else (umlautlaw17_LexTokens.j0 k bt227.1 true bt232.1 bt232.2.1 bt232.2.2)))
theorem umlautlaw17_LexTokens.mono_l : ∀ k, (∀ y0 y1 y2 y3 y4, LeO (umlautlaw17_LexTokens.j0 k y0 y1 y2 y3 y4) (umlautlaw17_LexTokens.j0 (k + 1) y0 y1 y2 y3 y4)) ∧ (∀ y0 y1 y2 y3 y4, LeO (umlautlaw17_LexTokens.l0 k y0 y1 y2 y3 y4) (umlautlaw17_LexTokens.l0 (k + 1) y0 y1 y2 y3 y4))
  | 0 => ⟨fun _ _ _ _ _ r h => by simp [umlautlaw17_LexTokens.j0] at h, fun _ _ _ _ _ r h => by simp [umlautlaw17_LexTokens.l0] at h⟩
  | k + 1 => by
    obtain ⟨ih0, ih1⟩ := umlautlaw17_LexTokens.mono_l k
    refine ⟨?_, ?_⟩
    · intro y0 y1 y2 y3 y4
      unfold umlautlaw17_LexTokens.j0
      repeat' first
      | (with_reducible exact ih0 _ _ _ _ _)
      | (with_reducible exact ih1 _ _ _ _ _)
      | (with_reducible exact lex_Tokens.mono _ _)
      | (with_reducible exact umlautlaw17_awake.mono _)
      | (with_reducible exact umlautref17_Tokens.mono _ _)
      | (with_reducible exact LeO.refl _)
      | (with_reducible exact LeO.none _)
      | (with_reducible refine LeO.ite ?_ ?_)
      | (with_reducible refine LeO.bind ?_ (fun _ => ?_))
      | exact ih0 _ _ _ _ _
      | exact ih1 _ _ _ _ _
      | exact lex_Tokens.mono _ _
      | exact umlautlaw17_awake.mono _
      | exact umlautref17_Tokens.mono _ _
      | exact LeO.none _
      | refine LeO.ite ?_ ?_
      | refine LeO.bind ?_ (fun _ => ?_)
    · intro y0 y1 y2 y3 y4
      unfold umlautlaw17_LexTokens.l0
      repeat' first
      | (with_reducible exact ih0 _ _ _ _ _)
      | (with_reducible exact ih1 _ _ _ _ _)
      | (with_reducible exact lex_Tokens.mono _ _)
      | (with_reducible exact umlautlaw17_awake.mono _)
      | (with_reducible exact umlautref17_Tokens.mono _ _)
      | (with_reducible exact LeO.refl _)
      | (with_reducible exact LeO.none _)
      | (with_reducible refine LeO.ite ?_ ?_)
      | (with_reducible refine LeO.bind ?_ (fun _ => ?_))
      | exact ih0 _ _ _ _ _
      | exact ih1 _ _ _ _ _
      | exact lex_Tokens.mono _ _
      | exact umlautlaw17_awake.mono _
      | exact umlautref17_Tokens.mono _ _
      | exact LeO.none _
      | refine LeO.ite ?_ ?_
      | refine LeO.bind ?_ (fun _ => ?_)
theorem umlautlaw17_LexTokens.mono : ∀ a0 k, LeO (umlautlaw17_LexTokens.f k a0) (umlautlaw17_LexTokens.f (k + 1) a0) := by
  intro a0 k
  obtain ⟨ih0, ih1⟩ := umlautlaw17_LexTokens.mono_l k
  unfold umlautlaw17_LexTokens.f
  repeat' first
      | (with_reducible exact ih0 _ _ _ _ _)
      | (with_reducible exact ih1 _ _ _ _ _)
      | (with_reducible exact lex_Tokens.mono _ _)
      | (with_reducible exact umlautlaw17_awake.mono _)
      | (with_reducible exact umlautref17_Tokens.mono _ _)
      | (with_reducible exact LeO.refl _)
      | (with_reducible exact LeO.none _)
      | (with_reducible refine LeO.ite ?_ ?_)
      | (with_reducible refine LeO.bind ?_ (fun _ => ?_))
      | exact ih0 _ _ _ _ _
      | exact ih1 _ _ _ _ _
      | exact lex_Tokens.mono _ _
      | exact umlautlaw17_awake.mono _
      | exact umlautref17_Tokens.mono _ _
      | exact LeO.none _
      | refine LeO.ite ?_ ?_
      | refine LeO.bind ?_ (fun _ => ?_)
end Go.Proofs.YtobhcpfdgfkeiaaDoor.Lx

namespace Go.Proofs.YtobhcpfdgfkeiaaDoor.Lx
open Go.RowKit Go.Proofs.YtobhcpfdgfkeiaaDoorW.PrintWords Go.Proofs.YtobhcpfdgfkeiaaDoorW.PrintLast Go.Proofs.YtobhcpfdgfkeiaaDoorW.PrintMore Go.Proofs.YtobhcpfdgfkeiaaDoor.Lf Go.Proofs.YtobhcpfdgfkeiaaDoor.Ext
attribute [local go_sem] max2_int min2_int max_two min_two max_three min_three max_four min_four   -- for this text's walks alone
set_option linter.unusedVariables false
set_option linter.unusedSimpArgs false

set_option maxHeartbeats 8000000 in
set_option maxRecDepth 100000 in
theorem umlautlaw17_LexTokens.calls (k : Nat) (a0 : ByteArray) (r : Bool) (w : World) (hgw : Wd w) (h : umlautlaw17_LexTokens.f k a0 = some r) :
    Calls Tryd.prog 5 #[.string a0] w fun e w' => e = .returned (.bool r) ∧ Below w.heap.size w w' := by
  have hu35 := Tryd.underlying35
  have HB := Aside0.mk (Below.refl w.heap.size w)
  have H : ((lex_Tokens.f k a0).bind fun bt227 => ((umlautref17_Tokens.f k a0).bind fun bt232 => (if bt227.2.1 = bt232.2.1 then (if bt227.2.2 = bt232.2.2 then (umlautlaw17_LexTokens.j0 k bt227.1 ((bt227.1.length : Int) != (bt232.1.length : Int)) bt232.1 bt232.2.1 bt232.2.2) else (umlautlaw17_LexTokens.j0 k bt227.1 true bt232.1 bt232.2.1 bt232.2.2)) else (umlautlaw17_LexTokens.j0 k bt227.1 true bt232.1 bt232.2.1 bt232.2.2)))) = some r := h
  clear h
  replace H := Option.bind_eq_some_iff.mp H
  obtain ⟨⟨t227, t228, t229⟩, A20, H⟩ := H
  replace H : ((umlautref17_Tokens.f k a0).bind fun bt232 => (if t228 = bt232.2.1 then (if t229 = bt232.2.2 then (umlautlaw17_LexTokens.j0 k t227 ((t227.length : Int) != (bt232.1.length : Int)) bt232.1 bt232.2.1 bt232.2.2) else (umlautlaw17_LexTokens.j0 k t227 true bt232.1 bt232.2.1 bt232.2.2)) else (umlautlaw17_LexTokens.j0 k t227 true bt232.1 bt232.2.1 bt232.2.2))) = some r := H
  have A2 := Aside0.mk A20
  clear A20
  replace H := Option.bind_eq_some_iff.mp H
  obtain ⟨⟨t232, t235, t236⟩, A30, H⟩ := H
  replace H : (if t228 = t235 then (if t229 = t236 then (umlautlaw17_LexTokens.j0 k t227 ((t227.length : Int) != (t232.length : Int)) t232 t235 t236) else (umlautlaw17_LexTokens.j0 k t227 true t232 t235 t236)) else (umlautlaw17_LexTokens.j0 k t227 true t232 t235 t236)) = some r := H
  have A3 := Aside0.mk A30
  clear A30
  have HC4 := Aside0.mk H
  clear H
  go_enter Tryd.func5, Tryd.ntmps5
  go_upto_region 3 with (first | (go_at_call 10; (with_reducible refine (lex_Tokens.calls k a0 t227 t228 t229 _ ?hwd4 A2.out).mono ?_); (case hwd4 => exact Wd.below hgw (by repeat (first | (with_reducible first | exact HB.out | apply below_alloc | apply pw_below_drewN | apply below_drew1) | exact HB.out))); rintro e w5 ⟨v230, rfl, ho0, hb⟩; have n0_ := Aside0.mk (Kd.R_lower ho0 (below_size (by repeat (first | (with_reducible first | exact HB.out | apply below_alloc | apply pw_below_drewN | apply below_drew1) | exact HB.out)))); have n1_ := Aside0.mk (below_step (by repeat (first | (with_reducible first | exact HB.out | apply below_alloc | apply pw_below_drewN | apply below_drew1) | exact HB.out)) hb); clear HB; have HO231 := n0_; have HB := n1_; clear n0_ n1_; (try clear hb); (try clear hb2); (try clear hk); (try clear hi); (try clear ho0)) | (go_at_call 11; (with_reducible refine (umlautref17_Tokens.calls k a0 t232 t235 t236 _ A3.out).mono ?_); rintro e w6 ⟨v233, rfl, ho0, hb⟩; have n0_ := Aside0.mk (Kd.R_below (by (with_reducible repeat (first | apply Kd.R_alloc | apply Kd.R_drewN | apply Kd.R_drew)); exact HO231.out) hb); have n1_ := Aside0.mk (Kd.R_lower ho0 (below_size (by repeat (first | (with_reducible first | exact HB.out | apply below_alloc | apply pw_below_drewN | apply below_drew1) | exact HB.out)))); have n2_ := Aside0.mk (below_step (by repeat (first | (with_reducible first | exact HB.out | apply below_alloc | apply pw_below_drewN | apply below_drew1) | exact HB.out)) hb); clear HO231; clear HB; have HO231 := n0_; have HO234 := n1_; have HB := n2_; clear n0_ n1_ n2_; (try clear hb); (try clear hb2); (try clear hk); (try clear hi); (try clear ho0)) | ((with_reducible refine gate_dst (N := 6) rfl ?_); (try (refine gate_guard (by rfl) ?_; dsimp only)); refine box_event ?hg (N := 6) ?hd (cs := #[.slice none 0 0, .int .i64 0, .int .i64 0]) (t := 35) ?hr ?_; (case hd => rfl); (case hg => rfl); (case hr => first | (go_simp; done) | (go_simp; rfl)); intro gb237 hg w7 hbox hb; have n0_ := Aside0.mk (Kd.R_below (by (with_reducible repeat (first | apply Kd.R_alloc | apply Kd.R_drewN | apply Kd.R_drew)); exact HO231.out) hb); have n1_ := Aside0.mk (Kd.R_below (by (with_reducible repeat (first | apply Kd.R_alloc | apply Kd.R_drewN | apply Kd.R_drew)); exact HO234.out) hb); have n2_ := Aside0.mk (below_step (by repeat (first | (with_reducible first | exact HB.out | apply below_alloc | apply pw_below_drewN | apply below_drew1) | exact HB.out)) hb); have n3_ := Aside0.mk (hbox); have n4_ := Aside0.mk ((by rw [hg]; exact (below_size (by repeat (first | (with_reducible first | exact HB.out | apply below_alloc | apply pw_below_drewN | apply below_drew1) | exact HB.out))) : w.heap.size ≤ gb237)); have n5_ := Aside0.mk ((by rw [hg]; exact (below_size (by repeat (first | (with_reducible first | exact HB.out | apply below_alloc | apply pw_below_drewN | apply below_drew1) | exact HB.out))) : w.heap.size ≤ gb237)); clear HO231; clear HO234; clear HB; have HO231 := n0_; have HO234 := n1_; have HB := n2_; have BK237 := n3_; have GW237 := n4_; have GE237 := n5_; clear n0_ n1_ n2_ n3_ n4_ n5_; clear hb hbox hg; obtain ⟨Ao8, co8, eo8⟩ := Kd.R_slice HO234.out; subst eo8; have hcz9_0 : w7.cell? ⟨gb237, 0, none⟩ = some (.slice none 0 0) := (blk_cell BK237.out 0).trans rfl; have hcz9_1 : w7.cell? ⟨gb237, 1, none⟩ = some (.int .i64 0) := (blk_cell BK237.out 1).trans rfl; have hcz9_2 : w7.cell? ⟨gb237, 2, none⟩ = some (.int .i64 0) := (blk_cell BK237.out 2).trans rfl; have hfz9_0 := blk_frozen BK237.out 0; have hfz9_1 := blk_frozen BK237.out 1; have hfz9_2 := blk_frozen BK237.out 2))
  repeat (go_quiet (first | (go_at_call 10; (with_reducible refine (lex_Tokens.calls k a0 t227 t228 t229 _ ?hwd5 A2.out).mono ?_); (case hwd5 => exact Wd.below hgw (by repeat (first | (with_reducible first | exact HB.out | apply below_alloc | apply pw_below_drewN | apply below_drew1) | exact HB.out))); rintro e w5 ⟨v230, rfl, ho0, hb⟩; have n0_ := Aside0.mk (Kd.R_lower ho0 (below_size (by repeat (first | (with_reducible first | exact HB.out | apply below_alloc | apply pw_below_drewN | apply below_drew1) | exact HB.out)))); have n1_ := Aside0.mk (below_step (by repeat (first | (with_reducible first | exact HB.out | apply below_alloc | apply pw_below_drewN | apply below_drew1) | exact HB.out)) hb); clear HB; have HO231 := n0_; have HB := n1_; clear n0_ n1_; (try clear hb); (try clear hb2); (try clear hk); (try clear hi); (try clear ho0)) | (go_at_call 11; (with_reducible refine (umlautref17_Tokens.calls k a0 t232 t235 t236 _ A3.out).mono ?_); rintro e w6 ⟨v233, rfl, ho0, hb⟩; have n0_ := Aside0.mk (Kd.R_below (by (with_reducible repeat (first | apply Kd.R_alloc | apply Kd.R_drewN | apply Kd.R_drew)); exact HO231.out) hb); have n1_ := Aside0.mk (Kd.R_lower ho0 (below_size (by repeat (first | (with_reducible first | exact HB.out | apply below_alloc | apply pw_below_drewN | apply below_drew1) | exact HB.out)))); have n2_ := Aside0.mk (below_step (by repeat (first | (with_reducible first | exact HB.out | apply below_alloc | apply pw_below_drewN | apply below_drew1) | exact HB.out)) hb); clear HO231; clear HB; have HO231 := n0_; have HO234 := n1_; have HB := n2_; clear n0_ n1_ n2_; (try clear hb); (try clear hb2); (try clear hk); (try clear hi); (try clear ho0)) | ((with_reducible refine gate_dst (N := 6) rfl ?_); (try (refine gate_guard (by rfl) ?_; dsimp only)); refine box_event ?hg (N := 6) ?hd (cs := #[.slice none 0 0, .int .i64 0, .int .i64 0]) (t := 35) ?hr ?_; (case hd => rfl); (case hg => rfl); (case hr => first | (go_simp; done) | (go_simp; rfl)); intro gb237 hg w7 hbox hb; have n0_ := Aside0.mk (Kd.R_below (by (with_reducible repeat (first | apply Kd.R_alloc | apply Kd.R_drewN | apply Kd.R_drew)); exact HO231.out) hb); have n1_ := Aside0.mk (Kd.R_below (by (with_reducible repeat (first | apply Kd.R_alloc | apply Kd.R_drewN | apply Kd.R_drew)); exact HO234.out) hb); have n2_ := Aside0.mk (below_step (by repeat (first | (with_reducible first | exact HB.out | apply below_alloc | apply pw_below_drewN | apply below_drew1) | exact HB.out)) hb); have n3_ := Aside0.mk (hbox); have n4_ := Aside0.mk ((by rw [hg]; exact (below_size (by repeat (first | (with_reducible first | exact HB.out | apply below_alloc | apply pw_below_drewN | apply below_drew1) | exact HB.out))) : w.heap.size ≤ gb237)); have n5_ := Aside0.mk ((by rw [hg]; exact (below_size (by repeat (first | (with_reducible first | exact HB.out | apply below_alloc | apply pw_below_drewN | apply below_drew1) | exact HB.out))) : w.heap.size ≤ gb237)); clear HO231; clear HO234; clear HB; have HO231 := n0_; have HO234 := n1_; have HB := n2_; have BK237 := n3_; have GW237 := n4_; have GE237 := n5_; clear n0_ n1_ n2_ n3_ n4_ n5_; clear hb hbox hg; obtain ⟨Ao8, co8, eo8⟩ := Kd.R_slice HO234.out; subst eo8; have hcz9_0 : w7.cell? ⟨gb237, 0, none⟩ = some (.slice none 0 0) := (blk_cell BK237.out 0).trans rfl; have hcz9_1 : w7.cell? ⟨gb237, 1, none⟩ = some (.int .i64 0) := (blk_cell BK237.out 1).trans rfl; have hcz9_2 : w7.cell? ⟨gb237, 2, none⟩ = some (.int .i64 0) := (blk_cell BK237.out 2).trans rfl; have hfz9_0 := blk_frozen BK237.out 0; have hfz9_1 := blk_frozen BK237.out 1; have hfz9_2 := blk_frozen BK237.out 2)); go_upto_region 3 with (first | (go_at_call 10; (with_reducible refine (lex_Tokens.calls k a0 t227 t228 t229 _ ?hwd6 A2.out).mono ?_); (case hwd6 => exact Wd.below hgw (by repeat (first | (with_reducible first | exact HB.out | apply below_alloc | apply pw_below_drewN | apply below_drew1) | exact HB.out))); rintro e w5 ⟨v230, rfl, ho0, hb⟩; have n0_ := Aside0.mk (Kd.R_lower ho0 (below_size (by repeat (first | (with_reducible first | exact HB.out | apply below_alloc | apply pw_below_drewN | apply below_drew1) | exact HB.out)))); have n1_ := Aside0.mk (below_step (by repeat (first | (with_reducible first | exact HB.out | apply below_alloc | apply pw_below_drewN | apply below_drew1) | exact HB.out)) hb); clear HB; have HO231 := n0_; have HB := n1_; clear n0_ n1_; (try clear hb); (try clear hb2); (try clear hk); (try clear hi); (try clear ho0)) | (go_at_call 11; (with_reducible refine (umlautref17_Tokens.calls k a0 t232 t235 t236 _ A3.out).mono ?_); rintro e w6 ⟨v233, rfl, ho0, hb⟩; have n0_ := Aside0.mk (Kd.R_below (by (with_reducible repeat (first | apply Kd.R_alloc | apply Kd.R_drewN | apply Kd.R_drew)); exact HO231.out) hb); have n1_ := Aside0.mk (Kd.R_lower ho0 (below_size (by repeat (first | (with_reducible first | exact HB.out | apply below_alloc | apply pw_below_drewN | apply below_drew1) | exact HB.out)))); have n2_ := Aside0.mk (below_step (by repeat (first | (with_reducible first | exact HB.out | apply below_alloc | apply pw_below_drewN | apply below_drew1) | exact HB.out)) hb); clear HO231; clear HB; have HO231 := n0_; have HO234 := n1_; have HB := n2_; clear n0_ n1_ n2_; (try clear hb); (try clear hb2); (try clear hk); (try clear hi); (try clear ho0)) | ((with_reducible refine gate_dst (N := 6) rfl ?_); (try (refine gate_guard (by rfl) ?_; dsimp only)); refine box_event ?hg (N := 6) ?hd (cs := #[.slice none 0 0, .int .i64 0, .int .i64 0]) (t := 35) ?hr ?_; (case hd => rfl); (case hg => rfl); (case hr => first | (go_simp; done) | (go_simp; rfl)); intro gb237 hg w7 hbox hb; have n0_ := Aside0.mk (Kd.R_below (by (with_reducible repeat (first | apply Kd.R_alloc | apply Kd.R_drewN | apply Kd.R_drew)); exact HO231.out) hb); have n1_ := Aside0.mk (Kd.R_below (by (with_reducible repeat (first | apply Kd.R_alloc | apply Kd.R_drewN | apply Kd.R_drew)); exact HO234.out) hb); have n2_ := Aside0.mk (below_step (by repeat (first | (with_reducible first | exact HB.out | apply below_alloc | apply pw_below_drewN | apply below_drew1) | exact HB.out)) hb); have n3_ := Aside0.mk (hbox); have n4_ := Aside0.mk ((by rw [hg]; exact (below_size (by repeat (first | (with_reducible first | exact HB.out | apply below_alloc | apply pw_below_drewN | apply below_drew1) | exact HB.out))) : w.heap.size ≤ gb237)); have n5_ := Aside0.mk ((by rw [hg]; exact (below_size (by repeat (first | (with_reducible first | exact HB.out | apply below_alloc | apply pw_below_drewN | apply below_drew1) | exact HB.out))) : w.heap.size ≤ gb237)); clear HO231; clear HO234; clear HB; have HO231 := n0_; have HO234 := n1_; have HB := n2_; have BK237 := n3_; have GW237 := n4_; have GE237 := n5_; clear n0_ n1_ n2_ n3_ n4_ n5_; clear hb hbox hg; obtain ⟨Ao8, co8, eo8⟩ := Kd.R_slice HO234.out; subst eo8; have hcz9_0 : w7.cell? ⟨gb237, 0, none⟩ = some (.slice none 0 0) := (blk_cell BK237.out 0).trans rfl; have hcz9_1 : w7.cell? ⟨gb237, 1, none⟩ = some (.int .i64 0) := (blk_cell BK237.out 1).trans rfl; have hcz9_2 : w7.cell? ⟨gb237, 2, none⟩ = some (.int .i64 0) := (blk_cell BK237.out 2).trans rfl; have hfz9_0 := blk_frozen BK237.out 0; have hfz9_1 := blk_frozen BK237.out 1; have hfz9_2 := blk_frozen BK237.out 2)))
  (try simp only [Act.put, List.setIfInBounds_toArray, List.set_cons_zero, List.set_cons_succ])
  go_cut [33] (fun v33 wc => ∃ (kq : Nat) (x33_3 : Bool), v33 = .bool x33_3 ∧ Aside0 (umlautlaw17_LexTokens.j0 kq t227 x33_3 t232 t235 t236 = some r) ∧ Aside0 (kq ≤ k) ∧ Aside0 (Kd.R k28 28 wc w.heap.size (fun _ => True) v230 t227) ∧ Aside0 (Kd.R k37 37 wc w.heap.size (fun _ => True) (.slice Ao8 t232.length co8) t232) ∧ Aside0 (wc.heap[gb237]? = some (.cells #[(.slice Ao8 t232.length co8), .int .i64 t235, .int .i64 t236] 35 (0, 0))) ∧ Aside0 (Below w.heap.size w wc))
  case first =>
    have H := HC4.out
    clear HC4
    by_cases c10 : t228 = t235
    · rw [if_pos c10] at H
      have c10b0 : (t228 == t235) = true := beq_iff_eq.mpr c10
      have c10b1 : (t228 != t235) = false := bne_eq_false_iff_eq.mpr c10
      clear c10
      (first | rw [c10b0] | (simp only [i64_w, i32_w]; rw [c10b0]) | skip)
      by_cases c11 : t229 = t236
      · rw [if_pos c11] at H
        have c11b0 : (t229 == t236) = true := beq_iff_eq.mpr c11
        have c11b1 : (t229 != t236) = false := bne_eq_false_iff_eq.mpr c11
        clear c11
        have H' := Aside0.mk H
        clear H
        have hcz12_0 : w7.cell? ⟨gb237, 0, none⟩ = some (.slice none 0 0) := (blk_cell BK237.out 0).trans rfl
        have hcz12_1 : w7.cell? ⟨gb237, 1, none⟩ = some (.int .i64 0) := (blk_cell BK237.out 1).trans rfl
        have hcz12_2 : w7.cell? ⟨gb237, 2, none⟩ = some (.int .i64 0) := (blk_cell BK237.out 2).trans rfl
        have hfz12_0 := blk_frozen BK237.out 0
        have hfz12_1 := blk_frozen BK237.out 1
        have hfz12_2 := blk_frozen BK237.out 2
        obtain ⟨Ao13, co13, eo13⟩ := Kd.R_slice HO231.out
        subst eo13
        go_wp2
        repeat (go_quiet (fail); try go_wp2)
        go_meet
        case rel => exact ⟨_, (((t227.length : Int) != (t232.length : Int))), (by first | rfl | (simp; done) | (simp [*]; done)), H', ⟨by first | omega | exact Nat.le_refl _⟩, ⟨by (with_reducible repeat (first | apply Kd.R_alloc | apply Kd.R_drewN | apply Kd.R_drew)); exact Kd.R_mono (Kd.R_far (p := ⟨gb237, 2, none⟩) (Kd.R_far (p := ⟨gb237, 1, none⟩) (Kd.R_far (p := ⟨gb237, 0, none⟩) (Kd.R_types HO231.out BK237.out (by decide)) (fun _ hk => hk.2) (.slice Ao8 t232.length co8)) (fun _ hk => hk.2) (.int .i64 t235)) (fun _ hk => hk.2) (.int .i64 t236)) (fun _ hk => trivial)⟩, ⟨by (with_reducible repeat (first | apply Kd.R_alloc | apply Kd.R_drewN | apply Kd.R_drew)); exact Kd.R_mono (Kd.R_far (p := ⟨gb237, 2, none⟩) (Kd.R_far (p := ⟨gb237, 1, none⟩) (Kd.R_far (p := ⟨gb237, 0, none⟩) (Kd.R_types HO234.out BK237.out (by decide)) (fun _ hk => hk.2) (.slice Ao8 t232.length co8)) (fun _ hk => hk.2) (.int .i64 t235)) (fun _ hk => hk.2) (.int .i64 t236)) (fun _ hk => trivial)⟩, ⟨by (with_reducible repeat (first | refine blk_drewN ?_ _ | refine blk_drew ?_ | refine blk_alloc ?_ _)); refine blk_put (cs := #[.slice Ao8 t232.length co8, .int .i64 t235, .int .i64 0]) ?_ 2 _ rfl; (with_reducible repeat (first | refine blk_drewN ?_ _ | refine blk_drew ?_ | refine blk_alloc ?_ _)); refine blk_put (cs := #[.slice Ao8 t232.length co8, .int .i64 0, .int .i64 0]) ?_ 1 _ rfl; (with_reducible repeat (first | refine blk_drewN ?_ _ | refine blk_drew ?_ | refine blk_alloc ?_ _)); refine blk_put (cs := #[.slice none 0 0, .int .i64 0, .int .i64 0]) ?_ 0 _ rfl; (with_reducible repeat (first | refine blk_drewN ?_ _ | refine blk_drew ?_ | refine blk_alloc ?_ _)); exact BK237.out⟩, ⟨by repeat (first | (with_reducible first | exact HB.out | apply below_alloc | apply pw_below_drewN | apply below_drew1 | refine below_set ?_ GE237.out) | exact HB.out)⟩⟩
      · rw [if_neg c11] at H
        have c11b0 : (t229 == t236) = false := beq_eq_false_iff_ne.mpr c11
        have c11b1 : (t229 != t236) = true := bne_iff_ne.mpr c11
        have H' := Aside0.mk H
        clear H
        have hcz14_0 : w7.cell? ⟨gb237, 0, none⟩ = some (.slice none 0 0) := (blk_cell BK237.out 0).trans rfl
        have hcz14_1 : w7.cell? ⟨gb237, 1, none⟩ = some (.int .i64 0) := (blk_cell BK237.out 1).trans rfl
        have hcz14_2 : w7.cell? ⟨gb237, 2, none⟩ = some (.int .i64 0) := (blk_cell BK237.out 2).trans rfl
        have hfz14_0 := blk_frozen BK237.out 0
        have hfz14_1 := blk_frozen BK237.out 1
        have hfz14_2 := blk_frozen BK237.out 2
        go_wp2
        repeat (go_quiet (fail); try go_wp2)
        go_meet
        case rel => exact ⟨_, (true), (by first | rfl | (simp; done) | (simp [*]; done)), H', ⟨by first | omega | exact Nat.le_refl _⟩, ⟨by (with_reducible repeat (first | apply Kd.R_alloc | apply Kd.R_drewN | apply Kd.R_drew)); exact Kd.R_mono (Kd.R_far (p := ⟨gb237, 2, none⟩) (Kd.R_far (p := ⟨gb237, 1, none⟩) (Kd.R_far (p := ⟨gb237, 0, none⟩) (Kd.R_types HO231.out BK237.out (by decide)) (fun _ hk => hk.2) (.slice Ao8 t232.length co8)) (fun _ hk => hk.2) (.int .i64 t235)) (fun _ hk => hk.2) (.int .i64 t236)) (fun _ hk => trivial)⟩, ⟨by (with_reducible repeat (first | apply Kd.R_alloc | apply Kd.R_drewN | apply Kd.R_drew)); exact Kd.R_mono (Kd.R_far (p := ⟨gb237, 2, none⟩) (Kd.R_far (p := ⟨gb237, 1, none⟩) (Kd.R_far (p := ⟨gb237, 0, none⟩) (Kd.R_types HO234.out BK237.out (by decide)) (fun _ hk => hk.2) (.slice Ao8 t232.length co8)) (fun _ hk => hk.2) (.int .i64 t235)) (fun _ hk => hk.2) (.int .i64 t236)) (fun _ hk => trivial)⟩, ⟨by (with_reducible repeat (first | refine blk_drewN ?_ _ | refine blk_drew ?_ | refine blk_alloc ?_ _)); refine blk_put (cs := #[.slice Ao8 t232.length co8, .int .i64 t235, .int .i64 0]) ?_ 2 _ rfl; (with_reducible repeat (first | refine blk_drewN ?_ _ | refine blk_drew ?_ | refine blk_alloc ?_ _)); refine blk_put (cs := #[.slice Ao8 t232.length co8, .int .i64 0, .int .i64 0]) ?_ 1 _ rfl; (with_reducible repeat (first | refine blk_drewN ?_ _ | refine blk_drew ?_ | refine blk_alloc ?_ _)); refine blk_put (cs := #[.slice none 0 0, .int .i64 0, .int .i64 0]) ?_ 0 _ rfl; (with_reducible repeat (first | refine blk_drewN ?_ _ | refine blk_drew ?_ | refine blk_alloc ?_ _)); exact BK237.out⟩, ⟨by repeat (first | (with_reducible first | exact HB.out | apply below_alloc | apply pw_below_drewN | apply below_drew1 | refine below_set ?_ GE237.out) | exact HB.out)⟩⟩
    · rw [if_neg c10] at H
      have c10b0 : (t228 == t235) = false := beq_eq_false_iff_ne.mpr c10
      have c10b1 : (t228 != t235) = true := bne_iff_ne.mpr c10
      (first | rw [c10b0] | (simp only [i64_w, i32_w]; rw [c10b0]) | skip)
      have H' := Aside0.mk H
      clear H
      have hcz15_0 : w7.cell? ⟨gb237, 0, none⟩ = some (.slice none 0 0) := (blk_cell BK237.out 0).trans rfl
      have hcz15_1 : w7.cell? ⟨gb237, 1, none⟩ = some (.int .i64 0) := (blk_cell BK237.out 1).trans rfl
      have hcz15_2 : w7.cell? ⟨gb237, 2, none⟩ = some (.int .i64 0) := (blk_cell BK237.out 2).trans rfl
      have hfz15_0 := blk_frozen BK237.out 0
      have hfz15_1 := blk_frozen BK237.out 1
      have hfz15_2 := blk_frozen BK237.out 2
      go_wp2
      repeat (go_quiet (fail); try go_wp2)
      go_meet
      case rel => exact ⟨_, (true), (by first | rfl | (simp; done) | (simp [*]; done)), H', ⟨by first | omega | exact Nat.le_refl _⟩, ⟨by (with_reducible repeat (first | apply Kd.R_alloc | apply Kd.R_drewN | apply Kd.R_drew)); exact Kd.R_mono (Kd.R_far (p := ⟨gb237, 2, none⟩) (Kd.R_far (p := ⟨gb237, 1, none⟩) (Kd.R_far (p := ⟨gb237, 0, none⟩) (Kd.R_types HO231.out BK237.out (by decide)) (fun _ hk => hk.2) (.slice Ao8 t232.length co8)) (fun _ hk => hk.2) (.int .i64 t235)) (fun _ hk => hk.2) (.int .i64 t236)) (fun _ hk => trivial)⟩, ⟨by (with_reducible repeat (first | apply Kd.R_alloc | apply Kd.R_drewN | apply Kd.R_drew)); exact Kd.R_mono (Kd.R_far (p := ⟨gb237, 2, none⟩) (Kd.R_far (p := ⟨gb237, 1, none⟩) (Kd.R_far (p := ⟨gb237, 0, none⟩) (Kd.R_types HO234.out BK237.out (by decide)) (fun _ hk => hk.2) (.slice Ao8 t232.length co8)) (fun _ hk => hk.2) (.int .i64 t235)) (fun _ hk => hk.2) (.int .i64 t236)) (fun _ hk => trivial)⟩, ⟨by (with_reducible repeat (first | refine blk_drewN ?_ _ | refine blk_drew ?_ | refine blk_alloc ?_ _)); refine blk_put (cs := #[.slice Ao8 t232.length co8, .int .i64 t235, .int .i64 0]) ?_ 2 _ rfl; (with_reducible repeat (first | refine blk_drewN ?_ _ | refine blk_drew ?_ | refine blk_alloc ?_ _)); refine blk_put (cs := #[.slice Ao8 t232.length co8, .int .i64 0, .int .i64 0]) ?_ 1 _ rfl; (with_reducible repeat (first | refine blk_drewN ?_ _ | refine blk_drew ?_ | refine blk_alloc ?_ _)); refine blk_put (cs := #[.slice none 0 0, .int .i64 0, .int .i64 0]) ?_ 0 _ rfl; (with_reducible repeat (first | refine blk_drewN ?_ _ | refine blk_drew ?_ | refine blk_alloc ?_ _)); exact BK237.out⟩, ⟨by repeat (first | (with_reducible first | exact HB.out | apply below_alloc | apply pw_below_drewN | apply below_drew1 | refine below_set ?_ GE237.out) | exact HB.out)⟩⟩
  case rest =>
    clear HC4
    try clear c1
    try clear p2
    try clear c5
    try clear c10
    try clear c10b0
    try clear c10b1
    try clear c11
    try clear c11b0
    try clear c11b1
    try clear hcz12_0
    try clear hcz12_1
    try clear hcz12_2
    try clear hcz14_0
    try clear hcz14_1
    try clear hcz14_2
    try clear hcz15_0
    try clear hcz15_1
    try clear hcz15_2
    try clear hcz9_0
    try clear hcz9_1
    try clear hcz9_2
    try clear hfz12_0
    try clear hfz12_1
    try clear hfz12_2
    try clear hfz14_0
    try clear hfz14_1
    try clear hfz14_2
    try clear hfz15_0
    try clear hfz15_1
    try clear hfz15_2
    try clear hfz9_0
    try clear hfz9_1
    try clear hfz9_2
    obtain ⟨kq, x33_3, rfl, HA, HJ3, HO_3, HO_238000, BK237, HB⟩ := hcut
    cases kq with
    | zero => exact absurd HA.out (by simp [umlautlaw17_LexTokens.j0])
    | succ kj3 =>
      have H := HA.out
      clear HA
      simp only [umlautlaw17_LexTokens.j0] at H
      by_cases c16 : x33_3 = true
      · subst c16
        have H1 : (some false) = some r := by rw [if_pos rfl] at H; exact H
        clear H
        have H := H1
        clear H1
        obtain rfl := Option.some.inj H
        go_wp2
        repeat (go_quiet (fail); try go_wp2)
        go_ret
        exact ⟨by first | rfl | (simp [errW_none, errW_some] <;> rfl) | (simp [*, errW_none, errW_some] <;> rfl), by repeat (first | (with_reducible first | exact HB.out | apply below_alloc | apply pw_below_drewN | apply below_drew1 | refine below_set ?_ GE237.out) | exact HB.out)⟩
      · replace c16 := Bool.eq_false_iff.mpr c16
        subst c16
        have H1 : (umlautlaw17_LexTokens.l0 kj3 t227 0 t232 t235 t236) = some r := by rw [if_neg (show ¬ (false = true) by decide)] at H; exact H
        clear H
        have H := H1
        clear H1
        have H' := Aside0.mk H
        clear H
        go_wp2
        repeat (go_quiet (fail); try go_wp2)
        go_loopg [7] kj3 (fun kq v7 w' => ∃ (x7_2 : Int), v7 = .int .i64 x7_2 ∧ Aside0 (umlautlaw17_LexTokens.l0 kq t227 x7_2 t232 t235 t236 = some r) ∧ Aside0 (kq ≤ kj3) ∧ Aside0 (Kd.R k28 28 w' w.heap.size (fun _ => True) v230 t227) ∧ Aside0 (Kd.R k37 37 w' w.heap.size (fun _ => True) (.slice Ao8 t232.length co8) t232) ∧ Aside0 (w'.heap[gb237]? = some (.cells #[(.slice Ao8 t232.length co8), .int .i64 t235, .int .i64 t236] 35 (0, 0))) ∧ Aside0 (Below w.heap.size w w'))
        case atStart => exact ⟨(0), (by first | rfl | (simp; done) | (simp [*]; done)), H', ⟨Nat.le_refl _⟩, ⟨by (with_reducible repeat (first | apply Kd.R_alloc | apply Kd.R_drewN | apply Kd.R_drew)); exact HO_3.out⟩, ⟨by (with_reducible repeat (first | apply Kd.R_alloc | apply Kd.R_drewN | apply Kd.R_drew)); exact HO_238000.out⟩, ⟨by (with_reducible repeat (first | refine blk_drewN ?_ _ | refine blk_drew ?_ | refine blk_alloc ?_ _)); exact BK237.out⟩, ⟨by repeat (first | (with_reducible first | exact HB.out | apply below_alloc | apply pw_below_drewN | apply below_drew1 | refine below_set ?_ GE237.out) | exact HB.out)⟩⟩
        case round =>
          clear H'
          try clear c1
          try clear p2
          try clear c5
          try clear c10
          try clear c10b0
          try clear c10b1
          try clear c11
          try clear c11b0
          try clear c11b1
          try clear c16
          try clear hcz12_0
          try clear hcz12_1
          try clear hcz12_2
          try clear hcz14_0
          try clear hcz14_1
          try clear hcz14_2
          try clear hcz15_0
          try clear hcz15_1
          try clear hcz15_2
          try clear hcz9_0
          try clear hcz9_1
          try clear hcz9_2
          try clear hfz12_0
          try clear hfz12_1
          try clear hfz12_2
          try clear hfz14_0
          try clear hfz14_1
          try clear hfz14_2
          try clear hfz15_0
          try clear hfz15_1
          try clear hfz15_2
          try clear hfz9_0
          try clear hfz9_1
          try clear hfz9_2
          try clear p2
          obtain ⟨x7_2, rfl, HA, HK2, HO_3, HO_238000, BK237, HB⟩ := hrel
          cases gk with
          | zero => exact absurd HA.out (by simp [umlautlaw17_LexTokens.l0])
          | succ k2 =>
            have H := HA.out
            clear HA
            simp only [umlautlaw17_LexTokens.l0] at H
            by_cases c17 : x7_2 < (t227.length : Int)
            · rw [if_pos c17] at H
              have c17b0 : decide (x7_2 < (t227.length : Int)) = true := decide_eq_true c17
              clear c17
              by_cases c18 : 0 ≤ x7_2
              · rw [if_pos c18] at H
                have c18b0 : decide (0 ≤ x7_2) = true := decide_eq_true c18
                clear c18
                by_cases c19 : x7_2 < (t232.length : Int)
                · rw [if_pos c19] at H
                  have c19b0 : decide (x7_2 < (t232.length : Int)) = true := decide_eq_true c19
                  clear c19
                  by_cases c20 : ((rd_T28 t227 x7_2).f0) = ((rd_T37 t232 x7_2).f0)
                  · rw [if_pos c20] at H
                    have c20b0 : (((rd_T28 t227 x7_2).f0) == ((rd_T37 t232 x7_2).f0)) = true := beq_iff_eq.mpr c20
                    have c20b1 : (((rd_T28 t227 x7_2).f0) != ((rd_T37 t232 x7_2).f0)) = false := bne_eq_false_iff_eq.mpr c20
                    clear c20
                    by_cases c21 : ((rd_T28 t227 x7_2).f1).toList = ((rd_T37 t232 x7_2).f1).toList
                    · rw [if_pos c21] at H
                      have c21b0 : (((rd_T28 t227 x7_2).f1).toList == ((rd_T37 t232 x7_2).f1).toList) = true := beq_iff_eq.mpr c21
                      have c21b1 : (((rd_T28 t227 x7_2).f1).toList != ((rd_T37 t232 x7_2).f1).toList) = false := bne_eq_false_iff_eq.mpr c21
                      clear c21
                      by_cases c22 : ((rd_T28 t227 x7_2).f2) = ((rd_T37 t232 x7_2).f2)
                      · rw [if_pos c22] at H
                        have c22b0 : (((rd_T28 t227 x7_2).f2) == ((rd_T37 t232 x7_2).f2)) = true := beq_iff_eq.mpr c22
                        have c22b1 : (((rd_T28 t227 x7_2).f2) != ((rd_T37 t232 x7_2).f2)) = false := bne_eq_false_iff_eq.mpr c22
                        clear c22
                        by_cases c23 : ((rd_T28 t227 x7_2).f3) = ((rd_T37 t232 x7_2).f3)
                        · rw [if_pos c23] at H
                          have c23b0 : (((rd_T28 t227 x7_2).f3) == ((rd_T37 t232 x7_2).f3)) = true := beq_iff_eq.mpr c23
                          have c23b1 : (((rd_T28 t227 x7_2).f3) != ((rd_T37 t232 x7_2).f3)) = false := bne_eq_false_iff_eq.mpr c23
                          clear c23
                          have H' := Aside0.mk H
                          clear H
                          obtain ⟨Ao24, co24, eo24⟩ := Kd.R_slice HO_3.out
                          subst eo24
                          have p238 : 0 ≤ (x7_2 : Int) := of_decide_eq_true (by first | (with_reducible assumption) | assumption)
                          have q238 : x7_2 < (t227.length : Int) := of_decide_eq_true (by first | (with_reducible assumption) | assumption)
                          obtain ⟨ad238, e238, hx238_0, hx238_1, hx238_2, hx238_3⟩ := at_T28 (Kd.R_reads' HO_3.out).2.2 x7_2 p238 q238
                          cases e238
                          replace p238 := eq_true p238
                          replace q238 := eq_true q238
                          have hcz25_0 : wr.cell? ⟨gb237, 0, none⟩ = some (.slice Ao8 t232.length co8) := (blk_cell BK237.out 0).trans rfl
                          have hcz25_1 : wr.cell? ⟨gb237, 1, none⟩ = some (.int .i64 t235) := (blk_cell BK237.out 1).trans rfl
                          have hcz25_2 : wr.cell? ⟨gb237, 2, none⟩ = some (.int .i64 t236) := (blk_cell BK237.out 2).trans rfl
                          have hfz25_0 := blk_frozen BK237.out 0
                          have hfz25_1 := blk_frozen BK237.out 1
                          have hfz25_2 := blk_frozen BK237.out 2
                          have p239 : 0 ≤ (x7_2 : Int) := of_decide_eq_true (by first | (with_reducible assumption) | assumption)
                          have q239 : x7_2 < (t232.length : Int) := of_decide_eq_true (by first | (with_reducible assumption) | assumption)
                          obtain ⟨ad239, e239, hx239_0, hx239_1, hx239_2, hx239_3⟩ := at_T37 (Kd.R_reads' HO_238000.out).2.2 x7_2 p239 q239
                          cases e239
                          replace p239 := eq_true p239
                          replace q239 := eq_true q239
                          have p240 : 0 ≤ (x7_2 : Int) := of_decide_eq_true (by first | (with_reducible assumption) | assumption)
                          have q240 : x7_2 < (t227.length : Int) := of_decide_eq_true (by first | (with_reducible assumption) | assumption)
                          obtain ⟨ad240, e240, hx240_0, hx240_1, hx240_2, hx240_3⟩ := at_T28 (Kd.R_reads' HO_3.out).2.2 x7_2 p240 q240
                          obtain rfl : ad238 = ad240 := (by injection e240)
                          replace p240 := eq_true p240
                          replace q240 := eq_true q240
                          have p241 : 0 ≤ (x7_2 : Int) := of_decide_eq_true (by first | (with_reducible assumption) | assumption)
                          have q241 : x7_2 < (t232.length : Int) := of_decide_eq_true (by first | (with_reducible assumption) | assumption)
                          obtain ⟨ad241, e241, hx241_0, hx241_1, hx241_2, hx241_3⟩ := at_T37 (Kd.R_reads' HO_238000.out).2.2 x7_2 p241 q241
                          obtain rfl : ad239 = ad241 := (by injection e241)
                          replace p241 := eq_true p241
                          replace q241 := eq_true q241
                          have p242 : 0 ≤ (x7_2 : Int) := of_decide_eq_true (by first | (with_reducible assumption) | assumption)
                          have q242 : x7_2 < (t227.length : Int) := of_decide_eq_true (by first | (with_reducible assumption) | assumption)
                          obtain ⟨ad242, e242, hx242_0, hx242_1, hx242_2, hx242_3⟩ := at_T28 (Kd.R_reads' HO_3.out).2.2 x7_2 p242 q242
                          obtain rfl : ad238 = ad242 := (by injection e242)
                          replace p242 := eq_true p242
                          replace q242 := eq_true q242
                          have p243 : 0 ≤ (x7_2 : Int) := of_decide_eq_true (by first | (with_reducible assumption) | assumption)
                          have q243 : x7_2 < (t232.length : Int) := of_decide_eq_true (by first | (with_reducible assumption) | assumption)
                          obtain ⟨ad243, e243, hx243_0, hx243_1, hx243_2, hx243_3⟩ := at_T37 (Kd.R_reads' HO_238000.out).2.2 x7_2 p243 q243
                          obtain rfl : ad239 = ad243 := (by injection e243)
                          replace p243 := eq_true p243
                          replace q243 := eq_true q243
                          have p244 : 0 ≤ (x7_2 : Int) := of_decide_eq_true (by first | (with_reducible assumption) | assumption)
                          have q244 : x7_2 < (t227.length : Int) := of_decide_eq_true (by first | (with_reducible assumption) | assumption)
                          obtain ⟨ad244, e244, hx244_0, hx244_1, hx244_2, hx244_3⟩ := at_T28 (Kd.R_reads' HO_3.out).2.2 x7_2 p244 q244
                          obtain rfl : ad238 = ad244 := (by injection e244)
                          replace p244 := eq_true p244
                          replace q244 := eq_true q244
                          have p245 : 0 ≤ (x7_2 : Int) := of_decide_eq_true (by first | (with_reducible assumption) | assumption)
                          have q245 : x7_2 < (t232.length : Int) := of_decide_eq_true (by first | (with_reducible assumption) | assumption)
                          obtain ⟨ad245, e245, hx245_0, hx245_1, hx245_2, hx245_3⟩ := at_T37 (Kd.R_reads' HO_238000.out).2.2 x7_2 p245 q245
                          obtain rfl : ad239 = ad245 := (by injection e245)
                          replace p245 := eq_true p245
                          replace q245 := eq_true q245
                          go_wp2
                          repeat (go_quiet (fail); try go_wp2)
                          go_roundg k2
                          case measure => have := HJ3.out; have := HK2.out; omega
                          case rel => exact ⟨(wrap64 (x7_2 + 1)), (by first | rfl | (simp; done) | (simp [*]; done)), H', ⟨by have := HJ3.out; have := HK2.out; omega⟩, ⟨by (with_reducible repeat (first | apply Kd.R_alloc | apply Kd.R_drewN | apply Kd.R_drew)); exact HO_3.out⟩, ⟨by (with_reducible repeat (first | apply Kd.R_alloc | apply Kd.R_drewN | apply Kd.R_drew)); exact HO_238000.out⟩, ⟨by (with_reducible repeat (first | refine blk_drewN ?_ _ | refine blk_drew ?_ | refine blk_alloc ?_ _)); exact BK237.out⟩, ⟨by repeat (first | (with_reducible first | exact HB.out | apply below_alloc | apply pw_below_drewN | apply below_drew1 | refine below_set ?_ GE237.out) | exact HB.out)⟩⟩
                        · rw [if_neg c23] at H
                          have c23b0 : (((rd_T28 t227 x7_2).f3) == ((rd_T37 t232 x7_2).f3)) = false := beq_eq_false_iff_ne.mpr c23
                          have c23b1 : (((rd_T28 t227 x7_2).f3) != ((rd_T37 t232 x7_2).f3)) = true := bne_iff_ne.mpr c23
                          obtain rfl := Option.some.inj H
                          obtain ⟨Ao26, co26, eo26⟩ := Kd.R_slice HO_3.out
                          subst eo26
                          have p238 : 0 ≤ (x7_2 : Int) := of_decide_eq_true (by first | (with_reducible assumption) | assumption)
                          have q238 : x7_2 < (t227.length : Int) := of_decide_eq_true (by first | (with_reducible assumption) | assumption)
                          obtain ⟨ad238, e238, hx238_0, hx238_1, hx238_2, hx238_3⟩ := at_T28 (Kd.R_reads' HO_3.out).2.2 x7_2 p238 q238
                          cases e238
                          replace p238 := eq_true p238
                          replace q238 := eq_true q238
                          have hcz27_0 : wr.cell? ⟨gb237, 0, none⟩ = some (.slice Ao8 t232.length co8) := (blk_cell BK237.out 0).trans rfl
                          have hcz27_1 : wr.cell? ⟨gb237, 1, none⟩ = some (.int .i64 t235) := (blk_cell BK237.out 1).trans rfl
                          have hcz27_2 : wr.cell? ⟨gb237, 2, none⟩ = some (.int .i64 t236) := (blk_cell BK237.out 2).trans rfl
                          have hfz27_0 := blk_frozen BK237.out 0
                          have hfz27_1 := blk_frozen BK237.out 1
                          have hfz27_2 := blk_frozen BK237.out 2
                          have p239 : 0 ≤ (x7_2 : Int) := of_decide_eq_true (by first | (with_reducible assumption) | assumption)
                          have q239 : x7_2 < (t232.length : Int) := of_decide_eq_true (by first | (with_reducible assumption) | assumption)
                          obtain ⟨ad239, e239, hx239_0, hx239_1, hx239_2, hx239_3⟩ := at_T37 (Kd.R_reads' HO_238000.out).2.2 x7_2 p239 q239
                          cases e239
                          replace p239 := eq_true p239
                          replace q239 := eq_true q239
                          have p240 : 0 ≤ (x7_2 : Int) := of_decide_eq_true (by first | (with_reducible assumption) | assumption)
                          have q240 : x7_2 < (t227.length : Int) := of_decide_eq_true (by first | (with_reducible assumption) | assumption)
                          obtain ⟨ad240, e240, hx240_0, hx240_1, hx240_2, hx240_3⟩ := at_T28 (Kd.R_reads' HO_3.out).2.2 x7_2 p240 q240
                          obtain rfl : ad238 = ad240 := (by injection e240)
                          replace p240 := eq_true p240
                          replace q240 := eq_true q240
                          have p241 : 0 ≤ (x7_2 : Int) := of_decide_eq_true (by first | (with_reducible assumption) | assumption)
                          have q241 : x7_2 < (t232.length : Int) := of_decide_eq_true (by first | (with_reducible assumption) | assumption)
                          obtain ⟨ad241, e241, hx241_0, hx241_1, hx241_2, hx241_3⟩ := at_T37 (Kd.R_reads' HO_238000.out).2.2 x7_2 p241 q241
                          obtain rfl : ad239 = ad241 := (by injection e241)
                          replace p241 := eq_true p241
                          replace q241 := eq_true q241
                          have p242 : 0 ≤ (x7_2 : Int) := of_decide_eq_true (by first | (with_reducible assumption) | assumption)
                          have q242 : x7_2 < (t227.length : Int) := of_decide_eq_true (by first | (with_reducible assumption) | assumption)
                          obtain ⟨ad242, e242, hx242_0, hx242_1, hx242_2, hx242_3⟩ := at_T28 (Kd.R_reads' HO_3.out).2.2 x7_2 p242 q242
                          obtain rfl : ad238 = ad242 := (by injection e242)
                          replace p242 := eq_true p242
                          replace q242 := eq_true q242
                          have p243 : 0 ≤ (x7_2 : Int) := of_decide_eq_true (by first | (with_reducible assumption) | assumption)
                          have q243 : x7_2 < (t232.length : Int) := of_decide_eq_true (by first | (with_reducible assumption) | assumption)
                          obtain ⟨ad243, e243, hx243_0, hx243_1, hx243_2, hx243_3⟩ := at_T37 (Kd.R_reads' HO_238000.out).2.2 x7_2 p243 q243
                          obtain rfl : ad239 = ad243 := (by injection e243)
                          replace p243 := eq_true p243
                          replace q243 := eq_true q243
                          have p244 : 0 ≤ (x7_2 : Int) := of_decide_eq_true (by first | (with_reducible assumption) | assumption)
                          have q244 : x7_2 < (t227.length : Int) := of_decide_eq_true (by first | (with_reducible assumption) | assumption)
                          obtain ⟨ad244, e244, hx244_0, hx244_1, hx244_2, hx244_3⟩ := at_T28 (Kd.R_reads' HO_3.out).2.2 x7_2 p244 q244
                          obtain rfl : ad238 = ad244 := (by injection e244)
                          replace p244 := eq_true p244
                          replace q244 := eq_true q244
                          have p245 : 0 ≤ (x7_2 : Int) := of_decide_eq_true (by first | (with_reducible assumption) | assumption)
                          have q245 : x7_2 < (t232.length : Int) := of_decide_eq_true (by first | (with_reducible assumption) | assumption)
                          obtain ⟨ad245, e245, hx245_0, hx245_1, hx245_2, hx245_3⟩ := at_T37 (Kd.R_reads' HO_238000.out).2.2 x7_2 p245 q245
                          obtain rfl : ad239 = ad245 := (by injection e245)
                          replace p245 := eq_true p245
                          replace q245 := eq_true q245
                          go_wp2
                          repeat (go_quiet (fail); try go_wp2)
                          go_ret
                          exact ⟨by first | rfl | (simp [errW_none, errW_some] <;> rfl) | (simp [*, errW_none, errW_some] <;> rfl), by repeat (first | (with_reducible first | exact HB.out | apply below_alloc | apply pw_below_drewN | apply below_drew1 | refine below_set ?_ GE237.out) | exact HB.out)⟩
                      · rw [if_neg c22] at H
                        have c22b0 : (((rd_T28 t227 x7_2).f2) == ((rd_T37 t232 x7_2).f2)) = false := beq_eq_false_iff_ne.mpr c22
                        have c22b1 : (((rd_T28 t227 x7_2).f2) != ((rd_T37 t232 x7_2).f2)) = true := bne_iff_ne.mpr c22
                        obtain rfl := Option.some.inj H
                        obtain ⟨Ao28, co28, eo28⟩ := Kd.R_slice HO_3.out
                        subst eo28
                        have p238 : 0 ≤ (x7_2 : Int) := of_decide_eq_true (by first | (with_reducible assumption) | assumption)
                        have q238 : x7_2 < (t227.length : Int) := of_decide_eq_true (by first | (with_reducible assumption) | assumption)
                        obtain ⟨ad238, e238, hx238_0, hx238_1, hx238_2, hx238_3⟩ := at_T28 (Kd.R_reads' HO_3.out).2.2 x7_2 p238 q238
                        cases e238
                        replace p238 := eq_true p238
                        replace q238 := eq_true q238
                        have hcz29_0 : wr.cell? ⟨gb237, 0, none⟩ = some (.slice Ao8 t232.length co8) := (blk_cell BK237.out 0).trans rfl
                        have hcz29_1 : wr.cell? ⟨gb237, 1, none⟩ = some (.int .i64 t235) := (blk_cell BK237.out 1).trans rfl
                        have hcz29_2 : wr.cell? ⟨gb237, 2, none⟩ = some (.int .i64 t236) := (blk_cell BK237.out 2).trans rfl
                        have hfz29_0 := blk_frozen BK237.out 0
                        have hfz29_1 := blk_frozen BK237.out 1
                        have hfz29_2 := blk_frozen BK237.out 2
                        have p239 : 0 ≤ (x7_2 : Int) := of_decide_eq_true (by first | (with_reducible assumption) | assumption)
                        have q239 : x7_2 < (t232.length : Int) := of_decide_eq_true (by first | (with_reducible assumption) | assumption)
                        obtain ⟨ad239, e239, hx239_0, hx239_1, hx239_2, hx239_3⟩ := at_T37 (Kd.R_reads' HO_238000.out).2.2 x7_2 p239 q239
                        cases e239
                        replace p239 := eq_true p239
                        replace q239 := eq_true q239
                        have p240 : 0 ≤ (x7_2 : Int) := of_decide_eq_true (by first | (with_reducible assumption) | assumption)
                        have q240 : x7_2 < (t227.length : Int) := of_decide_eq_true (by first | (with_reducible assumption) | assumption)
                        obtain ⟨ad240, e240, hx240_0, hx240_1, hx240_2, hx240_3⟩ := at_T28 (Kd.R_reads' HO_3.out).2.2 x7_2 p240 q240
                        obtain rfl : ad238 = ad240 := (by injection e240)
                        replace p240 := eq_true p240
                        replace q240 := eq_true q240
                        have p241 : 0 ≤ (x7_2 : Int) := of_decide_eq_true (by first | (with_reducible assumption) | assumption)
                        have q241 : x7_2 < (t232.length : Int) := of_decide_eq_true (by first | (with_reducible assumption) | assumption)
                        obtain ⟨ad241, e241, hx241_0, hx241_1, hx241_2, hx241_3⟩ := at_T37 (Kd.R_reads' HO_238000.out).2.2 x7_2 p241 q241
                        obtain rfl : ad239 = ad241 := (by injection e241)
                        replace p241 := eq_true p241
                        replace q241 := eq_true q241
                        have p242 : 0 ≤ (x7_2 : Int) := of_decide_eq_true (by first | (with_reducible assumption) | assumption)
                        have q242 : x7_2 < (t227.length : Int) := of_decide_eq_true (by first | (with_reducible assumption) | assumption)
                        obtain ⟨ad242, e242, hx242_0, hx242_1, hx242_2, hx242_3⟩ := at_T28 (Kd.R_reads' HO_3.out).2.2 x7_2 p242 q242
                        obtain rfl : ad238 = ad242 := (by injection e242)
                        replace p242 := eq_true p242
                        replace q242 := eq_true q242
                        have p243 : 0 ≤ (x7_2 : Int) := of_decide_eq_true (by first | (with_reducible assumption) | assumption)
                        have q243 : x7_2 < (t232.length : Int) := of_decide_eq_true (by first | (with_reducible assumption) | assumption)
                        obtain ⟨ad243, e243, hx243_0, hx243_1, hx243_2, hx243_3⟩ := at_T37 (Kd.R_reads' HO_238000.out).2.2 x7_2 p243 q243
                        obtain rfl : ad239 = ad243 := (by injection e243)
                        replace p243 := eq_true p243
                        replace q243 := eq_true q243
                        go_wp2
                        repeat (go_quiet (fail); try go_wp2)
                        go_ret
                        exact ⟨by first | rfl | (simp [errW_none, errW_some] <;> rfl) | (simp [*, errW_none, errW_some] <;> rfl), by repeat (first | (with_reducible first | exact HB.out | apply below_alloc | apply pw_below_drewN | apply below_drew1 | refine below_set ?_ GE237.out) | exact HB.out)⟩
                    · rw [if_neg c21] at H
                      have c21b0 : (((rd_T28 t227 x7_2).f1).toList == ((rd_T37 t232 x7_2).f1).toList) = false := beq_eq_false_iff_ne.mpr c21
                      have c21b1 : (((rd_T28 t227 x7_2).f1).toList != ((rd_T37 t232 x7_2).f1).toList) = true := bne_iff_ne.mpr c21
                      obtain rfl := Option.some.inj H
                      obtain ⟨Ao30, co30, eo30⟩ := Kd.R_slice HO_3.out
                      subst eo30
                      have p238 : 0 ≤ (x7_2 : Int) := of_decide_eq_true (by first | (with_reducible assumption) | assumption)
                      have q238 : x7_2 < (t227.length : Int) := of_decide_eq_true (by first | (with_reducible assumption) | assumption)
                      obtain ⟨ad238, e238, hx238_0, hx238_1, hx238_2, hx238_3⟩ := at_T28 (Kd.R_reads' HO_3.out).2.2 x7_2 p238 q238
                      cases e238
                      replace p238 := eq_true p238
                      replace q238 := eq_true q238
                      have hcz31_0 : wr.cell? ⟨gb237, 0, none⟩ = some (.slice Ao8 t232.length co8) := (blk_cell BK237.out 0).trans rfl
                      have hcz31_1 : wr.cell? ⟨gb237, 1, none⟩ = some (.int .i64 t235) := (blk_cell BK237.out 1).trans rfl
                      have hcz31_2 : wr.cell? ⟨gb237, 2, none⟩ = some (.int .i64 t236) := (blk_cell BK237.out 2).trans rfl
                      have hfz31_0 := blk_frozen BK237.out 0
                      have hfz31_1 := blk_frozen BK237.out 1
                      have hfz31_2 := blk_frozen BK237.out 2
                      have p239 : 0 ≤ (x7_2 : Int) := of_decide_eq_true (by first | (with_reducible assumption) | assumption)
                      have q239 : x7_2 < (t232.length : Int) := of_decide_eq_true (by first | (with_reducible assumption) | assumption)
                      obtain ⟨ad239, e239, hx239_0, hx239_1, hx239_2, hx239_3⟩ := at_T37 (Kd.R_reads' HO_238000.out).2.2 x7_2 p239 q239
                      cases e239
                      replace p239 := eq_true p239
                      replace q239 := eq_true q239
                      have p240 : 0 ≤ (x7_2 : Int) := of_decide_eq_true (by first | (with_reducible assumption) | assumption)
                      have q240 : x7_2 < (t227.length : Int) := of_decide_eq_true (by first | (with_reducible assumption) | assumption)
                      obtain ⟨ad240, e240, hx240_0, hx240_1, hx240_2, hx240_3⟩ := at_T28 (Kd.R_reads' HO_3.out).2.2 x7_2 p240 q240
                      obtain rfl : ad238 = ad240 := (by injection e240)
                      replace p240 := eq_true p240
                      replace q240 := eq_true q240
                      have p241 : 0 ≤ (x7_2 : Int) := of_decide_eq_true (by first | (with_reducible assumption) | assumption)
                      have q241 : x7_2 < (t232.length : Int) := of_decide_eq_true (by first | (with_reducible assumption) | assumption)
                      obtain ⟨ad241, e241, hx241_0, hx241_1, hx241_2, hx241_3⟩ := at_T37 (Kd.R_reads' HO_238000.out).2.2 x7_2 p241 q241
                      obtain rfl : ad239 = ad241 := (by injection e241)
                      replace p241 := eq_true p241
                      replace q241 := eq_true q241
                      go_wp2
                      repeat (go_quiet (fail); try go_wp2)
                      go_ret
                      exact ⟨by first | rfl | (simp [errW_none, errW_some] <;> rfl) | (simp [*, errW_none, errW_some] <;> rfl), by repeat (first | (with_reducible first | exact HB.out | apply below_alloc | apply pw_below_drewN | apply below_drew1 | refine below_set ?_ GE237.out) | exact HB.out)⟩
                  · rw [if_neg c20] at H
                    have c20b0 : (((rd_T28 t227 x7_2).f0) == ((rd_T37 t232 x7_2).f0)) = false := beq_eq_false_iff_ne.mpr c20
                    have c20b1 : (((rd_T28 t227 x7_2).f0) != ((rd_T37 t232 x7_2).f0)) = true := bne_iff_ne.mpr c20
                    obtain rfl := Option.some.inj H
                    obtain ⟨Ao32, co32, eo32⟩ := Kd.R_slice HO_3.out
                    subst eo32
                    have p238 : 0 ≤ (x7_2 : Int) := of_decide_eq_true (by first | (with_reducible assumption) | assumption)
                    have q238 : x7_2 < (t227.length : Int) := of_decide_eq_true (by first | (with_reducible assumption) | assumption)
                    obtain ⟨ad238, e238, hx238_0, hx238_1, hx238_2, hx238_3⟩ := at_T28 (Kd.R_reads' HO_3.out).2.2 x7_2 p238 q238
                    cases e238
                    replace p238 := eq_true p238
                    replace q238 := eq_true q238
                    have hcz33_0 : wr.cell? ⟨gb237, 0, none⟩ = some (.slice Ao8 t232.length co8) := (blk_cell BK237.out 0).trans rfl
                    have hcz33_1 : wr.cell? ⟨gb237, 1, none⟩ = some (.int .i64 t235) := (blk_cell BK237.out 1).trans rfl
                    have hcz33_2 : wr.cell? ⟨gb237, 2, none⟩ = some (.int .i64 t236) := (blk_cell BK237.out 2).trans rfl
                    have hfz33_0 := blk_frozen BK237.out 0
                    have hfz33_1 := blk_frozen BK237.out 1
                    have hfz33_2 := blk_frozen BK237.out 2
                    have p239 : 0 ≤ (x7_2 : Int) := of_decide_eq_true (by first | (with_reducible assumption) | assumption)
                    have q239 : x7_2 < (t232.length : Int) := of_decide_eq_true (by first | (with_reducible assumption) | assumption)
                    obtain ⟨ad239, e239, hx239_0, hx239_1, hx239_2, hx239_3⟩ := at_T37 (Kd.R_reads' HO_238000.out).2.2 x7_2 p239 q239
                    cases e239
                    replace p239 := eq_true p239
                    replace q239 := eq_true q239
                    go_wp2
                    repeat (go_quiet (fail); try go_wp2)
                    go_ret
                    exact ⟨by first | rfl | (simp [errW_none, errW_some] <;> rfl) | (simp [*, errW_none, errW_some] <;> rfl), by repeat (first | (with_reducible first | exact HB.out | apply below_alloc | apply pw_below_drewN | apply below_drew1 | refine below_set ?_ GE237.out) | exact HB.out)⟩
                · rw [if_neg c19] at H
                  exact absurd H (by simp)
              · rw [if_neg c18] at H
                exact absurd H (by simp)
            · rw [if_neg c17] at H
              have c17b0 : decide (x7_2 < (t227.length : Int)) = false := decide_eq_false c17
              clear c17
              replace H := Option.bind_eq_some_iff.mp H
              obtain ⟨t246, A340, H⟩ := H
              replace H : (some t246) = some r := H
              have A34 := Aside0.mk A340
              clear A340
              obtain rfl := Option.some.inj H
              obtain ⟨Ao35, co35, eo35⟩ := Kd.R_slice HO_3.out
              subst eo35
              go_wp2_with (first | (go_at_call 9; (with_reducible refine (umlautlaw17_awake.calls k2  t246 _ ?hwd1 A34.out).mono ?_); (case hwd1 => exact Wd.below hgw (by repeat (first | (with_reducible first | exact HB.out | apply below_alloc | apply pw_below_drewN | apply below_drew1) | exact HB.out))); rintro e w36 ⟨rfl, hb⟩; have n0_ := Aside0.mk (Kd.R_below (by (with_reducible repeat (first | apply Kd.R_alloc | apply Kd.R_drewN | apply Kd.R_drew)); exact HO_3.out) hb); have n1_ := Aside0.mk (Kd.R_below (by (with_reducible repeat (first | apply Kd.R_alloc | apply Kd.R_drewN | apply Kd.R_drew)); exact HO_238000.out) hb); have n2_ := Aside0.mk (blk_below (g := gb237) (o := .cells #[.slice Ao8 t232.length co8, .int .i64 t235, .int .i64 t236] 35 (0, 0)) (by (with_reducible repeat (first | refine blk_drewN ?_ _ | refine blk_drew ?_ | refine blk_alloc ?_ _)); exact BK237.out) hb); have n3_ := Aside0.mk (below_step (by repeat (first | (with_reducible first | exact HB.out | apply below_alloc | apply pw_below_drewN | apply below_drew1 | refine below_set ?_ GE237.out) | exact HB.out)) hb); clear HO_3; clear HO_238000; clear BK237; clear HB; have HO_3 := n0_; have HO_238000 := n1_; have BK237 := n2_; have HB := n3_; clear n0_ n1_ n2_ n3_; (try clear hb); (try clear hb2); (try clear hk); (try clear hi)))
              repeat (go_quiet (first | (go_at_call 9; (with_reducible refine (umlautlaw17_awake.calls k2  t246 _ ?hwd2 A34.out).mono ?_); (case hwd2 => exact Wd.below hgw (by repeat (first | (with_reducible first | exact HB.out | apply below_alloc | apply pw_below_drewN | apply below_drew1) | exact HB.out))); rintro e w36 ⟨rfl, hb⟩; have n0_ := Aside0.mk (Kd.R_below (by (with_reducible repeat (first | apply Kd.R_alloc | apply Kd.R_drewN | apply Kd.R_drew)); exact HO_3.out) hb); have n1_ := Aside0.mk (Kd.R_below (by (with_reducible repeat (first | apply Kd.R_alloc | apply Kd.R_drewN | apply Kd.R_drew)); exact HO_238000.out) hb); have n2_ := Aside0.mk (blk_below (g := gb237) (o := .cells #[.slice Ao8 t232.length co8, .int .i64 t235, .int .i64 t236] 35 (0, 0)) (by (with_reducible repeat (first | refine blk_drewN ?_ _ | refine blk_drew ?_ | refine blk_alloc ?_ _)); exact BK237.out) hb); have n3_ := Aside0.mk (below_step (by repeat (first | (with_reducible first | exact HB.out | apply below_alloc | apply pw_below_drewN | apply below_drew1 | refine below_set ?_ GE237.out) | exact HB.out)) hb); clear HO_3; clear HO_238000; clear BK237; clear HB; have HO_3 := n0_; have HO_238000 := n1_; have BK237 := n2_; have HB := n3_; clear n0_ n1_ n2_ n3_; (try clear hb); (try clear hb2); (try clear hk); (try clear hi))); try go_wp2_with (first | (go_at_call 9; (with_reducible refine (umlautlaw17_awake.calls k2  t246 _ ?hwd3 A34.out).mono ?_); (case hwd3 => exact Wd.below hgw (by repeat (first | (with_reducible first | exact HB.out | apply below_alloc | apply pw_below_drewN | apply below_drew1) | exact HB.out))); rintro e w36 ⟨rfl, hb⟩; have n0_ := Aside0.mk (Kd.R_below (by (with_reducible repeat (first | apply Kd.R_alloc | apply Kd.R_drewN | apply Kd.R_drew)); exact HO_3.out) hb); have n1_ := Aside0.mk (Kd.R_below (by (with_reducible repeat (first | apply Kd.R_alloc | apply Kd.R_drewN | apply Kd.R_drew)); exact HO_238000.out) hb); have n2_ := Aside0.mk (blk_below (g := gb237) (o := .cells #[.slice Ao8 t232.length co8, .int .i64 t235, .int .i64 t236] 35 (0, 0)) (by (with_reducible repeat (first | refine blk_drewN ?_ _ | refine blk_drew ?_ | refine blk_alloc ?_ _)); exact BK237.out) hb); have n3_ := Aside0.mk (below_step (by repeat (first | (with_reducible first | exact HB.out | apply below_alloc | apply pw_below_drewN | apply below_drew1 | refine below_set ?_ GE237.out) | exact HB.out)) hb); clear HO_3; clear HO_238000; clear BK237; clear HB; have HO_3 := n0_; have HO_238000 := n1_; have BK237 := n2_; have HB := n3_; clear n0_ n1_ n2_ n3_; (try clear hb); (try clear hb2); (try clear hk); (try clear hi))))
              go_ret
              exact ⟨by first | rfl | (simp [errW_none, errW_some] <;> rfl) | (simp [*, errW_none, errW_some] <;> rfl), by repeat (first | (with_reducible first | exact HB.out | apply below_alloc | apply pw_below_drewN | apply below_drew1 | refine below_set ?_ GE237.out) | exact HB.out)⟩

/-- THE ONE PURE STATEMENT of umlautlaw17_LexTokens: yours. -/
def umlautlaw17_LexTokens.Pure : Prop := ∀ (a0 : ByteArray), a0.size ≤ 140737488351232 → ∃ k, umlautlaw17_LexTokens.f k a0 = some true
theorem umlautlaw17_LexTokens.walk (P : umlautlaw17_LexTokens.Pure) (a0 : ByteArray) (w : World) (hgw : Wd w) (w0 : a0.size ≤ 140737488351232) :
    Calls Tryd.prog 5 #[.string a0] w fun e w' => e = .returned (.bool true) ∧ Below w.heap.size w w' := by
  obtain ⟨k, h⟩ := P a0 w0
  refine (umlautlaw17_LexTokens.calls k a0 true w hgw h).mono ?_
  rintro e w' ⟨rfl, hd⟩
  exact ⟨rfl, hd⟩

end Go.Proofs.YtobhcpfdgfkeiaaDoor.Lx

namespace Go.Proofs.YtobhcpfdgfkeiaaDoor.Lx
open Go.RowKit Go.Proofs.YtobhcpfdgfkeiaaDoorW.PrintWords Go.Proofs.YtobhcpfdgfkeiaaDoorW.PrintLast Go.Proofs.YtobhcpfdgfkeiaaDoorW.PrintMore Go.Proofs.YtobhcpfdgfkeiaaDoor.Lf Go.Proofs.YtobhcpfdgfkeiaaDoor.Ext
attribute [local go_sem] max2_int min2_int max_two min_two max_three min_three max_four min_four   -- for this text's walks alone
set_option linter.unusedVariables false
set_option linter.unusedSimpArgs false

/-! ### umlautlaw17_LexNames: function 6 -/
def umlautlaw17_LexNames.f (k : Nat) (a0 : ByteArray) : Option (Bool) := if (a0.size : Int) > 100 then ((umlautlaw17_awake.f k).bind fun t247 => (some t247)) else ((umlautref17_Tokens.f k a0).bind fun bt248 => (if bt248.2.2 = 0 then (if (bt248.1.length : Int) = 1 then (if 0 < (bt248.1.length : Int) then ((lex_Name.f k a0).bind fun t255 => (if ((rd_T37 bt248.1 0).f1).toList = a0.toList then (if (t255 == (((rd_T37 bt248.1 0).f0) == 1)) = true then ((lex_Word.f k a0).bind fun t257 => (if (t257 == (((rd_T37 bt248.1 0).f0) == 2)) = true then ((umlautlaw17_awake.f k).bind fun t259 => (some t259)) else (some false))) else (some false)) else (if (t255 == false) = true then ((lex_Word.f k a0).bind fun t260 => (if (t260 == false) = true then ((umlautlaw17_awake.f k).bind fun t261 => (some t261)) else (some false))) else (some false)))) else (none)) else ((lex_Name.f k a0).bind fun t262 => (if (t262 == false) = true then ((lex_Word.f k a0).bind fun t263 => (if (t263 == false) = true then ((umlautlaw17_awake.f k).bind fun t264 => (some t264)) else (some false))) else (some false)))) else ((lex_Name.f k a0).bind fun t265 => (if (t265 == false) = true then ((lex_Word.f k a0).bind fun t266 => (if (t266 == false) = true then ((umlautlaw17_awake.f k).bind fun t267 => (some t267)) else (some false))) else (some false)))))
theorem umlautlaw17_LexNames.mono : ∀ a0 k, LeO (umlautlaw17_LexNames.f k a0) (umlautlaw17_LexNames.f (k + 1) a0) := by
  intro a0 k
  unfold umlautlaw17_LexNames.f
  repeat' first
      | (with_reducible exact lex_Name.mono _ _)
      | (with_reducible exact lex_Word.mono _ _)
      | (with_reducible exact umlautlaw17_awake.mono _)
      | (with_reducible exact umlautref17_Tokens.mono _ _)
      | (with_reducible exact LeO.refl _)
      | (with_reducible exact LeO.none _)
      | (with_reducible refine LeO.ite ?_ ?_)
      | (with_reducible refine LeO.bind ?_ (fun _ => ?_))
      | exact lex_Name.mono _ _
      | exact lex_Word.mono _ _
      | exact umlautlaw17_awake.mono _
      | exact umlautref17_Tokens.mono _ _
      | exact LeO.none _
      | refine LeO.ite ?_ ?_
      | refine LeO.bind ?_ (fun _ => ?_)
end Go.Proofs.YtobhcpfdgfkeiaaDoor.Lx

namespace Go.Proofs.YtobhcpfdgfkeiaaDoor.Lp
open Go.RowKit Go.Proofs.YtobhcpfdgfkeiaaDoorW.PrintWords Go.Proofs.YtobhcpfdgfkeiaaDoor.Ext Go.Proofs.YtobhcpfdgfkeiaaDoor.Lx Go.Proofs.YtobhcpfdgfkeiaaDoor.Lf
set_option linter.unusedVariables false

theorem tokens_loop (L : List Tup) (hl : L.length ≤ 4000) (a b : Int) : ∀ (d k j : Nat), j ≤ L.length → L.length - j ≤ d → d + 10000 < k → umlautlaw17_LexTokens.l0 k (L.map t28) (j : Int) (L.map t37) a b = some true := by
  intro d
  induction d with
  | zero =>
    intro k j hj hd hk
    obtain ⟨k, rfl⟩ : ∃ m, k = m + 1 := ⟨k - 1, by omega⟩
    simp only [umlautlaw17_LexTokens.l0]
    rw [if_neg (by rw [List.length_map]; omega), awake_eq k (by omega)]; rfl
  | succ d ih =>
    intro k j hj hd hk
    obtain ⟨k, rfl⟩ : ∃ m, k = m + 1 := ⟨k - 1, by omega⟩
    simp only [umlautlaw17_LexTokens.l0]
    by_cases hlt : j < L.length
    · rw [if_pos (by rw [List.length_map]; omega), if_pos (by omega), if_pos (by rw [List.length_map]; omega), rd28 L j hlt, rd37 L j hlt]
      rw [if_pos (show (t28 L[j]).f0 = (t37 L[j]).f0 from rfl), if_pos (show (t28 L[j]).f1.toList = (t37 L[j]).f1.toList from rfl), if_pos (show (t28 L[j]).f2 = (t37 L[j]).f2 from rfl), if_pos (show (t28 L[j]).f3 = (t37 L[j]).f3 from rfl), wrap_add1 _ (by omega)]
      exact ih k (j + 1) (by omega) (by omega) (by omega)
    · rw [if_neg (by rw [List.length_map]; omega), awake_eq k (by omega)]; rfl
theorem pure_tokens (a0 : ByteArray) : umlautlaw17_LexTokens.f 50001 a0 = some true := by
  unfold umlautlaw17_LexTokens.f
  rw [lex_tok _ 50001 (by decide), ref_tok _ 50001 (by decide)]
  have hl := lexL_len mkT a0.data.toList
  simp only [Option.bind_some]
  rw [if_pos True.intro, if_pos True.intro, List.length_map, List.length_map, bne_self_eq_false]
  simp only [umlautlaw17_LexTokens.j0]
  rw [if_neg (by decide)]
  exact tokens_loop _ hl _ _ 4000 _ 0 (Nat.zero_le _) (by omega) (by omega)

theorem pure_names (a0 : ByteArray) : umlautlaw17_LexNames.f 50001 a0 = some true := by
  unfold umlautlaw17_LexNames.f lex_Name.f lex_Word.f lex_only.f
  rw [awake_eq 50001 (by decide), lex_tok _ 50001 (by decide), ref_tok _ 50001 (by decide)]
  simp only [Option.bind_some]
  by_cases h0 : (a0.size : Int) > 100
  · rw [if_pos h0]
  · rw [if_neg h0]
    by_cases h1 : (lexL mkT a0.data.toList).2.2 = 0
    · rw [if_pos h1, if_pos h1]
      cases hL : (lexL mkT a0.data.toList).1 with
      | nil => rfl
      | cons q L =>
        cases L with
        | nil =>
          by_cases ht : q.2.1.toList = a0.toList
          · simp [rd_T28, rd_T37, t28, t37, ht]
          · simp [rd_T28, rd_T37, t28, t37, ht]
        | cons q2 L2 =>
          rw [if_neg (by simp; omega), if_neg (by simp; omega)]; rfl
    · rw [if_neg h1, if_neg h1]; rfl
end Go.Proofs.YtobhcpfdgfkeiaaDoor.Lp

namespace Go.Proofs.YtobhcpfdgfkeiaaDoor.lexTokens
open Go.ChangeShapes Go.WideShapes Go.ChangeAt Go.RowKit
open Go.ChangeMaps (open_string shut_string)
set_option linter.unusedVariables false
theorem own : ownKnob Tryd.prog.godebug = none := by kernel_rfl
theorem laid_met (os : Os) : laidMet Tryd.prog Rows.lexTokensRow.laid ((World.laidAll Tryd.prog os Rows.lexTokensRow.laid).forCall (fun _ _ => 0) ⟨#[], #[.string ByteArray.empty], []⟩).memory :=
  laidMet_laidAll _ (by kernel_rfl) (by kernel_rfl)
set_option maxRecDepth 100000 in
theorem lifted (os : Os) (started : os.Started) (H : Type) (enc : TypeId × Value → H) (F : Stop.Interp) :
    ReturnsInHanded {} Tryd.checked os 5 .any ((OpenSpec.ofChange Rows.lexTokensSpec).preRow enc Tryd.prog Tryd.f5 Rows.lexTokensRow.domain false Rows.lexTokensRow.laid) (((OpenSpec.ofChange Rows.lexTokensSpec).at F).post enc Tryd.prog Tryd.f5 false true false false) := by
  refine returnsInHanded_of_row (C := Tryd.checked) (s := OpenSpec.ofChange Rows.lexTokensSpec) own started (by kernel_rfl) Tryd.func5
    (ChangeSpec.witness_shaped (enc := enc) (C := Tryd.checked) (os := os) (X := fun w _ => laidMetH Tryd.prog Rows.lexTokensRow.laid w) false (World.laidAll Tryd.prog os Rows.lexTokensRow.laid) #[.string ByteArray.empty] 8 (World.laidAll_os _ _ _)
      (World.shaped_of_ZipB (by kernel_rfl) (by kernel_rfl)) (by kernel_rfl) (by kernel_rfl) (by kernel_rfl)
      (by rw [MakeChecks.laidMetH_plain _ _ _ (by kernel_rfl)]; exact laid_met os)) ?_
  intro W base args ds gs before hval0 hW hcnd _ hsz0 hL hS _
  have hgw : Ext.Wd W := by
    rw [MakeChecks.laidMetH_plain _ _ _ (by kernel_rfl)] at hL
    exact Rw.wd_of (by unfold Rows.lexTokensRow; simp) (by unfold Rows.lexTokensRow; simp) hL hS
  have hsz : (DataW.weightsEach Tryd.prog (Tryd.f5.params.toList ++ Rows.lexTokensSpec.plain.varTypes Tryd.prog) (ds ++ gs)).all (· ≤ reachBytes) = true := hsz0
  have hval : ∀ (j : Nat) t v, Tryd.f5.params[j]? = some t → args[j]? = some v → Value.okWide Tryd.prog W .any base t v := hval0
  have hW' := hW
  obtain ⟨p, q, hA0, hV, rfl, hfz, hnd⟩ := hW
  have hA : DataW.TrodAll enc Tryd.prog W 0 (fun _ => true) true Tryd.f5.params.toList args.toList ds p := hA0
  rw [Tryd.params5] at hA hval hsz
  obtain ⟨v0, vs0, d0, ds0, p0, q0, hargs, rfl, rfl, h0, r0⟩ := trodAll_cons hA
  obtain ⟨rfl, rfl, rfl⟩ := trodAll_nil r0
  obtain rfl : args = #[v0] := by cases args; simp_all
  obtain ⟨rfl, rfl⟩ := trodVars_none hV
  obtain ⟨a0, rfl, rfl, rfl, y0⟩ := open_string Tryd.underlying9 (hval 0 9 v0 rfl rfl) h0
  have w0 : a0.size ≤ 140737488351232 := by
    have z := sized_string hsz (j := 0) (t := 9) rfl rfl
    rw [Array.length_toList] at z
    exact z
  clear hA0 hval0 hsz0 hsz
  refine (Lx.umlautlaw17_LexTokens.walk (fun a h => ⟨_, Lp.pure_tokens a⟩) a0 W hgw w0).mono fun e W' ⟨he, bel⟩ => ?_
  subst he
  exact ⟨_, rfl, _, _, _, [], _, [], hW', trodAll_mk1 (shut_bool Tryd.underlying4 _), (trodAll_cons_mk (shut_string Tryd.underlying9 y0) trodAll_mk0), rfl, bel.frame _, fun h => by cases h⟩
theorem said : Rows.LexTokensSaid :=
  OpenClaim.holds_of_cond 5 Tryd.f5 rfl rfl rfl rfl rfl rfl rfl ⟨rfl, rfl, rfl, rfl, rfl⟩ rfl rfl rfl rfl rfl (by kernel_rfl) Tryd.func5 (by kernel_rfl)
    (of_decide_eq_true (by kernel_rfl)) (by unfold Func.isWrapper; first | (rw [if_pos (by decide +kernel)]; kernel_rfl) | (rw [if_neg (by decide +kernel)]; exact ⟨rfl, rfl⟩))
    (fun os started H enc _ F => by rw [OpenClaim.pre_eq_preRow]; exact lifted os started H enc F)
theorem plain (f : FuncId) (fn : Func) (hf : Tryd.pinned.checked.prog.funcNamed "umlaut/umlautlaw17.LexTokens" = some f) (hfn : Tryd.pinned.checked.prog.funcs[f]? = some fn) :
    true = Tryd.pinned.checked.prog.looks [] ∧ ∀ (j : Nat) t, fn.params[j]? = some t → Tryd.pinned.checked.prog.wantsStandIn t = false := by
  obtain rfl : f = 5 := Option.some.inj ((show Tryd.prog.funcNamed "umlaut/umlautlaw17.LexTokens" = some 5 by kernel_rfl).symm.trans hf) |>.symm
  obtain rfl : fn = Tryd.f5 := (Option.some.inj (Tryd.func5.symm.trans hfn)).symm
  refine ⟨by kernel_rfl, fun j t ht => ?_⟩
  rw [Tryd.params5] at ht
  have hm : t ∈ [9] := by
    have := Array.mem_of_getElem? ht
    simp at this ⊢
    omega
  have hall : ([9].all fun u => !Tryd.prog.wantsStandIn u) = true := by kernel_rfl
  exact (show Tryd.prog.wantsStandIn t = false by simpa using List.all_eq_true.1 hall t hm)
theorem card : Rows.LexTokensCardSaid :=
  Claim7.holds_tied_plain_at .later [] _ _ _ _ said (fun _ h => by cases h) (by kernel_rfl) (fun _ h => by cases h) lexTokens_row_tie rfl ⟨rfl, rfl⟩ (by kernel_rfl) rfl plain (by kernel_rfl)
#print axioms card
end Go.Proofs.YtobhcpfdgfkeiaaDoor.lexTokens
namespace Go.Proofs.YtobhcpfdgfkeiaaDoor
/-- The card, under a short name, for the claim. -/
theorem lexTokens_card : Rows.LexTokensCardSaid := lexTokens.card
end Go.Proofs.YtobhcpfdgfkeiaaDoor
