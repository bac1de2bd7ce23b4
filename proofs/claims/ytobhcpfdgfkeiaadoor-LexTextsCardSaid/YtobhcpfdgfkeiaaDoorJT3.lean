/-
  Texts of this claim, joined: part 4.
-/
import Derived.Test.YtobhcpfdgfkeiaaDoorJC0
import Derived.Test.YtobhcpfdgfkeiaaDoorJC1
import Derived.Test.YtobhcpfdgfkeiaaDoorJC2
import Derived.Test.YtobhcpfdgfkeiaaDoorCards
import Derived.Test.YtobhcpfdgfkeiaaDoorTie
import Derived.WalkKit
import Derived.ProofKit
import Derived.OpenShut
import Derived.ShutString
import Derived.ChangeOld
import Derived.Below
import Derived.SizedLaws
import Derived.Deep.DeepHandedRow
import Derived.Lay
namespace Go.Proofs.YtobhcpfdgfkeiaaDoor.Lx
open Go.RowKit Go.Proofs.YtobhcpfdgfkeiaaDoorW.PrintWords Go.Proofs.YtobhcpfdgfkeiaaDoorW.PrintLast Go.Proofs.YtobhcpfdgfkeiaaDoorW.PrintMore Go.Proofs.YtobhcpfdgfkeiaaDoor.Lf Go.Proofs.YtobhcpfdgfkeiaaDoor.Ext
attribute [local go_sem] max2_int min2_int max_two min_two max_three min_three max_four min_four   -- for this text's walks alone
set_option linter.unusedVariables false
set_option linter.unusedSimpArgs false

/-! ### umlautlaw17_LexTexts: function 7 -/
def umlautlaw17_LexTexts.l0 : Nat → ByteArray → ByteArray → Int → Option (Bool)
  | 0, _, _, _ => none
  | k + 1, x0, x3, x4 => if x4 < (x0.size : Int) then (if 0 ≤ x4 then (if (bt x0 x4) = 39 then (if x3.size + 1 ≤ 9223372036854775807 then (if x4 ≤ (wrap64 (x4 + 1)) then (if (wrap64 (x4 + 1)) ≤ (x0.size : Int) then (if (x3 ++ (⟨#[39]⟩ : ByteArray)).size + (x0.extract (x4 : Int).toNat ((wrap64 (x4 + 1)) : Int).toNat).size ≤ 9223372036854775807 then (umlautlaw17_LexTexts.l0 k x0 ((x3 ++ (⟨#[39]⟩ : ByteArray)) ++ (x0.extract (x4 : Int).toNat ((wrap64 (x4 + 1)) : Int).toNat)) (wrap64 (x4 + 1))) else (none)) else (none)) else (none)) else (none)) else (if x4 ≤ (wrap64 (x4 + 1)) then (if (wrap64 (x4 + 1)) ≤ (x0.size : Int) then (if x3.size + (x0.extract (x4 : Int).toNat ((wrap64 (x4 + 1)) : Int).toNat).size ≤ 9223372036854775807 then (umlautlaw17_LexTexts.l0 k x0 (x3 ++ (x0.extract (x4 : Int).toNat ((wrap64 (x4 + 1)) : Int).toNat)) (wrap64 (x4 + 1))) else (none)) else (none)) else (none))) else (none)) else (if x3.size + 1 ≤ 9223372036854775807 then (if 2 + (x3 ++ (⟨#[39]⟩ : ByteArray)).size ≤ 9223372036854775807 then (if ((⟨#[97, 32]⟩ : ByteArray) ++ (x3 ++ (⟨#[39]⟩ : ByteArray))).size + 1 ≤ 9223372036854775807 then ((lex_Tokens.f k (((⟨#[97, 32]⟩ : ByteArray) ++ (x3 ++ (⟨#[39]⟩ : ByteArray))) ++ (⟨#[98]⟩ : ByteArray))).bind fun bt269 => (if bt269.2.2 = 0 then (if (bt269.1.length : Int) = 3 then (if 1 < (bt269.1.length : Int) then (if ((rd_T28 bt269.1 1).f0) = 4 then (if ((rd_T28 bt269.1 1).f1).toList = x0.toList then (if ((rd_T28 bt269.1 1).f3) = 2 then (if 2 < (bt269.1.length : Int) then (if ((rd_T28 bt269.1 2).f1).toList = ([98] : List UInt8) then (if ((rd_T28 bt269.1 2).f3) = (wrap64 (2 + ((x3 ++ (⟨#[39]⟩ : ByteArray)).size : Int))) then ((umlautlaw17_awake.f k).bind fun t279 => (some t279)) else (some false)) else (some false)) else (none)) else (some false)) else (some false)) else (some false)) else (none)) else (some false)) else (some false))) else (none)) else (none)) else (none))
def umlautlaw17_LexTexts.f (k : Nat) (a0 : ByteArray) : Option (Bool) := if (a0.size : Int) > 1000 then ((umlautlaw17_awake.f k).bind fun t268 => (some t268)) else (umlautlaw17_LexTexts.l0 k a0 (⟨#[39]⟩ : ByteArray) 0)
theorem umlautlaw17_LexTexts.mono_l : ∀ k, (∀ y0 y1 y2, LeO (umlautlaw17_LexTexts.l0 k y0 y1 y2) (umlautlaw17_LexTexts.l0 (k + 1) y0 y1 y2))
  | 0 => fun _ _ _ r h => by simp [umlautlaw17_LexTexts.l0] at h
  | k + 1 => by
    have ih0 := umlautlaw17_LexTexts.mono_l k
    · intro y0 y1 y2
      unfold umlautlaw17_LexTexts.l0
      repeat' first
      | (with_reducible exact ih0 _ _ _)
      | (with_reducible exact lex_Tokens.mono _ _)
      | (with_reducible exact umlautlaw17_awake.mono _)
      | (with_reducible exact LeO.refl _)
      | (with_reducible exact LeO.none _)
      | (with_reducible refine LeO.ite ?_ ?_)
      | (with_reducible refine LeO.bind ?_ (fun _ => ?_))
      | exact ih0 _ _ _
      | exact lex_Tokens.mono _ _
      | exact umlautlaw17_awake.mono _
      | exact LeO.none _
      | refine LeO.ite ?_ ?_
      | refine LeO.bind ?_ (fun _ => ?_)
theorem umlautlaw17_LexTexts.mono : ∀ a0 k, LeO (umlautlaw17_LexTexts.f k a0) (umlautlaw17_LexTexts.f (k + 1) a0) := by
  intro a0 k
  have ih0 := umlautlaw17_LexTexts.mono_l k
  unfold umlautlaw17_LexTexts.f
  repeat' first
      | (with_reducible exact ih0 _ _ _)
      | (with_reducible exact lex_Tokens.mono _ _)
      | (with_reducible exact umlautlaw17_awake.mono _)
      | (with_reducible exact LeO.refl _)
      | (with_reducible exact LeO.none _)
      | (with_reducible refine LeO.ite ?_ ?_)
      | (with_reducible refine LeO.bind ?_ (fun _ => ?_))
      | exact ih0 _ _ _
      | exact lex_Tokens.mono _ _
      | exact umlautlaw17_awake.mono _
      | exact LeO.none _
      | refine LeO.ite ?_ ?_
      | refine LeO.bind ?_ (fun _ => ?_)
end Go.Proofs.YtobhcpfdgfkeiaaDoor.Lx

namespace Go.Proofs.YtobhcpfdgfkeiaaDoor.Lx
open Go.RowKit Go.Proofs.YtobhcpfdgfkeiaaDoorW.PrintWords Go.Proofs.YtobhcpfdgfkeiaaDoorW.PrintLast Go.Proofs.YtobhcpfdgfkeiaaDoorW.PrintMore Go.Proofs.YtobhcpfdgfkeiaaDoor.Lf Go.Proofs.YtobhcpfdgfkeiaaDoor.Ext
attribute [local go_sem] max2_int min2_int max_two min_two max_three min_three max_four min_four   -- for this text's walks alone
set_option linter.unusedVariables false
set_option linter.unusedSimpArgs false

set_option maxHeartbeats 8000000 in
set_option maxRecDepth 100000 in
theorem umlautlaw17_LexTexts.calls (k : Nat) (a0 : ByteArray) (r : Bool) (w : World) (hgw : Wd w) (h : umlautlaw17_LexTexts.f k a0 = some r) :
    Calls Tryd.prog 7 #[.string a0] w fun e w' => e = .returned (.bool r) ∧ Below w.heap.size w w' := by
  have HB := Aside0.mk (Below.refl w.heap.size w)
  have H : (if (a0.size : Int) > 1000 then ((umlautlaw17_awake.f k).bind fun t268 => (some t268)) else (umlautlaw17_LexTexts.l0 k a0 (⟨#[39]⟩ : ByteArray) 0)) = some r := h
  clear h
  by_cases c2 : (a0.size : Int) > 1000
  · rw [if_pos c2] at H
    have c2b0 : decide (1000 < (a0.size : Int)) = true := decide_eq_true c2
    have c2b1 : decide (1000 < a0.size) = true := decide_eq_true (by omega)
    clear c2
    replace H := Option.bind_eq_some_iff.mp H
    obtain ⟨t268, A30, H⟩ := H
    replace H : (some t268) = some r := H
    have A3 := Aside0.mk A30
    clear A30
    obtain rfl := Option.some.inj H
    go_enter Tryd.func7, Tryd.ntmps7
    go_wp2_with (first | ((with_reducible refine gate_callee (f := 9) rfl ?_); refine goesL_ (some 11) rfl rfl Tryd.func9 (by kernel_rfl) rfl #[] rfl (by (try simp only [List.map_toArray, List.map_cons, List.map_nil]); first | done | rfl | (simp only [List.length_drop, List.length_take]; rfl)) ?_; (with_reducible refine (umlautlaw17_awake.calls k  t268 _ ?hwd32 A3.out).mono ?_); (case hwd32 => exact Wd.below hgw (by repeat (first | (with_reducible first | exact HB.out | apply below_alloc | apply pw_below_drewN | apply below_drew1) | exact HB.out))); rintro e w4 ⟨rfl, hb⟩; refine ⟨_, rfl, ?_⟩; have n0_ := Aside0.mk (below_step (by repeat (first | (with_reducible first | exact HB.out | apply below_alloc | apply pw_below_drewN | apply below_drew1) | exact HB.out)) hb); clear HB; have HB := n0_; clear n0_; (try clear hb); (try clear hb2); (try clear hk); (try clear hi)))
    go_ret
    exact ⟨by first | rfl | (simp [errW_none, errW_some] <;> rfl) | (simp [*, errW_none, errW_some] <;> rfl), by repeat (first | (with_reducible first | exact HB.out | apply below_alloc | apply pw_below_drewN | apply below_drew1) | exact HB.out)⟩
  · rw [if_neg c2] at H
    have c2b0 : decide (1000 < (a0.size : Int)) = false := decide_eq_false c2
    have c2b1 : decide (1000 < a0.size) = false := decide_eq_false (by omega)
    clear c2
    have H' := Aside0.mk H
    clear H
    go_enter Tryd.func7, Tryd.ntmps7
    go_wp2
    go_loopg [3, 4] k (fun kq v3 v4 w' => ∃ (x3_1 : ByteArray) (x4_1 : Int), v3 = .string x3_1 ∧ v4 = .int .i64 x4_1 ∧ Aside0 (umlautlaw17_LexTexts.l0 kq a0 x3_1 x4_1 = some r) ∧ Aside0 (kq ≤ k) ∧ Aside0 (Below w.heap.size w w'))
    case atStart => exact ⟨((⟨#[39]⟩ : ByteArray)), (0), (by first | rfl | (simp; done) | (simp [*]; done)), (by first | rfl | (simp; done) | (simp [*]; done)), H', ⟨Nat.le_refl _⟩, ⟨by repeat (first | (with_reducible first | exact HB.out | apply below_alloc | apply pw_below_drewN | apply below_drew1) | exact HB.out)⟩⟩
    case round =>
      clear H'
      try clear c2
      try clear c2b0
      try clear c2b1
      try clear p2
      obtain ⟨x3_1, x4_1, rfl, rfl, HA, HK1, HB⟩ := hrel
      cases gk with
      | zero => exact absurd HA.out (by simp [umlautlaw17_LexTexts.l0])
      | succ k1 =>
        have H := HA.out
        clear HA
        simp only [umlautlaw17_LexTexts.l0] at H
        by_cases c5 : x4_1 < (a0.size : Int)
        · rw [if_pos c5] at H
          have c5b0 : decide (x4_1 < (a0.size : Int)) = true := decide_eq_true c5
          clear c5
          by_cases c6 : 0 ≤ x4_1
          · rw [if_pos c6] at H
            have c6b0 : decide (0 ≤ x4_1) = true := decide_eq_true c6
            clear c6
            by_cases c8 : (bt a0 x4_1) = 39
            · rw [if_pos c8] at H
              have c8b0 : ((bt a0 x4_1) == 39) = true := beq_iff_eq.mpr c8
              have c8b1 : ((bt a0 x4_1) != 39) = false := bne_eq_false_iff_eq.mpr c8
              clear c8
              by_cases c9 : x3_1.size + 1 ≤ 9223372036854775807
              · rw [if_pos c9] at H
                have c9b0 := eq_true c9
                have c9b1 : decide (x3_1.size + 1 ≤ 9223372036854775807) = true := decide_eq_true c9
                try have c9b2 : (9223372036854775807 < x3_1.size + 1) = False := eq_false (Nat.not_lt.2 c9)
                have c10b0 := eq_true (of_decide_eq_true (by first | (with_reducible assumption) | assumption) : 0 ≤ x4_1)
                by_cases c11 : x4_1 ≤ (wrap64 (x4_1 + 1))
                · rw [if_pos c11] at H
                  have c11b0 := eq_true c11
                  have c11b1 : decide (x4_1 ≤ (wrap64 (x4_1 + 1))) = true := decide_eq_true c11
                  by_cases c12 : (wrap64 (x4_1 + 1)) ≤ (a0.size : Int)
                  · rw [if_pos c12] at H
                    have c12b0 := eq_true c12
                    have c12b1 : decide ((wrap64 (x4_1 + 1)) ≤ (a0.size : Int)) = true := decide_eq_true c12
                    by_cases c13 : (x3_1 ++ (⟨#[39]⟩ : ByteArray)).size + (a0.extract (x4_1 : Int).toNat ((wrap64 (x4_1 + 1)) : Int).toNat).size ≤ 9223372036854775807
                    · rw [if_pos c13] at H
                      have c13b0 := eq_true c13
                      have c13b1 : decide ((x3_1 ++ (⟨#[39]⟩ : ByteArray)).size + (a0.extract (x4_1 : Int).toNat ((wrap64 (x4_1 + 1)) : Int).toNat).size ≤ 9223372036854775807) = true := decide_eq_true c13
                      (try (have c13n := c13; simp only [ByteArray.size_append, show (⟨#[39]⟩ : ByteArray).size = 1 from rfl] at c13n))
                      try have c13b2 : (9223372036854775807 < (x3_1 ++ (⟨#[39]⟩ : ByteArray)).size + (a0.extract (x4_1 : Int).toNat ((wrap64 (x4_1 + 1)) : Int).toNat).size) = False := eq_false (Nat.not_lt.2 c13)
                      have H' := Aside0.mk H
                      clear H
                      have p7 : 0 ≤ (x4_1 : Int) := of_decide_eq_true (by first | (with_reducible assumption) | assumption)
                      have q7 : x4_1 < (a0.size : Int) := of_decide_eq_true (by first | (with_reducible assumption) | assumption)
                      have hx7 := bt_at a0 x4_1
                      replace p7 := eq_true p7
                      replace q7 := eq_true q7
                      go_wp2
                      go_roundg k1
                      case measure => have := HK1.out; omega
                      case rel => exact ⟨((x3_1 ++ (⟨#[39]⟩ : ByteArray)) ++ (a0.extract (x4_1 : Int).toNat ((wrap64 (x4_1 + 1)) : Int).toNat)), (wrap64 (x4_1 + 1)), (by first | rfl | (simp; done) | (simp [*]; done)), (by first | rfl | (simp; done) | (simp [*]; done)), H', ⟨by have := HK1.out; omega⟩, ⟨by repeat (first | (with_reducible first | exact HB.out | apply below_alloc | apply pw_below_drewN | apply below_drew1) | exact HB.out)⟩⟩
                    · rw [if_neg c13] at H
                      exact absurd H (by simp)
                  · rw [if_neg c12] at H
                    exact absurd H (by simp)
                · rw [if_neg c11] at H
                  exact absurd H (by simp)
              · rw [if_neg c9] at H
                exact absurd H (by simp)
            · rw [if_neg c8] at H
              have c8b0 : ((bt a0 x4_1) == 39) = false := beq_eq_false_iff_ne.mpr c8
              have c8b1 : ((bt a0 x4_1) != 39) = true := bne_iff_ne.mpr c8
              have c14b0 := eq_true (of_decide_eq_true (by first | (with_reducible assumption) | assumption) : 0 ≤ x4_1)
              by_cases c15 : x4_1 ≤ (wrap64 (x4_1 + 1))
              · rw [if_pos c15] at H
                have c15b0 := eq_true c15
                have c15b1 : decide (x4_1 ≤ (wrap64 (x4_1 + 1))) = true := decide_eq_true c15
                by_cases c16 : (wrap64 (x4_1 + 1)) ≤ (a0.size : Int)
                · rw [if_pos c16] at H
                  have c16b0 := eq_true c16
                  have c16b1 : decide ((wrap64 (x4_1 + 1)) ≤ (a0.size : Int)) = true := decide_eq_true c16
                  by_cases c17 : x3_1.size + (a0.extract (x4_1 : Int).toNat ((wrap64 (x4_1 + 1)) : Int).toNat).size ≤ 9223372036854775807
                  · rw [if_pos c17] at H
                    have c17b0 := eq_true c17
                    have c17b1 : decide (x3_1.size + (a0.extract (x4_1 : Int).toNat ((wrap64 (x4_1 + 1)) : Int).toNat).size ≤ 9223372036854775807) = true := decide_eq_true c17
                    try have c17b2 : (9223372036854775807 < x3_1.size + (a0.extract (x4_1 : Int).toNat ((wrap64 (x4_1 + 1)) : Int).toNat).size) = False := eq_false (Nat.not_lt.2 c17)
                    have H' := Aside0.mk H
                    clear H
                    have p7 : 0 ≤ (x4_1 : Int) := of_decide_eq_true (by first | (with_reducible assumption) | assumption)
                    have q7 : x4_1 < (a0.size : Int) := of_decide_eq_true (by first | (with_reducible assumption) | assumption)
                    have hx7 := bt_at a0 x4_1
                    replace p7 := eq_true p7
                    replace q7 := eq_true q7
                    go_wp2
                    go_roundg k1
                    case measure => have := HK1.out; omega
                    case rel => exact ⟨(x3_1 ++ (a0.extract (x4_1 : Int).toNat ((wrap64 (x4_1 + 1)) : Int).toNat)), (wrap64 (x4_1 + 1)), (by first | rfl | (simp; done) | (simp [*]; done)), (by first | rfl | (simp; done) | (simp [*]; done)), H', ⟨by have := HK1.out; omega⟩, ⟨by repeat (first | (with_reducible first | exact HB.out | apply below_alloc | apply pw_below_drewN | apply below_drew1) | exact HB.out)⟩⟩
                  · rw [if_neg c17] at H
                    exact absurd H (by simp)
                · rw [if_neg c16] at H
                  exact absurd H (by simp)
              · rw [if_neg c15] at H
                exact absurd H (by simp)
          · rw [if_neg c6] at H
            exact absurd H (by simp)
        · rw [if_neg c5] at H
          have c5b0 : decide (x4_1 < (a0.size : Int)) = false := decide_eq_false c5
          clear c5
          by_cases c18 : x3_1.size + 1 ≤ 9223372036854775807
          · rw [if_pos c18] at H
            have c18b0 := eq_true c18
            have c18b1 : decide (x3_1.size + 1 ≤ 9223372036854775807) = true := decide_eq_true c18
            try have c18b2 : (9223372036854775807 < x3_1.size + 1) = False := eq_false (Nat.not_lt.2 c18)
            by_cases c19 : 2 + (x3_1 ++ (⟨#[39]⟩ : ByteArray)).size ≤ 9223372036854775807
            · rw [if_pos c19] at H
              have c19b0 := eq_true c19
              have c19b1 : decide (2 + (x3_1 ++ (⟨#[39]⟩ : ByteArray)).size ≤ 9223372036854775807) = true := decide_eq_true c19
              (try (have c19n := c19; simp only [ByteArray.size_append, show (⟨#[39]⟩ : ByteArray).size = 1 from rfl] at c19n))
              try have c19b2 : (9223372036854775807 < 2 + (x3_1 ++ (⟨#[39]⟩ : ByteArray)).size) = False := eq_false (Nat.not_lt.2 c19)
              by_cases c20 : ((⟨#[97, 32]⟩ : ByteArray) ++ (x3_1 ++ (⟨#[39]⟩ : ByteArray))).size + 1 ≤ 9223372036854775807
              · rw [if_pos c20] at H
                have c20b0 := eq_true c20
                have c20b1 : decide (((⟨#[97, 32]⟩ : ByteArray) ++ (x3_1 ++ (⟨#[39]⟩ : ByteArray))).size + 1 ≤ 9223372036854775807) = true := decide_eq_true c20
                (try (have c20n := c20; simp only [ByteArray.size_append, show (⟨#[39]⟩ : ByteArray).size = 1 from rfl, show (⟨#[97, 32]⟩ : ByteArray).size = 2 from rfl] at c20n))
                try have c20b2 : (9223372036854775807 < ((⟨#[97, 32]⟩ : ByteArray) ++ (x3_1 ++ (⟨#[39]⟩ : ByteArray))).size + 1) = False := eq_false (Nat.not_lt.2 c20)
                replace H := Option.bind_eq_some_iff.mp H
                obtain ⟨⟨t269, t270, t271⟩, A210, H⟩ := H
                replace H : (if t271 = 0 then (if (t269.length : Int) = 3 then (if 1 < (t269.length : Int) then (if ((rd_T28 t269 1).f0) = 4 then (if ((rd_T28 t269 1).f1).toList = a0.toList then (if ((rd_T28 t269 1).f3) = 2 then (if 2 < (t269.length : Int) then (if ((rd_T28 t269 2).f1).toList = ([98] : List UInt8) then (if ((rd_T28 t269 2).f3) = (wrap64 (2 + ((x3_1 ++ (⟨#[39]⟩ : ByteArray)).size : Int))) then ((umlautlaw17_awake.f k1).bind fun t279 => (some t279)) else (some false)) else (some false)) else (none)) else (some false)) else (some false)) else (some false)) else (none)) else (some false)) else (some false)) = some r := H
                have A21 := Aside0.mk A210
                clear A210
                by_cases c22 : t271 = 0
                · rw [if_pos c22] at H
                  have c22b0 : (t271 == 0) = true := beq_iff_eq.mpr c22
                  have c22b1 : (t271 != 0) = false := bne_eq_false_iff_eq.mpr c22
                  clear c22
                  by_cases c23 : (t269.length : Int) = 3
                  · rw [if_pos c23] at H
                    have c23b0 : ((t269.length : Int) == 3) = true := beq_iff_eq.mpr c23
                    have c23b1 : ((t269.length : Int) != 3) = false := bne_eq_false_iff_eq.mpr c23
                    clear c23
                    by_cases c24 : 1 < (t269.length : Int)
                    · rw [if_pos c24] at H
                      have c24b0 : decide (1 < (t269.length : Int)) = true := decide_eq_true c24
                      have c24b1 : decide (1 < t269.length) = true := decide_eq_true (by omega)
                      clear c24
                      by_cases c25 : ((rd_T28 t269 1).f0) = 4
                      · rw [if_pos c25] at H
                        have c25b0 : (((rd_T28 t269 1).f0) == 4) = true := beq_iff_eq.mpr c25
                        have c25b1 : (((rd_T28 t269 1).f0) != 4) = false := bne_eq_false_iff_eq.mpr c25
                        clear c25
                        by_cases c26 : ((rd_T28 t269 1).f1).toList = a0.toList
                        · rw [if_pos c26] at H
                          have c26b0 : (((rd_T28 t269 1).f1).toList == a0.toList) = true := beq_iff_eq.mpr c26
                          have c26b1 : (((rd_T28 t269 1).f1).toList != a0.toList) = false := bne_eq_false_iff_eq.mpr c26
                          clear c26
                          by_cases c27 : ((rd_T28 t269 1).f3) = 2
                          · rw [if_pos c27] at H
                            have c27b0 : (((rd_T28 t269 1).f3) == 2) = true := beq_iff_eq.mpr c27
                            have c27b1 : (((rd_T28 t269 1).f3) != 2) = false := bne_eq_false_iff_eq.mpr c27
                            clear c27
                            by_cases c28 : 2 < (t269.length : Int)
                            · rw [if_pos c28] at H
                              have c28b0 : decide (2 < (t269.length : Int)) = true := decide_eq_true c28
                              have c28b1 : decide (2 < t269.length) = true := decide_eq_true (by omega)
                              clear c28
                              by_cases c29 : ((rd_T28 t269 2).f1).toList = ([98] : List UInt8)
                              · rw [if_pos c29] at H
                                have c29b0 : (((rd_T28 t269 2).f1).toList == ([98] : List UInt8)) = true := beq_iff_eq.mpr c29
                                have c29b1 : (((rd_T28 t269 2).f1).toList != ([98] : List UInt8)) = false := bne_eq_false_iff_eq.mpr c29
                                clear c29
                                by_cases c30 : ((rd_T28 t269 2).f3) = (wrap64 (2 + ((x3_1 ++ (⟨#[39]⟩ : ByteArray)).size : Int)))
                                · rw [if_pos c30] at H
                                  have c30b0 : (((rd_T28 t269 2).f3) == (wrap64 (2 + ((x3_1 ++ (⟨#[39]⟩ : ByteArray)).size : Int)))) = true := beq_iff_eq.mpr c30
                                  (try have c30b0w : (((rd_T28 t269 2).f3) == 2 + ((x3_1 ++ (⟨#[39]⟩ : ByteArray)).size : Int)) = true := by have e_ : wrap64 (2 + ((x3_1 ++ (⟨#[39]⟩ : ByteArray)).size : Int)) = 2 + ((x3_1 ++ (⟨#[39]⟩ : ByteArray)).size : Int) := (by unfold wrap64; simp only [decide_eq_false_iff_not, decide_eq_true_iff] at *; omega); rw [← e_]; exact c30b0)
                                  (try have c30b0p : (((rd_T28 t269 2).f3) = 2 + ((x3_1 ++ (⟨#[39]⟩ : ByteArray)).size : Int)) := by simpa using c30b0w)
                                  (try (have c30b0q := c30b0p; simp only [ByteArray.size_append, show (⟨#[39]⟩ : ByteArray).size = 1 from rfl] at c30b0q; push_cast at c30b0q))
                                  have c30b1 : (((rd_T28 t269 2).f3) != (wrap64 (2 + ((x3_1 ++ (⟨#[39]⟩ : ByteArray)).size : Int)))) = false := bne_eq_false_iff_eq.mpr c30
                                  clear c30
                                  replace H := Option.bind_eq_some_iff.mp H
                                  obtain ⟨t279, A310, H⟩ := H
                                  replace H : (some t279) = some r := H
                                  have A31 := Aside0.mk A310
                                  clear A310
                                  obtain rfl := Option.some.inj H
                                  go_wp2_with (first | ((with_reducible refine gate_callee (f := 10) rfl ?_); refine goesL_ (some 37) rfl rfl Tryd.func10 (by kernel_rfl) rfl #[.string (((⟨#[97, 32]⟩ : ByteArray) ++ (x3_1 ++ (⟨#[39]⟩ : ByteArray))) ++ (⟨#[98]⟩ : ByteArray))] rfl (by (try simp only [List.map_toArray, List.map_cons, List.map_nil]); first | done | rfl | (simp only [List.length_drop, List.length_take]; rfl)) ?_; (with_reducible refine (lex_Tokens.calls k1 (((⟨#[97, 32]⟩ : ByteArray) ++ (x3_1 ++ (⟨#[39]⟩ : ByteArray))) ++ (⟨#[98]⟩ : ByteArray)) t269 t270 t271 _ ?hwd34 A21.out).mono ?_); (case hwd34 => exact Wd.below hgw (by repeat (first | (with_reducible first | exact HB.out | apply below_alloc | apply pw_below_drewN | apply below_drew1) | exact HB.out))); rintro e w32 ⟨v272, rfl, ho0, hb⟩; refine ⟨_, rfl, ?_⟩; have n0_ := Aside0.mk (Kd.R_lower ho0 (below_size (by repeat (first | (with_reducible first | exact HB.out | apply below_alloc | apply pw_below_drewN | apply below_drew1) | exact HB.out)))); have n1_ := Aside0.mk (below_step (by repeat (first | (with_reducible first | exact HB.out | apply below_alloc | apply pw_below_drewN | apply below_drew1) | exact HB.out)) hb); clear HB; have HO273 := n0_; have HB := n1_; clear n0_ n1_; (try clear hb); (try clear hb2); (try clear hk); (try clear hi); (try clear ho0); obtain ⟨Ao33, co33, eo33⟩ := Kd.R_slice HO273.out; subst eo33; have p274 : 0 ≤ (1 : Int) := (by omega); have q274 : 1 < (t269.length : Int) := of_decide_eq_true (by first | (with_reducible assumption) | assumption); obtain ⟨ad274, e274, hx274_0, hx274_1, hx274_2, hx274_3⟩ := at_T28 (Kd.R_reads' HO273.out).2.2 1 p274 q274; cases e274; (try simp only [show (1 : Int).toNat = 1 from rfl, Nat.reduceMul, Nat.reduceEqDiff, Go.Addr.add, ↓reduceIte] at hx274_0); (try simp only [show (1 : Int).toNat = 1 from rfl, Nat.reduceMul, Nat.reduceEqDiff, Go.Addr.add, ↓reduceIte] at hx274_1); (try simp only [show (1 : Int).toNat = 1 from rfl, Nat.reduceMul, Nat.reduceEqDiff, Go.Addr.add, ↓reduceIte] at hx274_2); (try simp only [show (1 : Int).toNat = 1 from rfl, Nat.reduceMul, Nat.reduceEqDiff, Go.Addr.add, ↓reduceIte] at hx274_3); have qi274 : (1 < t269.length) = True := eq_true (by omega); (try rw [show ((1 : Int)).toNat = 1 from rfl] at hx274_0); (try rw [show 1 * 4 = 4 from rfl] at hx274_0); (try rw [show ((1 : Int)).toNat = 1 from rfl] at hx274_1); (try rw [show 1 * 4 = 4 from rfl] at hx274_1); (try rw [show ((1 : Int)).toNat = 1 from rfl] at hx274_2); (try rw [show 1 * 4 = 4 from rfl] at hx274_2); (try rw [show ((1 : Int)).toNat = 1 from rfl] at hx274_3); (try rw [show 1 * 4 = 4 from rfl] at hx274_3); replace p274 := eq_true p274; replace q274 := eq_true q274; have p275 : 0 ≤ (1 : Int) := (by omega); have q275 : 1 < (t269.length : Int) := of_decide_eq_true (by first | (with_reducible assumption) | assumption); obtain ⟨ad275, e275, hx275_0, hx275_1, hx275_2, hx275_3⟩ := at_T28 (Kd.R_reads' HO273.out).2.2 1 p275 q275; obtain rfl : ad274 = ad275 := (by injection e275); (try simp only [show (1 : Int).toNat = 1 from rfl, Nat.reduceMul, Nat.reduceEqDiff, Go.Addr.add, ↓reduceIte] at hx275_0); (try simp only [show (1 : Int).toNat = 1 from rfl, Nat.reduceMul, Nat.reduceEqDiff, Go.Addr.add, ↓reduceIte] at hx275_1); (try simp only [show (1 : Int).toNat = 1 from rfl, Nat.reduceMul, Nat.reduceEqDiff, Go.Addr.add, ↓reduceIte] at hx275_2); (try simp only [show (1 : Int).toNat = 1 from rfl, Nat.reduceMul, Nat.reduceEqDiff, Go.Addr.add, ↓reduceIte] at hx275_3); have qi275 : (1 < t269.length) = True := eq_true (by omega); (try rw [show ((1 : Int)).toNat = 1 from rfl] at hx275_0); (try rw [show 1 * 4 = 4 from rfl] at hx275_0); (try rw [show ((1 : Int)).toNat = 1 from rfl] at hx275_1); (try rw [show 1 * 4 = 4 from rfl] at hx275_1); (try rw [show ((1 : Int)).toNat = 1 from rfl] at hx275_2); (try rw [show 1 * 4 = 4 from rfl] at hx275_2); (try rw [show ((1 : Int)).toNat = 1 from rfl] at hx275_3); (try rw [show 1 * 4 = 4 from rfl] at hx275_3); replace p275 := eq_true p275; replace q275 := eq_true q275; have p276 : 0 ≤ (1 : Int) := (by omega); have q276 : 1 < (t269.length : Int) := of_decide_eq_true (by first | (with_reducible assumption) | assumption); obtain ⟨ad276, e276, hx276_0, hx276_1, hx276_2, hx276_3⟩ := at_T28 (Kd.R_reads' HO273.out).2.2 1 p276 q276; obtain rfl : ad274 = ad276 := (by injection e276); (try simp only [show (1 : Int).toNat = 1 from rfl, Nat.reduceMul, Nat.reduceEqDiff, Go.Addr.add, ↓reduceIte] at hx276_0); (try simp only [show (1 : Int).toNat = 1 from rfl, Nat.reduceMul, Nat.reduceEqDiff, Go.Addr.add, ↓reduceIte] at hx276_1); (try simp only [show (1 : Int).toNat = 1 from rfl, Nat.reduceMul, Nat.reduceEqDiff, Go.Addr.add, ↓reduceIte] at hx276_2); (try simp only [show (1 : Int).toNat = 1 from rfl, Nat.reduceMul, Nat.reduceEqDiff, Go.Addr.add, ↓reduceIte] at hx276_3); have qi276 : (1 < t269.length) = True := eq_true (by omega); (try rw [show ((1 : Int)).toNat = 1 from rfl] at hx276_0); (try rw [show 1 * 4 = 4 from rfl] at hx276_0); (try rw [show ((1 : Int)).toNat = 1 from rfl] at hx276_1); (try rw [show 1 * 4 = 4 from rfl] at hx276_1); (try rw [show ((1 : Int)).toNat = 1 from rfl] at hx276_2); (try rw [show 1 * 4 = 4 from rfl] at hx276_2); (try rw [show ((1 : Int)).toNat = 1 from rfl] at hx276_3); (try rw [show 1 * 4 = 4 from rfl] at hx276_3); replace p276 := eq_true p276; replace q276 := eq_true q276; have p277 : 0 ≤ (2 : Int) := (by omega); have q277 : 2 < (t269.length : Int) := of_decide_eq_true (by first | (with_reducible assumption) | assumption); obtain ⟨ad277, e277, hx277_0, hx277_1, hx277_2, hx277_3⟩ := at_T28 (Kd.R_reads' HO273.out).2.2 2 p277 q277; obtain rfl : ad274 = ad277 := (by injection e277); (try simp only [show (2 : Int).toNat = 2 from rfl, Nat.reduceMul, Nat.reduceEqDiff, Go.Addr.add, ↓reduceIte] at hx277_0); (try simp only [show (2 : Int).toNat = 2 from rfl, Nat.reduceMul, Nat.reduceEqDiff, Go.Addr.add, ↓reduceIte] at hx277_1); (try simp only [show (2 : Int).toNat = 2 from rfl, Nat.reduceMul, Nat.reduceEqDiff, Go.Addr.add, ↓reduceIte] at hx277_2); (try simp only [show (2 : Int).toNat = 2 from rfl, Nat.reduceMul, Nat.reduceEqDiff, Go.Addr.add, ↓reduceIte] at hx277_3); have qi277 : (2 < t269.length) = True := eq_true (by omega); (try rw [show ((2 : Int)).toNat = 2 from rfl] at hx277_0); (try rw [show 2 * 4 = 8 from rfl] at hx277_0); (try rw [show ((2 : Int)).toNat = 2 from rfl] at hx277_1); (try rw [show 2 * 4 = 8 from rfl] at hx277_1); (try rw [show ((2 : Int)).toNat = 2 from rfl] at hx277_2); (try rw [show 2 * 4 = 8 from rfl] at hx277_2); (try rw [show ((2 : Int)).toNat = 2 from rfl] at hx277_3); (try rw [show 2 * 4 = 8 from rfl] at hx277_3); replace p277 := eq_true p277; replace q277 := eq_true q277; have p278 : 0 ≤ (2 : Int) := (by omega); have q278 : 2 < (t269.length : Int) := of_decide_eq_true (by first | (with_reducible assumption) | assumption); obtain ⟨ad278, e278, hx278_0, hx278_1, hx278_2, hx278_3⟩ := at_T28 (Kd.R_reads' HO273.out).2.2 2 p278 q278; obtain rfl : ad274 = ad278 := (by injection e278); (try simp only [show (2 : Int).toNat = 2 from rfl, Nat.reduceMul, Nat.reduceEqDiff, Go.Addr.add, ↓reduceIte] at hx278_0); (try simp only [show (2 : Int).toNat = 2 from rfl, Nat.reduceMul, Nat.reduceEqDiff, Go.Addr.add, ↓reduceIte] at hx278_1); (try simp only [show (2 : Int).toNat = 2 from rfl, Nat.reduceMul, Nat.reduceEqDiff, Go.Addr.add, ↓reduceIte] at hx278_2); (try simp only [show (2 : Int).toNat = 2 from rfl, Nat.reduceMul, Nat.reduceEqDiff, Go.Addr.add, ↓reduceIte] at hx278_3); have qi278 : (2 < t269.length) = True := eq_true (by omega); (try rw [show ((2 : Int)).toNat = 2 from rfl] at hx278_0); (try rw [show 2 * 4 = 8 from rfl] at hx278_0); (try rw [show ((2 : Int)).toNat = 2 from rfl] at hx278_1); (try rw [show 2 * 4 = 8 from rfl] at hx278_1); (try rw [show ((2 : Int)).toNat = 2 from rfl] at hx278_2); (try rw [show 2 * 4 = 8 from rfl] at hx278_2); (try rw [show ((2 : Int)).toNat = 2 from rfl] at hx278_3); (try rw [show 2 * 4 = 8 from rfl] at hx278_3); replace p278 := eq_true p278; replace q278 := eq_true q278) | (go_at_call 9; (with_reducible refine (umlautlaw17_awake.calls k1  t279 _ ?hwd33 A31.out).mono ?_); (case hwd33 => exact Wd.below hgw (by repeat (first | (with_reducible first | exact HB.out | apply below_alloc | apply pw_below_drewN | apply below_drew1) | exact HB.out))); rintro e w34 ⟨rfl, hb⟩; have n0_ := Aside0.mk (Kd.R_below (by (with_reducible repeat (first | apply Kd.R_alloc | apply Kd.R_drewN | apply Kd.R_drew)); exact HO273.out) hb); have n1_ := Aside0.mk (below_step (by repeat (first | (with_reducible first | exact HB.out | apply below_alloc | apply pw_below_drewN | apply below_drew1) | exact HB.out)) hb); clear HO273; clear HB; have HO273 := n0_; have HB := n1_; clear n0_ n1_; (try clear hb); (try clear hb2); (try clear hk); (try clear hi)))
                                  go_ret
                                  exact ⟨by first | rfl | (simp [errW_none, errW_some] <;> rfl) | (simp [*, errW_none, errW_some] <;> rfl), by repeat (first | (with_reducible first | exact HB.out | apply below_alloc | apply pw_below_drewN | apply below_drew1) | exact HB.out)⟩
                                · rw [if_neg c30] at H
                                  have c30b0 : (((rd_T28 t269 2).f3) == (wrap64 (2 + ((x3_1 ++ (⟨#[39]⟩ : ByteArray)).size : Int)))) = false := beq_eq_false_iff_ne.mpr c30
                                  (try have c30b0w : (((rd_T28 t269 2).f3) == 2 + ((x3_1 ++ (⟨#[39]⟩ : ByteArray)).size : Int)) = false := by have e_ : wrap64 (2 + ((x3_1 ++ (⟨#[39]⟩ : ByteArray)).size : Int)) = 2 + ((x3_1 ++ (⟨#[39]⟩ : ByteArray)).size : Int) := (by unfold wrap64; simp only [decide_eq_false_iff_not, decide_eq_true_iff] at *; omega); rw [← e_]; exact c30b0)
                                  (try have c30b0p : ¬ (((rd_T28 t269 2).f3) = 2 + ((x3_1 ++ (⟨#[39]⟩ : ByteArray)).size : Int)) := by simpa using c30b0w)
                                  (try (have c30b0q := c30b0p; simp only [ByteArray.size_append, show (⟨#[39]⟩ : ByteArray).size = 1 from rfl] at c30b0q; push_cast at c30b0q))
                                  have c30b1 : (((rd_T28 t269 2).f3) != (wrap64 (2 + ((x3_1 ++ (⟨#[39]⟩ : ByteArray)).size : Int)))) = true := bne_iff_ne.mpr c30
                                  obtain rfl := Option.some.inj H
                                  go_wp2_with (first | ((with_reducible refine gate_callee (f := 10) rfl ?_); refine goesL_ (some 37) rfl rfl Tryd.func10 (by kernel_rfl) rfl #[.string (((⟨#[97, 32]⟩ : ByteArray) ++ (x3_1 ++ (⟨#[39]⟩ : ByteArray))) ++ (⟨#[98]⟩ : ByteArray))] rfl (by (try simp only [List.map_toArray, List.map_cons, List.map_nil]); first | done | rfl | (simp only [List.length_drop, List.length_take]; rfl)) ?_; (with_reducible refine (lex_Tokens.calls k1 (((⟨#[97, 32]⟩ : ByteArray) ++ (x3_1 ++ (⟨#[39]⟩ : ByteArray))) ++ (⟨#[98]⟩ : ByteArray)) t269 t270 t271 _ ?hwd35 A21.out).mono ?_); (case hwd35 => exact Wd.below hgw (by repeat (first | (with_reducible first | exact HB.out | apply below_alloc | apply pw_below_drewN | apply below_drew1) | exact HB.out))); rintro e w35 ⟨v272, rfl, ho0, hb⟩; refine ⟨_, rfl, ?_⟩; have n0_ := Aside0.mk (Kd.R_lower ho0 (below_size (by repeat (first | (with_reducible first | exact HB.out | apply below_alloc | apply pw_below_drewN | apply below_drew1) | exact HB.out)))); have n1_ := Aside0.mk (below_step (by repeat (first | (with_reducible first | exact HB.out | apply below_alloc | apply pw_below_drewN | apply below_drew1) | exact HB.out)) hb); clear HB; have HO273 := n0_; have HB := n1_; clear n0_ n1_; (try clear hb); (try clear hb2); (try clear hk); (try clear hi); (try clear ho0); obtain ⟨Ao36, co36, eo36⟩ := Kd.R_slice HO273.out; subst eo36; have p274 : 0 ≤ (1 : Int) := (by omega); have q274 : 1 < (t269.length : Int) := of_decide_eq_true (by first | (with_reducible assumption) | assumption); obtain ⟨ad274, e274, hx274_0, hx274_1, hx274_2, hx274_3⟩ := at_T28 (Kd.R_reads' HO273.out).2.2 1 p274 q274; cases e274; (try simp only [show (1 : Int).toNat = 1 from rfl, Nat.reduceMul, Nat.reduceEqDiff, Go.Addr.add, ↓reduceIte] at hx274_0); (try simp only [show (1 : Int).toNat = 1 from rfl, Nat.reduceMul, Nat.reduceEqDiff, Go.Addr.add, ↓reduceIte] at hx274_1); (try simp only [show (1 : Int).toNat = 1 from rfl, Nat.reduceMul, Nat.reduceEqDiff, Go.Addr.add, ↓reduceIte] at hx274_2); (try simp only [show (1 : Int).toNat = 1 from rfl, Nat.reduceMul, Nat.reduceEqDiff, Go.Addr.add, ↓reduceIte] at hx274_3); have qi274 : (1 < t269.length) = True := eq_true (by omega); (try rw [show ((1 : Int)).toNat = 1 from rfl] at hx274_0); (try rw [show 1 * 4 = 4 from rfl] at hx274_0); (try rw [show ((1 : Int)).toNat = 1 from rfl] at hx274_1); (try rw [show 1 * 4 = 4 from rfl] at hx274_1); (try rw [show ((1 : Int)).toNat = 1 from rfl] at hx274_2); (try rw [show 1 * 4 = 4 from rfl] at hx274_2); (try rw [show ((1 : Int)).toNat = 1 from rfl] at hx274_3); (try rw [show 1 * 4 = 4 from rfl] at hx274_3); replace p274 := eq_true p274; replace q274 := eq_true q274; have p275 : 0 ≤ (1 : Int) := (by omega); have q275 : 1 < (t269.length : Int) := of_decide_eq_true (by first | (with_reducible assumption) | assumption); obtain ⟨ad275, e275, hx275_0, hx275_1, hx275_2, hx275_3⟩ := at_T28 (Kd.R_reads' HO273.out).2.2 1 p275 q275; obtain rfl : ad274 = ad275 := (by injection e275); (try simp only [show (1 : Int).toNat = 1 from rfl, Nat.reduceMul, Nat.reduceEqDiff, Go.Addr.add, ↓reduceIte] at hx275_0); (try simp only [show (1 : Int).toNat = 1 from rfl, Nat.reduceMul, Nat.reduceEqDiff, Go.Addr.add, ↓reduceIte] at hx275_1); (try simp only [show (1 : Int).toNat = 1 from rfl, Nat.reduceMul, Nat.reduceEqDiff, Go.Addr.add, ↓reduceIte] at hx275_2); (try simp only [show (1 : Int).toNat = 1 from rfl, Nat.reduceMul, Nat.reduceEqDiff, Go.Addr.add, ↓reduceIte] at hx275_3); have qi275 : (1 < t269.length) = True := eq_true (by omega); (try rw [show ((1 : Int)).toNat = 1 from rfl] at hx275_0); (try rw [show 1 * 4 = 4 from rfl] at hx275_0); (try rw [show ((1 : Int)).toNat = 1 from rfl] at hx275_1); (try rw [show 1 * 4 = 4 from rfl] at hx275_1); (try rw [show ((1 : Int)).toNat = 1 from rfl] at hx275_2); (try rw [show 1 * 4 = 4 from rfl] at hx275_2); (try rw [show ((1 : Int)).toNat = 1 from rfl] at hx275_3); (try rw [show 1 * 4 = 4 from rfl] at hx275_3); replace p275 := eq_true p275; replace q275 := eq_true q275; have p276 : 0 ≤ (1 : Int) := (by omega); have q276 : 1 < (t269.length : Int) := of_decide_eq_true (by first | (with_reducible assumption) | assumption); obtain ⟨ad276, e276, hx276_0, hx276_1, hx276_2, hx276_3⟩ := at_T28 (Kd.R_reads' HO273.out).2.2 1 p276 q276; obtain rfl : ad274 = ad276 := (by injection e276); (try simp only [show (1 : Int).toNat = 1 from rfl, Nat.reduceMul, Nat.reduceEqDiff, Go.Addr.add, ↓reduceIte] at hx276_0); (try simp only [show (1 : Int).toNat = 1 from rfl, Nat.reduceMul, Nat.reduceEqDiff, Go.Addr.add, ↓reduceIte] at hx276_1); (try simp only [show (1 : Int).toNat = 1 from rfl, Nat.reduceMul, Nat.reduceEqDiff, Go.Addr.add, ↓reduceIte] at hx276_2); (try simp only [show (1 : Int).toNat = 1 from rfl, Nat.reduceMul, Nat.reduceEqDiff, Go.Addr.add, ↓reduceIte] at hx276_3); have qi276 : (1 < t269.length) = True := eq_true (by omega); (try rw [show ((1 : Int)).toNat = 1 from rfl] at hx276_0); (try rw [show 1 * 4 = 4 from rfl] at hx276_0); (try rw [show ((1 : Int)).toNat = 1 from rfl] at hx276_1); (try rw [show 1 * 4 = 4 from rfl] at hx276_1); (try rw [show ((1 : Int)).toNat = 1 from rfl] at hx276_2); (try rw [show 1 * 4 = 4 from rfl] at hx276_2); (try rw [show ((1 : Int)).toNat = 1 from rfl] at hx276_3); (try rw [show 1 * 4 = 4 from rfl] at hx276_3); replace p276 := eq_true p276; replace q276 := eq_true q276; have p277 : 0 ≤ (2 : Int) := (by omega); have q277 : 2 < (t269.length : Int) := of_decide_eq_true (by first | (with_reducible assumption) | assumption); obtain ⟨ad277, e277, hx277_0, hx277_1, hx277_2, hx277_3⟩ := at_T28 (Kd.R_reads' HO273.out).2.2 2 p277 q277; obtain rfl : ad274 = ad277 := (by injection e277); (try simp only [show (2 : Int).toNat = 2 from rfl, Nat.reduceMul, Nat.reduceEqDiff, Go.Addr.add, ↓reduceIte] at hx277_0); (try simp only [show (2 : Int).toNat = 2 from rfl, Nat.reduceMul, Nat.reduceEqDiff, Go.Addr.add, ↓reduceIte] at hx277_1); (try simp only [show (2 : Int).toNat = 2 from rfl, Nat.reduceMul, Nat.reduceEqDiff, Go.Addr.add, ↓reduceIte] at hx277_2); (try simp only [show (2 : Int).toNat = 2 from rfl, Nat.reduceMul, Nat.reduceEqDiff, Go.Addr.add, ↓reduceIte] at hx277_3); have qi277 : (2 < t269.length) = True := eq_true (by omega); (try rw [show ((2 : Int)).toNat = 2 from rfl] at hx277_0); (try rw [show 2 * 4 = 8 from rfl] at hx277_0); (try rw [show ((2 : Int)).toNat = 2 from rfl] at hx277_1); (try rw [show 2 * 4 = 8 from rfl] at hx277_1); (try rw [show ((2 : Int)).toNat = 2 from rfl] at hx277_2); (try rw [show 2 * 4 = 8 from rfl] at hx277_2); (try rw [show ((2 : Int)).toNat = 2 from rfl] at hx277_3); (try rw [show 2 * 4 = 8 from rfl] at hx277_3); replace p277 := eq_true p277; replace q277 := eq_true q277; have p278 : 0 ≤ (2 : Int) := (by omega); have q278 : 2 < (t269.length : Int) := of_decide_eq_true (by first | (with_reducible assumption) | assumption); obtain ⟨ad278, e278, hx278_0, hx278_1, hx278_2, hx278_3⟩ := at_T28 (Kd.R_reads' HO273.out).2.2 2 p278 q278; obtain rfl : ad274 = ad278 := (by injection e278); (try simp only [show (2 : Int).toNat = 2 from rfl, Nat.reduceMul, Nat.reduceEqDiff, Go.Addr.add, ↓reduceIte] at hx278_0); (try simp only [show (2 : Int).toNat = 2 from rfl, Nat.reduceMul, Nat.reduceEqDiff, Go.Addr.add, ↓reduceIte] at hx278_1); (try simp only [show (2 : Int).toNat = 2 from rfl, Nat.reduceMul, Nat.reduceEqDiff, Go.Addr.add, ↓reduceIte] at hx278_2); (try simp only [show (2 : Int).toNat = 2 from rfl, Nat.reduceMul, Nat.reduceEqDiff, Go.Addr.add, ↓reduceIte] at hx278_3); have qi278 : (2 < t269.length) = True := eq_true (by omega); (try rw [show ((2 : Int)).toNat = 2 from rfl] at hx278_0); (try rw [show 2 * 4 = 8 from rfl] at hx278_0); (try rw [show ((2 : Int)).toNat = 2 from rfl] at hx278_1); (try rw [show 2 * 4 = 8 from rfl] at hx278_1); (try rw [show ((2 : Int)).toNat = 2 from rfl] at hx278_2); (try rw [show 2 * 4 = 8 from rfl] at hx278_2); (try rw [show ((2 : Int)).toNat = 2 from rfl] at hx278_3); (try rw [show 2 * 4 = 8 from rfl] at hx278_3); replace p278 := eq_true p278; replace q278 := eq_true q278))
                                  go_ret
                                  exact ⟨by first | rfl | (simp [errW_none, errW_some] <;> rfl) | (simp [*, errW_none, errW_some] <;> rfl), by repeat (first | (with_reducible first | exact HB.out | apply below_alloc | apply pw_below_drewN | apply below_drew1) | exact HB.out)⟩
                              · rw [if_neg c29] at H
                                have c29b0 : (((rd_T28 t269 2).f1).toList == ([98] : List UInt8)) = false := beq_eq_false_iff_ne.mpr c29
                                have c29b1 : (((rd_T28 t269 2).f1).toList != ([98] : List UInt8)) = true := bne_iff_ne.mpr c29
                                obtain rfl := Option.some.inj H
                                go_wp2_with (first | ((with_reducible refine gate_callee (f := 10) rfl ?_); refine goesL_ (some 37) rfl rfl Tryd.func10 (by kernel_rfl) rfl #[.string (((⟨#[97, 32]⟩ : ByteArray) ++ (x3_1 ++ (⟨#[39]⟩ : ByteArray))) ++ (⟨#[98]⟩ : ByteArray))] rfl (by (try simp only [List.map_toArray, List.map_cons, List.map_nil]); first | done | rfl | (simp only [List.length_drop, List.length_take]; rfl)) ?_; (with_reducible refine (lex_Tokens.calls k1 (((⟨#[97, 32]⟩ : ByteArray) ++ (x3_1 ++ (⟨#[39]⟩ : ByteArray))) ++ (⟨#[98]⟩ : ByteArray)) t269 t270 t271 _ ?hwd36 A21.out).mono ?_); (case hwd36 => exact Wd.below hgw (by repeat (first | (with_reducible first | exact HB.out | apply below_alloc | apply pw_below_drewN | apply below_drew1) | exact HB.out))); rintro e w37 ⟨v272, rfl, ho0, hb⟩; refine ⟨_, rfl, ?_⟩; have n0_ := Aside0.mk (Kd.R_lower ho0 (below_size (by repeat (first | (with_reducible first | exact HB.out | apply below_alloc | apply pw_below_drewN | apply below_drew1) | exact HB.out)))); have n1_ := Aside0.mk (below_step (by repeat (first | (with_reducible first | exact HB.out | apply below_alloc | apply pw_below_drewN | apply below_drew1) | exact HB.out)) hb); clear HB; have HO273 := n0_; have HB := n1_; clear n0_ n1_; (try clear hb); (try clear hb2); (try clear hk); (try clear hi); (try clear ho0); obtain ⟨Ao38, co38, eo38⟩ := Kd.R_slice HO273.out; subst eo38; have p274 : 0 ≤ (1 : Int) := (by omega); have q274 : 1 < (t269.length : Int) := of_decide_eq_true (by first | (with_reducible assumption) | assumption); obtain ⟨ad274, e274, hx274_0, hx274_1, hx274_2, hx274_3⟩ := at_T28 (Kd.R_reads' HO273.out).2.2 1 p274 q274; cases e274; (try simp only [show (1 : Int).toNat = 1 from rfl, Nat.reduceMul, Nat.reduceEqDiff, Go.Addr.add, ↓reduceIte] at hx274_0); (try simp only [show (1 : Int).toNat = 1 from rfl, Nat.reduceMul, Nat.reduceEqDiff, Go.Addr.add, ↓reduceIte] at hx274_1); (try simp only [show (1 : Int).toNat = 1 from rfl, Nat.reduceMul, Nat.reduceEqDiff, Go.Addr.add, ↓reduceIte] at hx274_2); (try simp only [show (1 : Int).toNat = 1 from rfl, Nat.reduceMul, Nat.reduceEqDiff, Go.Addr.add, ↓reduceIte] at hx274_3); have qi274 : (1 < t269.length) = True := eq_true (by omega); (try rw [show ((1 : Int)).toNat = 1 from rfl] at hx274_0); (try rw [show 1 * 4 = 4 from rfl] at hx274_0); (try rw [show ((1 : Int)).toNat = 1 from rfl] at hx274_1); (try rw [show 1 * 4 = 4 from rfl] at hx274_1); (try rw [show ((1 : Int)).toNat = 1 from rfl] at hx274_2); (try rw [show 1 * 4 = 4 from rfl] at hx274_2); (try rw [show ((1 : Int)).toNat = 1 from rfl] at hx274_3); (try rw [show 1 * 4 = 4 from rfl] at hx274_3); replace p274 := eq_true p274; replace q274 := eq_true q274; have p275 : 0 ≤ (1 : Int) := (by omega); have q275 : 1 < (t269.length : Int) := of_decide_eq_true (by first | (with_reducible assumption) | assumption); obtain ⟨ad275, e275, hx275_0, hx275_1, hx275_2, hx275_3⟩ := at_T28 (Kd.R_reads' HO273.out).2.2 1 p275 q275; obtain rfl : ad274 = ad275 := (by injection e275); (try simp only [show (1 : Int).toNat = 1 from rfl, Nat.reduceMul, Nat.reduceEqDiff, Go.Addr.add, ↓reduceIte] at hx275_0); (try simp only [show (1 : Int).toNat = 1 from rfl, Nat.reduceMul, Nat.reduceEqDiff, Go.Addr.add, ↓reduceIte] at hx275_1); (try simp only [show (1 : Int).toNat = 1 from rfl, Nat.reduceMul, Nat.reduceEqDiff, Go.Addr.add, ↓reduceIte] at hx275_2); (try simp only [show (1 : Int).toNat = 1 from rfl, Nat.reduceMul, Nat.reduceEqDiff, Go.Addr.add, ↓reduceIte] at hx275_3); have qi275 : (1 < t269.length) = True := eq_true (by omega); (try rw [show ((1 : Int)).toNat = 1 from rfl] at hx275_0); (try rw [show 1 * 4 = 4 from rfl] at hx275_0); (try rw [show ((1 : Int)).toNat = 1 from rfl] at hx275_1); (try rw [show 1 * 4 = 4 from rfl] at hx275_1); (try rw [show ((1 : Int)).toNat = 1 from rfl] at hx275_2); (try rw [show 1 * 4 = 4 from rfl] at hx275_2); (try rw [show ((1 : Int)).toNat = 1 from rfl] at hx275_3); (try rw [show 1 * 4 = 4 from rfl] at hx275_3); replace p275 := eq_true p275; replace q275 := eq_true q275; have p276 : 0 ≤ (1 : Int) := (by omega); have q276 : 1 < (t269.length : Int) := of_decide_eq_true (by first | (with_reducible assumption) | assumption); obtain ⟨ad276, e276, hx276_0, hx276_1, hx276_2, hx276_3⟩ := at_T28 (Kd.R_reads' HO273.out).2.2 1 p276 q276; obtain rfl : ad274 = ad276 := (by injection e276); (try simp only [show (1 : Int).toNat = 1 from rfl, Nat.reduceMul, Nat.reduceEqDiff, Go.Addr.add, ↓reduceIte] at hx276_0); (try simp only [show (1 : Int).toNat = 1 from rfl, Nat.reduceMul, Nat.reduceEqDiff, Go.Addr.add, ↓reduceIte] at hx276_1); (try simp only [show (1 : Int).toNat = 1 from rfl, Nat.reduceMul, Nat.reduceEqDiff, Go.Addr.add, ↓reduceIte] at hx276_2); (try simp only [show (1 : Int).toNat = 1 from rfl, Nat.reduceMul, Nat.reduceEqDiff, Go.Addr.add, ↓reduceIte] at hx276_3); have qi276 : (1 < t269.length) = True := eq_true (by omega); (try rw [show ((1 : Int)).toNat = 1 from rfl] at hx276_0); (try rw [show 1 * 4 = 4 from rfl] at hx276_0); (try rw [show ((1 : Int)).toNat = 1 from rfl] at hx276_1); (try rw [show 1 * 4 = 4 from rfl] at hx276_1); (try rw [show ((1 : Int)).toNat = 1 from rfl] at hx276_2); (try rw [show 1 * 4 = 4 from rfl] at hx276_2); (try rw [show ((1 : Int)).toNat = 1 from rfl] at hx276_3); (try rw [show 1 * 4 = 4 from rfl] at hx276_3); replace p276 := eq_true p276; replace q276 := eq_true q276; have p277 : 0 ≤ (2 : Int) := (by omega); have q277 : 2 < (t269.length : Int) := of_decide_eq_true (by first | (with_reducible assumption) | assumption); obtain ⟨ad277, e277, hx277_0, hx277_1, hx277_2, hx277_3⟩ := at_T28 (Kd.R_reads' HO273.out).2.2 2 p277 q277; obtain rfl : ad274 = ad277 := (by injection e277); (try simp only [show (2 : Int).toNat = 2 from rfl, Nat.reduceMul, Nat.reduceEqDiff, Go.Addr.add, ↓reduceIte] at hx277_0); (try simp only [show (2 : Int).toNat = 2 from rfl, Nat.reduceMul, Nat.reduceEqDiff, Go.Addr.add, ↓reduceIte] at hx277_1); (try simp only [show (2 : Int).toNat = 2 from rfl, Nat.reduceMul, Nat.reduceEqDiff, Go.Addr.add, ↓reduceIte] at hx277_2); (try simp only [show (2 : Int).toNat = 2 from rfl, Nat.reduceMul, Nat.reduceEqDiff, Go.Addr.add, ↓reduceIte] at hx277_3); have qi277 : (2 < t269.length) = True := eq_true (by omega); (try rw [show ((2 : Int)).toNat = 2 from rfl] at hx277_0); (try rw [show 2 * 4 = 8 from rfl] at hx277_0); (try rw [show ((2 : Int)).toNat = 2 from rfl] at hx277_1); (try rw [show 2 * 4 = 8 from rfl] at hx277_1); (try rw [show ((2 : Int)).toNat = 2 from rfl] at hx277_2); (try rw [show 2 * 4 = 8 from rfl] at hx277_2); (try rw [show ((2 : Int)).toNat = 2 from rfl] at hx277_3); (try rw [show 2 * 4 = 8 from rfl] at hx277_3); replace p277 := eq_true p277; replace q277 := eq_true q277))
                                go_ret
                                exact ⟨by first | rfl | (simp [errW_none, errW_some] <;> rfl) | (simp [*, errW_none, errW_some] <;> rfl), by repeat (first | (with_reducible first | exact HB.out | apply below_alloc | apply pw_below_drewN | apply below_drew1) | exact HB.out)⟩
                            · rw [if_neg c28] at H
                              exact absurd H (by simp)
                          · rw [if_neg c27] at H
                            have c27b0 : (((rd_T28 t269 1).f3) == 2) = false := beq_eq_false_iff_ne.mpr c27
                            have c27b1 : (((rd_T28 t269 1).f3) != 2) = true := bne_iff_ne.mpr c27
                            obtain rfl := Option.some.inj H
                            go_wp2_with (first | ((with_reducible refine gate_callee (f := 10) rfl ?_); refine goesL_ (some 37) rfl rfl Tryd.func10 (by kernel_rfl) rfl #[.string (((⟨#[97, 32]⟩ : ByteArray) ++ (x3_1 ++ (⟨#[39]⟩ : ByteArray))) ++ (⟨#[98]⟩ : ByteArray))] rfl (by (try simp only [List.map_toArray, List.map_cons, List.map_nil]); first | done | rfl | (simp only [List.length_drop, List.length_take]; rfl)) ?_; (with_reducible refine (lex_Tokens.calls k1 (((⟨#[97, 32]⟩ : ByteArray) ++ (x3_1 ++ (⟨#[39]⟩ : ByteArray))) ++ (⟨#[98]⟩ : ByteArray)) t269 t270 t271 _ ?hwd37 A21.out).mono ?_); (case hwd37 => exact Wd.below hgw (by repeat (first | (with_reducible first | exact HB.out | apply below_alloc | apply pw_below_drewN | apply below_drew1) | exact HB.out))); rintro e w39 ⟨v272, rfl, ho0, hb⟩; refine ⟨_, rfl, ?_⟩; have n0_ := Aside0.mk (Kd.R_lower ho0 (below_size (by repeat (first | (with_reducible first | exact HB.out | apply below_alloc | apply pw_below_drewN | apply below_drew1) | exact HB.out)))); have n1_ := Aside0.mk (below_step (by repeat (first | (with_reducible first | exact HB.out | apply below_alloc | apply pw_below_drewN | apply below_drew1) | exact HB.out)) hb); clear HB; have HO273 := n0_; have HB := n1_; clear n0_ n1_; (try clear hb); (try clear hb2); (try clear hk); (try clear hi); (try clear ho0); obtain ⟨Ao40, co40, eo40⟩ := Kd.R_slice HO273.out; subst eo40; have p274 : 0 ≤ (1 : Int) := (by omega); have q274 : 1 < (t269.length : Int) := of_decide_eq_true (by first | (with_reducible assumption) | assumption); obtain ⟨ad274, e274, hx274_0, hx274_1, hx274_2, hx274_3⟩ := at_T28 (Kd.R_reads' HO273.out).2.2 1 p274 q274; cases e274; (try simp only [show (1 : Int).toNat = 1 from rfl, Nat.reduceMul, Nat.reduceEqDiff, Go.Addr.add, ↓reduceIte] at hx274_0); (try simp only [show (1 : Int).toNat = 1 from rfl, Nat.reduceMul, Nat.reduceEqDiff, Go.Addr.add, ↓reduceIte] at hx274_1); (try simp only [show (1 : Int).toNat = 1 from rfl, Nat.reduceMul, Nat.reduceEqDiff, Go.Addr.add, ↓reduceIte] at hx274_2); (try simp only [show (1 : Int).toNat = 1 from rfl, Nat.reduceMul, Nat.reduceEqDiff, Go.Addr.add, ↓reduceIte] at hx274_3); have qi274 : (1 < t269.length) = True := eq_true (by omega); (try rw [show ((1 : Int)).toNat = 1 from rfl] at hx274_0); (try rw [show 1 * 4 = 4 from rfl] at hx274_0); (try rw [show ((1 : Int)).toNat = 1 from rfl] at hx274_1); (try rw [show 1 * 4 = 4 from rfl] at hx274_1); (try rw [show ((1 : Int)).toNat = 1 from rfl] at hx274_2); (try rw [show 1 * 4 = 4 from rfl] at hx274_2); (try rw [show ((1 : Int)).toNat = 1 from rfl] at hx274_3); (try rw [show 1 * 4 = 4 from rfl] at hx274_3); replace p274 := eq_true p274; replace q274 := eq_true q274; have p275 : 0 ≤ (1 : Int) := (by omega); have q275 : 1 < (t269.length : Int) := of_decide_eq_true (by first | (with_reducible assumption) | assumption); obtain ⟨ad275, e275, hx275_0, hx275_1, hx275_2, hx275_3⟩ := at_T28 (Kd.R_reads' HO273.out).2.2 1 p275 q275; obtain rfl : ad274 = ad275 := (by injection e275); (try simp only [show (1 : Int).toNat = 1 from rfl, Nat.reduceMul, Nat.reduceEqDiff, Go.Addr.add, ↓reduceIte] at hx275_0); (try simp only [show (1 : Int).toNat = 1 from rfl, Nat.reduceMul, Nat.reduceEqDiff, Go.Addr.add, ↓reduceIte] at hx275_1); (try simp only [show (1 : Int).toNat = 1 from rfl, Nat.reduceMul, Nat.reduceEqDiff, Go.Addr.add, ↓reduceIte] at hx275_2); (try simp only [show (1 : Int).toNat = 1 from rfl, Nat.reduceMul, Nat.reduceEqDiff, Go.Addr.add, ↓reduceIte] at hx275_3); have qi275 : (1 < t269.length) = True := eq_true (by omega); (try rw [show ((1 : Int)).toNat = 1 from rfl] at hx275_0); (try rw [show 1 * 4 = 4 from rfl] at hx275_0); (try rw [show ((1 : Int)).toNat = 1 from rfl] at hx275_1); (try rw [show 1 * 4 = 4 from rfl] at hx275_1); (try rw [show ((1 : Int)).toNat = 1 from rfl] at hx275_2); (try rw [show 1 * 4 = 4 from rfl] at hx275_2); (try rw [show ((1 : Int)).toNat = 1 from rfl] at hx275_3); (try rw [show 1 * 4 = 4 from rfl] at hx275_3); replace p275 := eq_true p275; replace q275 := eq_true q275; have p276 : 0 ≤ (1 : Int) := (by omega); have q276 : 1 < (t269.length : Int) := of_decide_eq_true (by first | (with_reducible assumption) | assumption); obtain ⟨ad276, e276, hx276_0, hx276_1, hx276_2, hx276_3⟩ := at_T28 (Kd.R_reads' HO273.out).2.2 1 p276 q276; obtain rfl : ad274 = ad276 := (by injection e276); (try simp only [show (1 : Int).toNat = 1 from rfl, Nat.reduceMul, Nat.reduceEqDiff, Go.Addr.add, ↓reduceIte] at hx276_0); (try simp only [show (1 : Int).toNat = 1 from rfl, Nat.reduceMul, Nat.reduceEqDiff, Go.Addr.add, ↓reduceIte] at hx276_1); (try simp only [show (1 : Int).toNat = 1 from rfl, Nat.reduceMul, Nat.reduceEqDiff, Go.Addr.add, ↓reduceIte] at hx276_2); (try simp only [show (1 : Int).toNat = 1 from rfl, Nat.reduceMul, Nat.reduceEqDiff, Go.Addr.add, ↓reduceIte] at hx276_3); have qi276 : (1 < t269.length) = True := eq_true (by omega); (try rw [show ((1 : Int)).toNat = 1 from rfl] at hx276_0); (try rw [show 1 * 4 = 4 from rfl] at hx276_0); (try rw [show ((1 : Int)).toNat = 1 from rfl] at hx276_1); (try rw [show 1 * 4 = 4 from rfl] at hx276_1); (try rw [show ((1 : Int)).toNat = 1 from rfl] at hx276_2); (try rw [show 1 * 4 = 4 from rfl] at hx276_2); (try rw [show ((1 : Int)).toNat = 1 from rfl] at hx276_3); (try rw [show 1 * 4 = 4 from rfl] at hx276_3); replace p276 := eq_true p276; replace q276 := eq_true q276))
                            go_ret
                            exact ⟨by first | rfl | (simp [errW_none, errW_some] <;> rfl) | (simp [*, errW_none, errW_some] <;> rfl), by repeat (first | (with_reducible first | exact HB.out | apply below_alloc | apply pw_below_drewN | apply below_drew1) | exact HB.out)⟩
                        · rw [if_neg c26] at H
                          have c26b0 : (((rd_T28 t269 1).f1).toList == a0.toList) = false := beq_eq_false_iff_ne.mpr c26
                          have c26b1 : (((rd_T28 t269 1).f1).toList != a0.toList) = true := bne_iff_ne.mpr c26
                          obtain rfl := Option.some.inj H
                          go_wp2_with (first | ((with_reducible refine gate_callee (f := 10) rfl ?_); refine goesL_ (some 37) rfl rfl Tryd.func10 (by kernel_rfl) rfl #[.string (((⟨#[97, 32]⟩ : ByteArray) ++ (x3_1 ++ (⟨#[39]⟩ : ByteArray))) ++ (⟨#[98]⟩ : ByteArray))] rfl (by (try simp only [List.map_toArray, List.map_cons, List.map_nil]); first | done | rfl | (simp only [List.length_drop, List.length_take]; rfl)) ?_; (with_reducible refine (lex_Tokens.calls k1 (((⟨#[97, 32]⟩ : ByteArray) ++ (x3_1 ++ (⟨#[39]⟩ : ByteArray))) ++ (⟨#[98]⟩ : ByteArray)) t269 t270 t271 _ ?hwd38 A21.out).mono ?_); (case hwd38 => exact Wd.below hgw (by repeat (first | (with_reducible first | exact HB.out | apply below_alloc | apply pw_below_drewN | apply below_drew1) | exact HB.out))); rintro e w41 ⟨v272, rfl, ho0, hb⟩; refine ⟨_, rfl, ?_⟩; have n0_ := Aside0.mk (Kd.R_lower ho0 (below_size (by repeat (first | (with_reducible first | exact HB.out | apply below_alloc | apply pw_below_drewN | apply below_drew1) | exact HB.out)))); have n1_ := Aside0.mk (below_step (by repeat (first | (with_reducible first | exact HB.out | apply below_alloc | apply pw_below_drewN | apply below_drew1) | exact HB.out)) hb); clear HB; have HO273 := n0_; have HB := n1_; clear n0_ n1_; (try clear hb); (try clear hb2); (try clear hk); (try clear hi); (try clear ho0); obtain ⟨Ao42, co42, eo42⟩ := Kd.R_slice HO273.out; subst eo42; have p274 : 0 ≤ (1 : Int) := (by omega); have q274 : 1 < (t269.length : Int) := of_decide_eq_true (by first | (with_reducible assumption) | assumption); obtain ⟨ad274, e274, hx274_0, hx274_1, hx274_2, hx274_3⟩ := at_T28 (Kd.R_reads' HO273.out).2.2 1 p274 q274; cases e274; (try simp only [show (1 : Int).toNat = 1 from rfl, Nat.reduceMul, Nat.reduceEqDiff, Go.Addr.add, ↓reduceIte] at hx274_0); (try simp only [show (1 : Int).toNat = 1 from rfl, Nat.reduceMul, Nat.reduceEqDiff, Go.Addr.add, ↓reduceIte] at hx274_1); (try simp only [show (1 : Int).toNat = 1 from rfl, Nat.reduceMul, Nat.reduceEqDiff, Go.Addr.add, ↓reduceIte] at hx274_2); (try simp only [show (1 : Int).toNat = 1 from rfl, Nat.reduceMul, Nat.reduceEqDiff, Go.Addr.add, ↓reduceIte] at hx274_3); have qi274 : (1 < t269.length) = True := eq_true (by omega); (try rw [show ((1 : Int)).toNat = 1 from rfl] at hx274_0); (try rw [show 1 * 4 = 4 from rfl] at hx274_0); (try rw [show ((1 : Int)).toNat = 1 from rfl] at hx274_1); (try rw [show 1 * 4 = 4 from rfl] at hx274_1); (try rw [show ((1 : Int)).toNat = 1 from rfl] at hx274_2); (try rw [show 1 * 4 = 4 from rfl] at hx274_2); (try rw [show ((1 : Int)).toNat = 1 from rfl] at hx274_3); (try rw [show 1 * 4 = 4 from rfl] at hx274_3); replace p274 := eq_true p274; replace q274 := eq_true q274; have p275 : 0 ≤ (1 : Int) := (by omega); have q275 : 1 < (t269.length : Int) := of_decide_eq_true (by first | (with_reducible assumption) | assumption); obtain ⟨ad275, e275, hx275_0, hx275_1, hx275_2, hx275_3⟩ := at_T28 (Kd.R_reads' HO273.out).2.2 1 p275 q275; obtain rfl : ad274 = ad275 := (by injection e275); (try simp only [show (1 : Int).toNat = 1 from rfl, Nat.reduceMul, Nat.reduceEqDiff, Go.Addr.add, ↓reduceIte] at hx275_0); (try simp only [show (1 : Int).toNat = 1 from rfl, Nat.reduceMul, Nat.reduceEqDiff, Go.Addr.add, ↓reduceIte] at hx275_1); (try simp only [show (1 : Int).toNat = 1 from rfl, Nat.reduceMul, Nat.reduceEqDiff, Go.Addr.add, ↓reduceIte] at hx275_2); (try simp only [show (1 : Int).toNat = 1 from rfl, Nat.reduceMul, Nat.reduceEqDiff, Go.Addr.add, ↓reduceIte] at hx275_3); have qi275 : (1 < t269.length) = True := eq_true (by omega); (try rw [show ((1 : Int)).toNat = 1 from rfl] at hx275_0); (try rw [show 1 * 4 = 4 from rfl] at hx275_0); (try rw [show ((1 : Int)).toNat = 1 from rfl] at hx275_1); (try rw [show 1 * 4 = 4 from rfl] at hx275_1); (try rw [show ((1 : Int)).toNat = 1 from rfl] at hx275_2); (try rw [show 1 * 4 = 4 from rfl] at hx275_2); (try rw [show ((1 : Int)).toNat = 1 from rfl] at hx275_3); (try rw [show 1 * 4 = 4 from rfl] at hx275_3); replace p275 := eq_true p275; replace q275 := eq_true q275))
                          go_ret
                          exact ⟨by first | rfl | (simp [errW_none, errW_some] <;> rfl) | (simp [*, errW_none, errW_some] <;> rfl), by repeat (first | (with_reducible first | exact HB.out | apply below_alloc | apply pw_below_drewN | apply below_drew1) | exact HB.out)⟩
                      · rw [if_neg c25] at H
                        have c25b0 : (((rd_T28 t269 1).f0) == 4) = false := beq_eq_false_iff_ne.mpr c25
                        have c25b1 : (((rd_T28 t269 1).f0) != 4) = true := bne_iff_ne.mpr c25
                        obtain rfl := Option.some.inj H
                        go_wp2_with (first | ((with_reducible refine gate_callee (f := 10) rfl ?_); refine goesL_ (some 37) rfl rfl Tryd.func10 (by kernel_rfl) rfl #[.string (((⟨#[97, 32]⟩ : ByteArray) ++ (x3_1 ++ (⟨#[39]⟩ : ByteArray))) ++ (⟨#[98]⟩ : ByteArray))] rfl (by (try simp only [List.map_toArray, List.map_cons, List.map_nil]); first | done | rfl | (simp only [List.length_drop, List.length_take]; rfl)) ?_; (with_reducible refine (lex_Tokens.calls k1 (((⟨#[97, 32]⟩ : ByteArray) ++ (x3_1 ++ (⟨#[39]⟩ : ByteArray))) ++ (⟨#[98]⟩ : ByteArray)) t269 t270 t271 _ ?hwd39 A21.out).mono ?_); (case hwd39 => exact Wd.below hgw (by repeat (first | (with_reducible first | exact HB.out | apply below_alloc | apply pw_below_drewN | apply below_drew1) | exact HB.out))); rintro e w43 ⟨v272, rfl, ho0, hb⟩; refine ⟨_, rfl, ?_⟩; have n0_ := Aside0.mk (Kd.R_lower ho0 (below_size (by repeat (first | (with_reducible first | exact HB.out | apply below_alloc | apply pw_below_drewN | apply below_drew1) | exact HB.out)))); have n1_ := Aside0.mk (below_step (by repeat (first | (with_reducible first | exact HB.out | apply below_alloc | apply pw_below_drewN | apply below_drew1) | exact HB.out)) hb); clear HB; have HO273 := n0_; have HB := n1_; clear n0_ n1_; (try clear hb); (try clear hb2); (try clear hk); (try clear hi); (try clear ho0); obtain ⟨Ao44, co44, eo44⟩ := Kd.R_slice HO273.out; subst eo44; have p274 : 0 ≤ (1 : Int) := (by omega); have q274 : 1 < (t269.length : Int) := of_decide_eq_true (by first | (with_reducible assumption) | assumption); obtain ⟨ad274, e274, hx274_0, hx274_1, hx274_2, hx274_3⟩ := at_T28 (Kd.R_reads' HO273.out).2.2 1 p274 q274; cases e274; (try simp only [show (1 : Int).toNat = 1 from rfl, Nat.reduceMul, Nat.reduceEqDiff, Go.Addr.add, ↓reduceIte] at hx274_0); (try simp only [show (1 : Int).toNat = 1 from rfl, Nat.reduceMul, Nat.reduceEqDiff, Go.Addr.add, ↓reduceIte] at hx274_1); (try simp only [show (1 : Int).toNat = 1 from rfl, Nat.reduceMul, Nat.reduceEqDiff, Go.Addr.add, ↓reduceIte] at hx274_2); (try simp only [show (1 : Int).toNat = 1 from rfl, Nat.reduceMul, Nat.reduceEqDiff, Go.Addr.add, ↓reduceIte] at hx274_3); have qi274 : (1 < t269.length) = True := eq_true (by omega); (try rw [show ((1 : Int)).toNat = 1 from rfl] at hx274_0); (try rw [show 1 * 4 = 4 from rfl] at hx274_0); (try rw [show ((1 : Int)).toNat = 1 from rfl] at hx274_1); (try rw [show 1 * 4 = 4 from rfl] at hx274_1); (try rw [show ((1 : Int)).toNat = 1 from rfl] at hx274_2); (try rw [show 1 * 4 = 4 from rfl] at hx274_2); (try rw [show ((1 : Int)).toNat = 1 from rfl] at hx274_3); (try rw [show 1 * 4 = 4 from rfl] at hx274_3); replace p274 := eq_true p274; replace q274 := eq_true q274))
                        go_ret
                        exact ⟨by first | rfl | (simp [errW_none, errW_some] <;> rfl) | (simp [*, errW_none, errW_some] <;> rfl), by repeat (first | (with_reducible first | exact HB.out | apply below_alloc | apply pw_below_drewN | apply below_drew1) | exact HB.out)⟩
                    · rw [if_neg c24] at H
                      exact absurd H (by simp)
                  · rw [if_neg c23] at H
                    have c23b0 : ((t269.length : Int) == 3) = false := beq_eq_false_iff_ne.mpr c23
                    have c23b1 : ((t269.length : Int) != 3) = true := bne_iff_ne.mpr c23
                    obtain rfl := Option.some.inj H
                    go_wp2_with (first | ((with_reducible refine gate_callee (f := 10) rfl ?_); refine goesL_ (some 37) rfl rfl Tryd.func10 (by kernel_rfl) rfl #[.string (((⟨#[97, 32]⟩ : ByteArray) ++ (x3_1 ++ (⟨#[39]⟩ : ByteArray))) ++ (⟨#[98]⟩ : ByteArray))] rfl (by (try simp only [List.map_toArray, List.map_cons, List.map_nil]); first | done | rfl | (simp only [List.length_drop, List.length_take]; rfl)) ?_; (with_reducible refine (lex_Tokens.calls k1 (((⟨#[97, 32]⟩ : ByteArray) ++ (x3_1 ++ (⟨#[39]⟩ : ByteArray))) ++ (⟨#[98]⟩ : ByteArray)) t269 t270 t271 _ ?hwd40 A21.out).mono ?_); (case hwd40 => exact Wd.below hgw (by repeat (first | (with_reducible first | exact HB.out | apply below_alloc | apply pw_below_drewN | apply below_drew1) | exact HB.out))); rintro e w45 ⟨v272, rfl, ho0, hb⟩; refine ⟨_, rfl, ?_⟩; have n0_ := Aside0.mk (Kd.R_lower ho0 (below_size (by repeat (first | (with_reducible first | exact HB.out | apply below_alloc | apply pw_below_drewN | apply below_drew1) | exact HB.out)))); have n1_ := Aside0.mk (below_step (by repeat (first | (with_reducible first | exact HB.out | apply below_alloc | apply pw_below_drewN | apply below_drew1) | exact HB.out)) hb); clear HB; have HO273 := n0_; have HB := n1_; clear n0_ n1_; (try clear hb); (try clear hb2); (try clear hk); (try clear hi); (try clear ho0); obtain ⟨Ao46, co46, eo46⟩ := Kd.R_slice HO273.out; subst eo46))
                    go_ret
                    exact ⟨by first | rfl | (simp [errW_none, errW_some] <;> rfl) | (simp [*, errW_none, errW_some] <;> rfl), by repeat (first | (with_reducible first | exact HB.out | apply below_alloc | apply pw_below_drewN | apply below_drew1) | exact HB.out)⟩
                · rw [if_neg c22] at H
                  have c22b0 : (t271 == 0) = false := beq_eq_false_iff_ne.mpr c22
                  have c22b1 : (t271 != 0) = true := bne_iff_ne.mpr c22
                  obtain rfl := Option.some.inj H
                  go_wp2_with (first | ((with_reducible refine gate_callee (f := 10) rfl ?_); refine goesL_ (some 37) rfl rfl Tryd.func10 (by kernel_rfl) rfl #[.string (((⟨#[97, 32]⟩ : ByteArray) ++ (x3_1 ++ (⟨#[39]⟩ : ByteArray))) ++ (⟨#[98]⟩ : ByteArray))] rfl (by (try simp only [List.map_toArray, List.map_cons, List.map_nil]); first | done | rfl | (simp only [List.length_drop, List.length_take]; rfl)) ?_; (with_reducible refine (lex_Tokens.calls k1 (((⟨#[97, 32]⟩ : ByteArray) ++ (x3_1 ++ (⟨#[39]⟩ : ByteArray))) ++ (⟨#[98]⟩ : ByteArray)) t269 t270 t271 _ ?hwd41 A21.out).mono ?_); (case hwd41 => exact Wd.below hgw (by repeat (first | (with_reducible first | exact HB.out | apply below_alloc | apply pw_below_drewN | apply below_drew1) | exact HB.out))); rintro e w47 ⟨v272, rfl, ho0, hb⟩; refine ⟨_, rfl, ?_⟩; have n0_ := Aside0.mk (Kd.R_lower ho0 (below_size (by repeat (first | (with_reducible first | exact HB.out | apply below_alloc | apply pw_below_drewN | apply below_drew1) | exact HB.out)))); have n1_ := Aside0.mk (below_step (by repeat (first | (with_reducible first | exact HB.out | apply below_alloc | apply pw_below_drewN | apply below_drew1) | exact HB.out)) hb); clear HB; have HO273 := n0_; have HB := n1_; clear n0_ n1_; (try clear hb); (try clear hb2); (try clear hk); (try clear hi); (try clear ho0)))
                  go_ret
                  exact ⟨by first | rfl | (simp [errW_none, errW_some] <;> rfl) | (simp [*, errW_none, errW_some] <;> rfl), by repeat (first | (with_reducible first | exact HB.out | apply below_alloc | apply pw_below_drewN | apply below_drew1) | exact HB.out)⟩
              · rw [if_neg c20] at H
                exact absurd H (by simp)
            · rw [if_neg c19] at H
              exact absurd H (by simp)
          · rw [if_neg c18] at H
            exact absurd H (by simp)

/-- THE ONE PURE STATEMENT of umlautlaw17_LexTexts: yours. -/
def umlautlaw17_LexTexts.Pure : Prop := ∀ (a0 : ByteArray), a0.size ≤ 140737488351232 → ∃ k, umlautlaw17_LexTexts.f k a0 = some true
theorem umlautlaw17_LexTexts.walk (P : umlautlaw17_LexTexts.Pure) (a0 : ByteArray) (w : World) (hgw : Wd w) (w0 : a0.size ≤ 140737488351232) :
    Calls Tryd.prog 7 #[.string a0] w fun e w' => e = .returned (.bool true) ∧ Below w.heap.size w w' := by
  obtain ⟨k, h⟩ := P a0 w0
  refine (umlautlaw17_LexTexts.calls k a0 true w hgw h).mono ?_
  rintro e w' ⟨rfl, hd⟩
  exact ⟨rfl, hd⟩

end Go.Proofs.YtobhcpfdgfkeiaaDoor.Lx

namespace Go.Proofs.YtobhcpfdgfkeiaaDoor.Lx
open Go.RowKit Go.Proofs.YtobhcpfdgfkeiaaDoorW.PrintWords Go.Proofs.YtobhcpfdgfkeiaaDoorW.PrintLast Go.Proofs.YtobhcpfdgfkeiaaDoorW.PrintMore Go.Proofs.YtobhcpfdgfkeiaaDoor.Lf Go.Proofs.YtobhcpfdgfkeiaaDoor.Ext
attribute [local go_sem] max2_int min2_int max_two min_two max_three min_three max_four min_four   -- for this text's walks alone
set_option linter.unusedVariables false
set_option linter.unusedSimpArgs false

/-! ### umlautlaw17_LexRemarks: function 3 -/
def umlautlaw17_LexRemarks.l0 : Nat → ByteArray → Int → Option (Bool)
  | 0, _, _ => none
  | k + 1, x0, x3 => if x3 < (x0.size : Int) then (if 0 ≤ x3 then (if (bt x0 x3) = 10 then ((umlautlaw17_awake.f k).bind fun t304 => (some t304)) else (umlautlaw17_LexRemarks.l0 k x0 (wrap64 (x3 + 1)))) else (none)) else (if (x0.size : Int) > 500 then ((umlautlaw17_awake.f k).bind fun t305 => (some t305)) else (if 4 + x0.size ≤ 9223372036854775807 then (if ((⟨#[97, 32, 45, 45]⟩ : ByteArray) ++ x0).size + 2 ≤ 9223372036854775807 then ((lex_Tokens.f k (((⟨#[97, 32, 45, 45]⟩ : ByteArray) ++ x0) ++ (⟨#[10, 98]⟩ : ByteArray))).bind fun bt306 => ((lex_Tokens.f k ((⟨#[97, 32, 45, 45]⟩ : ByteArray) ++ x0)).bind fun bt311 => (if bt306.2.2 = 0 then (if (bt306.1.length : Int) = 2 then (if 1 < (bt306.1.length : Int) then (if ((rd_T28 bt306.1 1).f1).toList = ([98] : List UInt8) then (if ((rd_T28 bt306.1 1).f3) = (wrap64 ((x0.size : Int) + 5)) then (if bt311.2.2 = 0 then (if (bt311.1.length : Int) = 1 then ((umlautlaw17_awake.f k).bind fun t318 => (some t318)) else (some false)) else (some false)) else (some false)) else (some false)) else (none)) else (some false)) else (some false)))) else (none)) else (none)))
def umlautlaw17_LexRemarks.f (k : Nat) (a0 : ByteArray) : Option (Bool) := umlautlaw17_LexRemarks.l0 k a0 0
theorem umlautlaw17_LexRemarks.mono_l : ∀ k, (∀ y0 y1, LeO (umlautlaw17_LexRemarks.l0 k y0 y1) (umlautlaw17_LexRemarks.l0 (k + 1) y0 y1))
  | 0 => fun _ _ r h => by simp [umlautlaw17_LexRemarks.l0] at h
  | k + 1 => by
    have ih0 := umlautlaw17_LexRemarks.mono_l k
    · intro y0 y1
      unfold umlautlaw17_LexRemarks.l0
      repeat' first
      | (with_reducible exact ih0 _ _)
      | (with_reducible exact lex_Tokens.mono _ _)
      | (with_reducible exact umlautlaw17_awake.mono _)
      | (with_reducible exact LeO.refl _)
      | (with_reducible exact LeO.none _)
      | (with_reducible refine LeO.ite ?_ ?_)
      | (with_reducible refine LeO.bind ?_ (fun _ => ?_))
      | exact ih0 _ _
      | exact lex_Tokens.mono _ _
      | exact umlautlaw17_awake.mono _
      | exact LeO.none _
      | refine LeO.ite ?_ ?_
      | refine LeO.bind ?_ (fun _ => ?_)
theorem umlautlaw17_LexRemarks.mono : ∀ a0 k, LeO (umlautlaw17_LexRemarks.f k a0) (umlautlaw17_LexRemarks.f (k + 1) a0) := by
  intro a0 k
  have ih0 := umlautlaw17_LexRemarks.mono_l k
  unfold umlautlaw17_LexRemarks.f
  repeat' first
      | (with_reducible exact ih0 _ _)
      | (with_reducible exact lex_Tokens.mono _ _)
      | (with_reducible exact umlautlaw17_awake.mono _)
      | (with_reducible exact LeO.refl _)
      | (with_reducible exact LeO.none _)
      | (with_reducible refine LeO.ite ?_ ?_)
      | (with_reducible refine LeO.bind ?_ (fun _ => ?_))
      | exact ih0 _ _
      | exact lex_Tokens.mono _ _
      | exact umlautlaw17_awake.mono _
      | exact LeO.none _
      | refine LeO.ite ?_ ?_
      | refine LeO.bind ?_ (fun _ => ?_)
end Go.Proofs.YtobhcpfdgfkeiaaDoor.Lx

namespace Go.Proofs.YtobhcpfdgfkeiaaDoor.Lp
open Go.RowKit Go.Proofs.YtobhcpfdgfkeiaaDoorW.PrintWords Go.Proofs.YtobhcpfdgfkeiaaDoor.Ext Go.Proofs.YtobhcpfdgfkeiaaDoor.Lx Go.Proofs.YtobhcpfdgfkeiaaDoor.Lf
set_option linter.unusedVariables false

def dbl1 (c : UInt8) : Bytes := if c.toNat = 39 then [39, 39] else [c]
def dblq : Bytes → Bytes
  | [] => []
  | c :: x => dbl1 c ++ dblq x
theorem dblq_app (x y : Bytes) : dblq (x ++ y) = dblq x ++ dblq y := by
  induction x with
  | nil => rfl
  | cons c x ih => rw [List.cons_append, dblq, ih, dblq, List.append_assoc]
theorem dblq_len (x : Bytes) : (dblq x).length ≤ 2 * x.length := by
  induction x with
  | nil => exact Nat.le_refl _
  | cons c x ih =>
    rw [dblq, List.length_append, List.length_cons]
    have : (dbl1 c).length ≤ 2 := by unfold dbl1; split <;> simp
    omega
theorem textOf_dbl (x : Bytes) : textOf (dblq x ++ [39, 98]) = some (x, (dblq x).length + 1) := by
  induction x with
  | nil => rfl
  | cons c x ih =>
    rw [dblq]
    unfold dbl1
    by_cases h : c.toNat = 39
    · have e : c = 39 := UInt8.toNat_inj.mp h
      rw [if_pos h, List.append_assoc]
      show textOf (39 :: 39 :: (dblq x ++ [39, 98])) = _
      rw [textOf.eq_def]
      simp only
      rw [if_pos (by decide), if_pos (by decide), ih, e]
      simp only [Option.map_some, List.length_append, List.length_cons, List.length_nil]
      congr 2; omega
    · rw [if_neg h, List.append_assoc]
      show textOf (c :: (dblq x ++ [39, 98])) = _
      rw [textOf.eq_def]
      simp only
      rw [if_neg h, ih]
      simp only [Option.map_some, List.length_append, List.length_cons, List.length_nil]
      congr 2; omega
theorem isRem_ne {c : UInt8} (h : (c == 45) = false) (l : Bytes) : isRem (c :: l) = false := by
  cases l with
  | nil => rfl
  | cons d l => simp only [isRem]; rw [h, Bool.false_and]
theorem tok_name1 (c : UInt8) (r : Bytes) (hl : isLet c = true) (hs : spanOf isNam (c :: r) = 1) (hw : isWord (Lib.toUpperA [c]) = false) : tokL (c :: r) = some ⟨1, ⟨(Lib.toLowerA [c]).toArray⟩, 0, 1⟩ := by
  rw [tokL_cons, if_pos hl, hs, if_neg (by decide), show (c :: r).take 1 = [c] from rfl, hw]; rfl
theorem tok_97 (r : Bytes) : tokL (97 :: 32 :: r) = some ⟨1, ⟨#[97]⟩, 0, 1⟩ := tok_name1 97 _ (by decide) (by rw [spanOf_cons_yes (by decide), spanOf_cons_no (by decide)]) (by decide +kernel)
theorem tok_98 : tokL [98] = some ⟨1, ⟨#[98]⟩, 0, 1⟩ := tok_name1 98 _ (by decide) (by rfl) (by decide +kernel)
theorem from_98 (acc : List Tup) (i : Nat) : fromAt mkT acc i [98] = (acc ++ [(1, ⟨#[98]⟩, 0, (i : Int))], 0, 0) := by
  rw [fromAt_tok mkT acc i (c := 98) (l := []) (by decide) (by rfl), tok_98]
  exact fromAt_nil mkT _ _
theorem from_97 (r : Bytes) : fromAt mkT [] 0 (97 :: 32 :: r) = fromAt mkT [(1, ⟨#[97]⟩, 0, 0)] 2 r := by
  rw [fromAt_tok mkT [] 0 (c := 97) (by decide) (isRem_ne (by decide) _), tok_97]
  exact fromAt_blank mkT _ 1 (by decide)
theorem lex_text (x : Bytes) (h : x.length ≤ 1000) : lexL mkT (97 :: 32 :: 39 :: (dblq x ++ [39, 98])) = ([(1, ⟨#[97]⟩, 0, 0), (4, ⟨x.toArray⟩, 0, 2), (1, ⟨#[98]⟩, 0, (((dblq x).length + 4 : Nat) : Int))], 0, 0) := by
  have hd := dblq_len x
  rw [lexL_from, if_neg (by simp only [List.length_cons, List.length_append, List.length_nil]; omega), from_97]
  rw [fromAt_tok mkT _ 2 (c := 39) (by decide) (isRem_ne (by decide) _), tokL_cons, if_neg (by decide), if_neg (by decide), if_pos (by decide), textOf_dbl]
  simp only [Option.map_some]
  rw [show (39 :: (dblq x ++ [39, 98]) : Bytes).drop ((dblq x).length + 1 + 1) = [98] from by
    rw [List.drop_succ_cons, List.drop_append, List.drop_eq_nil_of_le (by omega), show (dblq x).length + 1 - (dblq x).length = 1 by omega]; rfl]
  rw [from_98, show 2 + ((dblq x).length + 1 + 1) = (dblq x).length + 4 by omega]
  rfl

theorem ba_list (s : ByteArray) : (⟨s.data.toList.toArray⟩ : ByteArray) = s := by apply WideShapes.bytes_inj; rfl
theorem app_data (a b : ByteArray) : (a ++ b).data.toList = a.data.toList ++ b.data.toList := by rw [ByteArray.data_append]; simp
theorem size_list (s : ByteArray) : s.size = s.data.toList.length := (len_size s).symm

theorem texts_loop (s : ByteArray) (hs : s.size ≤ 1000) : ∀ (d k i : Nat) (q : ByteArray), i ≤ s.size → s.size - i ≤ d → d + 10000 < k → q.data.toList = 39 :: dblq (s.data.toList.take i) → umlautlaw17_LexTexts.l0 k s q (i : Int) = some true := by
  intro d
  induction d with
  | zero =>
    intro k i q hi hd hk hq
    obtain ⟨k, rfl⟩ : ∃ m, k = m + 1 := ⟨k - 1, by omega⟩
    have hls := len_size s
    rw [List.take_of_length_le (by omega)] at hq
    have hd := dblq_len s.data.toList
    have hqs : q.size = (dblq s.data.toList).length + 1 := by rw [size_list, hq]; rfl
    have hq1 : (q ++ (⟨#[39]⟩ : ByteArray)).size = (dblq s.data.toList).length + 2 := by rw [ByteArray.size_append, hqs]; rfl
    have hq2 : ((⟨#[97, 32]⟩ : ByteArray) ++ (q ++ (⟨#[39]⟩ : ByteArray))).size = (dblq s.data.toList).length + 4 := by rw [ByteArray.size_append, hq1]; show 2 + _ = _; omega
    simp only [umlautlaw17_LexTexts.l0]
    rw [if_neg (by omega), if_pos (by omega), if_pos (by omega), if_pos (by omega), lex_tok _ k (by omega)]
    rw [app_data, app_data, app_data, hq]
    rw [show (⟨#[97, 32]⟩ : ByteArray).data.toList ++ (39 :: dblq s.data.toList ++ (⟨#[39]⟩ : ByteArray).data.toList) ++ (⟨#[98]⟩ : ByteArray).data.toList = 97 :: 32 :: 39 :: (dblq s.data.toList ++ [39, 98]) from by
      show [97, 32] ++ (39 :: dblq s.data.toList ++ [39]) ++ [98] = _
      simp]
    rw [lex_text _ (by omega)]
    simp only [Option.bind_some]
    rw [if_pos True.intro, if_pos (by rfl), if_pos (by simp), if_pos (by rfl)]
    rw [if_pos (by exact congrArg ByteArray.toList (ba_list s)), if_pos (by rfl), if_pos (by simp), if_pos (by simp only [Lib.toList_data]; rfl), hq1]
    rw [if_pos (by show (((dblq s.data.toList).length + 4 : Nat) : Int) = _; unfold wrap64; omega), awake_eq k (by omega)]
    rfl
  | succ d ih =>
    intro k i q hi hd hk hq
    obtain ⟨k, rfl⟩ : ∃ m, k = m + 1 := ⟨k - 1, by omega⟩
    by_cases hlt : i < s.size
    · have hls := len_size s
      have hd2 := dblq_len (s.data.toList.take i)
      rw [List.length_take] at hd2
      have hqs : q.size = (dblq (s.data.toList.take i)).length + 1 := by rw [size_list, hq]; rfl
      have hx := ext_run s i 1
      have hes : (s.extract i (i + 1)).size = 1 := ext_one_size hlt
      have hta : s.data.toList.take (i + 1) = s.data.toList.take i ++ [s[i]] := by
        rw [List.take_add_one, List.getElem?_eq_getElem (by omega)]; rfl
      simp only [umlautlaw17_LexTexts.l0]
      rw [if_pos (by omega), if_pos (by omega), bt_nat hlt, wrap_add1 _ (by omega)]
      by_cases hc : s[i].toNat = 39
      · have e : s[i] = 39 := UInt8.toNat_inj.mp hc
        rw [if_pos (by omega), if_pos (by omega), if_pos (by omega), if_pos (by omega), Int.toNat_natCast, Int.toNat_natCast]
        rw [if_pos (by rw [ByteArray.size_append, hes]; show q.size + 1 + 1 ≤ _; omega)]
        refine ih k (i + 1) _ (by omega) (by omega) (by omega) ?_
        rw [app_data, app_data, hq, ext_one hlt, hta, dblq_app, e]
        show 39 :: dblq (s.data.toList.take i) ++ [39] ++ [39] = _
        rw [List.append_assoc]; rfl
      · rw [if_neg (by omega), if_pos (by omega), if_pos (by omega), Int.toNat_natCast, Int.toNat_natCast]
        rw [if_pos (by rw [hes]; omega)]
        refine ih k (i + 1) _ (by omega) (by omega) (by omega) ?_
        rw [app_data, hq, ext_one hlt, hta, dblq_app]
        have : dblq [s[i]] = [s[i]] := by show dbl1 s[i] ++ [] = _; unfold dbl1; rw [if_neg hc]; rfl
        rw [this]; rfl
    · exact ih (k + 1) i q hi (by omega) (by omega) hq
theorem pure_texts (a0 : ByteArray) : umlautlaw17_LexTexts.f 20001 a0 = some true := by
  unfold umlautlaw17_LexTexts.f
  by_cases h0 : (a0.size : Int) > 1000
  · rw [if_pos h0, awake_eq 20001 (by decide)]; rfl
  · rw [if_neg h0]
    exact texts_loop a0 (by omega) 1000 20001 0 _ (Nat.zero_le _) (by omega) (by decide) rfl

theorem spanOf_all (p : UInt8 → Bool) : ∀ (x r : Bytes), (∀ c, c ∈ x → p c = true) → spanOf p (x ++ r) = x.length + spanOf p r
  | [], r, _ => by simp
  | c :: x, r, h => by
    rw [List.cons_append, spanOf_cons_yes (h c (List.mem_cons_self ..)), spanOf_all p x r (fun d hd => h d (List.mem_cons_of_mem _ hd)), List.length_cons]; omega
theorem lex_rem1 (x : Bytes) (h : x.length ≤ 500) (hx : ∀ c, c ∈ x → notLf c = true) : lexL mkT (97 :: 32 :: 45 :: 45 :: (x ++ [10, 98])) = ([(1, ⟨#[97]⟩, 0, 0), (1, ⟨#[98]⟩, 0, ((x.length + 5 : Nat) : Int))], 0, 0) := by
  rw [lexL_from, if_neg (by simp only [List.length_cons, List.length_append, List.length_nil]; omega), from_97]
  have hs : spanOf notLf (45 :: 45 :: (x ++ [10, 98])) = x.length + 2 := by
    rw [spanOf_cons_yes (by decide), spanOf_cons_yes (by decide), spanOf_all _ _ _ hx, spanOf_cons_no (by decide)]
  rw [fromAt_rem mkT _ 2 (c := 45) (by decide) (by rfl), hs]
  rw [show (45 :: 45 :: (x ++ [10, 98]) : Bytes).drop (x.length + 2) = [10, 98] from by
    rw [List.drop_succ_cons, List.drop_succ_cons, List.drop_append, List.drop_eq_nil_of_le (by omega), show x.length - x.length = 0 by omega]; rfl]
  rw [fromAt_blank mkT _ _ (by decide), from_98, show 2 + (x.length + 2) + 1 = x.length + 5 by omega]
  rfl
theorem lex_rem2 (x : Bytes) (h : x.length ≤ 500) (hx : ∀ c, c ∈ x → notLf c = true) : lexL mkT (97 :: 32 :: 45 :: 45 :: x) = ([(1, ⟨#[97]⟩, 0, 0)], 0, 0) := by
  rw [lexL_from, if_neg (by simp only [List.length_cons]; omega), from_97]
  have hs : spanOf notLf (45 :: 45 :: x) = x.length + 2 := by
    have := spanOf_all notLf x [] hx
    rw [List.append_nil] at this
    rw [spanOf_cons_yes (by decide), spanOf_cons_yes (by decide), this]; rfl
  rw [fromAt_rem mkT _ 2 (c := 45) (by decide) (by rfl), hs]
  rw [show (45 :: 45 :: x : Bytes).drop (x.length + 2) = [] from List.drop_eq_nil_of_le (by simp)]
  exact fromAt_nil mkT _ _

theorem rem_end (n k : Nat) (z : Int) (hz : ((n + 5 : Nat) : Int) = z) (ha : umlautlaw17_awake.f k = some true) : (((some ((([(1, ⟨#[97]⟩, 0, 0), (1, ⟨#[98]⟩, 0, ((n + 5 : Nat) : Int))] : List Tup).map t28, 0, 0) : List S28 × Int × Int)).bind fun bt306 => ((some ((([(1, ⟨#[97]⟩, 0, 0)] : List Tup).map t28, 0, 0) : List S28 × Int × Int)).bind fun bt311 => (if bt306.2.2 = 0 then (if (bt306.1.length : Int) = 2 then (if 1 < (bt306.1.length : Int) then (if ((rd_T28 bt306.1 1).f1).toList = ([98] : List UInt8) then (if ((rd_T28 bt306.1 1).f3) = z then (if bt311.2.2 = 0 then (if (bt311.1.length : Int) = 1 then ((umlautlaw17_awake.f k).bind fun t318 => (some t318)) else (some false)) else (some false)) else (some false)) else (some false)) else (none)) else (some false)) else (some false))))) = some true := by
  rw [ha]
  subst hz
  simp [rd_T28, t28, Lib.toList_data]
theorem remarks_loop (s : ByteArray) (hs : s.size ≤ 140737488351232) : ∀ (d k i : Nat), i ≤ s.size → s.size - i ≤ d → d + 10000 < k → (∀ c, c ∈ s.data.toList.take i → notLf c = true) → umlautlaw17_LexRemarks.l0 k s (i : Int) = some true := by
  intro d
  induction d with
  | zero =>
    intro k i hi hd hk hq
    obtain ⟨k, rfl⟩ : ∃ m, k = m + 1 := ⟨k - 1, by omega⟩
    have hls := len_size s
    rw [List.take_of_length_le (by omega)] at hq
    simp only [umlautlaw17_LexRemarks.l0]
    rw [if_neg (by omega)]
    by_cases hb : (s.size : Int) > 500
    · rw [if_pos hb, awake_eq k (by omega)]; rfl
    · have hz : ((⟨#[97, 32, 45, 45]⟩ : ByteArray) ++ s).size = 4 + s.size := by rw [ByteArray.size_append]; rfl
      rw [if_neg hb, if_pos (by omega), if_pos (by omega), lex_tok _ k (by omega), lex_tok _ k (by omega)]
      rw [app_data, app_data]
      rw [show (⟨#[97, 32, 45, 45]⟩ : ByteArray).data.toList ++ s.data.toList ++ (⟨#[10, 98]⟩ : ByteArray).data.toList = 97 :: 32 :: 45 :: 45 :: (s.data.toList ++ [10, 98]) from rfl]
      rw [show (⟨#[97, 32, 45, 45]⟩ : ByteArray).data.toList ++ s.data.toList = 97 :: 32 :: 45 :: 45 :: s.data.toList from rfl]
      rw [lex_rem1 _ (by omega) hq, lex_rem2 _ (by omega) hq]
      exact rem_end s.data.toList.length k _ (by rw [hls]; unfold wrap64; omega) (awake_eq k (by omega))
  | succ d ih =>
    intro k i hi hd hk hq
    obtain ⟨k, rfl⟩ : ∃ m, k = m + 1 := ⟨k - 1, by omega⟩
    by_cases hlt : i < s.size
    · simp only [umlautlaw17_LexRemarks.l0]
      rw [if_pos (by omega), if_pos (by omega), bt_nat hlt, wrap_add1 _ (by omega)]
      by_cases hc : s[i].toNat = 10
      · rw [if_pos (by omega), awake_eq k (by omega)]; rfl
      · rw [if_neg (by omega)]
        refine ih k (i + 1) (by omega) (by omega) (by omega) ?_
        intro c h
        have hls := len_size s
        rw [List.take_add_one, List.getElem?_eq_getElem (by omega)] at h
        simp only [Option.toList_some, List.mem_append, List.mem_singleton] at h
        rcases h with h | h
        · exact hq c h
        · rw [h, show s.data.toList[i] = s[i] from rfl]; unfold notLf; rw [decide_eq_false hc]; rfl
    · exact ih (k + 1) i hi (by omega) (by omega) hq
theorem pure_remarks (a0 : ByteArray) (h : a0.size ≤ 140737488351232) : umlautlaw17_LexRemarks.f (a0.size + 10001) a0 = some true := by
  unfold umlautlaw17_LexRemarks.f
  exact remarks_loop a0 h a0.size _ 0 (Nat.zero_le _) (by omega) (by omega) (by simp)
end Go.Proofs.YtobhcpfdgfkeiaaDoor.Lp

namespace Go.Proofs.YtobhcpfdgfkeiaaDoor.lexTexts
open Go.ChangeShapes Go.WideShapes Go.ChangeAt Go.RowKit
open Go.ChangeMaps (open_string shut_string)
set_option linter.unusedVariables false
theorem own : ownKnob Tryd.prog.godebug = none := by kernel_rfl
theorem laid_met (os : Os) : laidMet Tryd.prog Rows.lexTextsRow.laid ((World.laidAll Tryd.prog os Rows.lexTextsRow.laid).forCall (fun _ _ => 0) ⟨#[], #[.string ByteArray.empty], []⟩).memory :=
  laidMet_laidAll _ (by kernel_rfl) (by kernel_rfl)
set_option maxRecDepth 100000 in
theorem lifted (os : Os) (started : os.Started) (H : Type) (enc : TypeId × Value → H) (F : Stop.Interp) :
    ReturnsInHanded {} Tryd.checked os 7 .any ((OpenSpec.ofChange Rows.lexTextsSpec).preRow enc Tryd.prog Tryd.f7 Rows.lexTextsRow.domain false Rows.lexTextsRow.laid) (((OpenSpec.ofChange Rows.lexTextsSpec).at F).post enc Tryd.prog Tryd.f7 false true false false) := by
  refine returnsInHanded_of_row (C := Tryd.checked) (s := OpenSpec.ofChange Rows.lexTextsSpec) own started (by kernel_rfl) Tryd.func7
    (ChangeSpec.witness_shaped (enc := enc) (C := Tryd.checked) (os := os) (X := fun w _ => laidMetH Tryd.prog Rows.lexTextsRow.laid w) false (World.laidAll Tryd.prog os Rows.lexTextsRow.laid) #[.string ByteArray.empty] 8 (World.laidAll_os _ _ _)
      (World.shaped_of_ZipB (by kernel_rfl) (by kernel_rfl)) (by kernel_rfl) (by kernel_rfl) (by kernel_rfl)
      (by rw [MakeChecks.laidMetH_plain _ _ _ (by kernel_rfl)]; exact laid_met os)) ?_
  intro W base args ds gs before hval0 hW hcnd _ hsz0 hL hS _
  have hgw : Ext.Wd W := by
    rw [MakeChecks.laidMetH_plain _ _ _ (by kernel_rfl)] at hL
    exact Rw.wd_of (by unfold Rows.lexTextsRow; simp) (by unfold Rows.lexTextsRow; simp) hL hS
  have hsz : (DataW.weightsEach Tryd.prog (Tryd.f7.params.toList ++ Rows.lexTextsSpec.plain.varTypes Tryd.prog) (ds ++ gs)).all (· ≤ reachBytes) = true := hsz0
  have hval : ∀ (j : Nat) t v, Tryd.f7.params[j]? = some t → args[j]? = some v → Value.okWide Tryd.prog W .any base t v := hval0
  have hW' := hW
  obtain ⟨p, q, hA0, hV, rfl, hfz, hnd⟩ := hW
  have hA : DataW.TrodAll enc Tryd.prog W 0 (fun _ => true) true Tryd.f7.params.toList args.toList ds p := hA0
  rw [Tryd.params7] at hA hval hsz
  obtain ⟨v0, vs0, d0, ds0, p0, q0, hargs, rfl, rfl, h0, r0⟩ := trodAll_cons hA
  obtain ⟨rfl, rfl, rfl⟩ := trodAll_nil r0
  obtain rfl : args = #[v0] := by cases args; simp_all
  obtain ⟨rfl, rfl⟩ := trodVars_none hV
  obtain ⟨a0, rfl, rfl, rfl, y0⟩ := open_string Tryd.underlying9 (hval 0 9 v0 rfl rfl) h0
  have w0 : a0.size ≤ 140737488351232 := by
    have z := sized_string hsz (j := 0) (t := 9) rfl rfl
    rw [Array.length_toList] at z
    exact z
  clear hA0 hval0 hsz0 hsz
  refine (Lx.umlautlaw17_LexTexts.walk (fun a h => ⟨_, Lp.pure_texts a⟩) a0 W hgw w0).mono fun e W' ⟨he, bel⟩ => ?_
  subst he
  exact ⟨_, rfl, _, _, _, [], _, [], hW', trodAll_mk1 (shut_bool Tryd.underlying4 _), (trodAll_cons_mk (shut_string Tryd.underlying9 y0) trodAll_mk0), rfl, bel.frame _, fun h => by cases h⟩
theorem said : Rows.LexTextsSaid :=
  OpenClaim.holds_of_cond 7 Tryd.f7 rfl rfl rfl rfl rfl rfl rfl ⟨rfl, rfl, rfl, rfl, rfl⟩ rfl rfl rfl rfl rfl (by kernel_rfl) Tryd.func7 (by kernel_rfl)
    (of_decide_eq_true (by kernel_rfl)) (by unfold Func.isWrapper; first | (rw [if_pos (by decide +kernel)]; kernel_rfl) | (rw [if_neg (by decide +kernel)]; exact ⟨rfl, rfl⟩))
    (fun os started H enc _ F => by rw [OpenClaim.pre_eq_preRow]; exact lifted os started H enc F)
theorem plain (f : FuncId) (fn : Func) (hf : Tryd.pinned.checked.prog.funcNamed "umlaut/umlautlaw17.LexTexts" = some f) (hfn : Tryd.pinned.checked.prog.funcs[f]? = some fn) :
    true = Tryd.pinned.checked.prog.looks [] ∧ ∀ (j : Nat) t, fn.params[j]? = some t → Tryd.pinned.checked.prog.wantsStandIn t = false := by
  obtain rfl : f = 7 := Option.some.inj ((show Tryd.prog.funcNamed "umlaut/umlautlaw17.LexTexts" = some 7 by kernel_rfl).symm.trans hf) |>.symm
  obtain rfl : fn = Tryd.f7 := (Option.some.inj (Tryd.func7.symm.trans hfn)).symm
  refine ⟨by kernel_rfl, fun j t ht => ?_⟩
  rw [Tryd.params7] at ht
  have hm : t ∈ [9] := by
    have := Array.mem_of_getElem? ht
    simp at this ⊢
    omega
  have hall : ([9].all fun u => !Tryd.prog.wantsStandIn u) = true := by kernel_rfl
  exact (show Tryd.prog.wantsStandIn t = false by simpa using List.all_eq_true.1 hall t hm)
theorem card : Rows.LexTextsCardSaid :=
  Claim7.holds_tied_plain_at .later [] _ _ _ _ said (fun _ h => by cases h) (by kernel_rfl) (fun _ h => by cases h) lexTexts_row_tie rfl ⟨rfl, rfl⟩ (by kernel_rfl) rfl plain (by kernel_rfl)
#print axioms card
end Go.Proofs.YtobhcpfdgfkeiaaDoor.lexTexts
namespace Go.Proofs.YtobhcpfdgfkeiaaDoor
/-- The card, under a short name, for the claim. -/
theorem lexTexts_card : Rows.LexTextsCardSaid := lexTexts.card
end Go.Proofs.YtobhcpfdgfkeiaaDoor
