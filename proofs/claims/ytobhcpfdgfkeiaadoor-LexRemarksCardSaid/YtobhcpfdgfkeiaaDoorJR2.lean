/-
  Texts of this claim, joined: part 3 of 3.
-/
import Derived.Test.YtobhcpfdgfkeiaaDoorJR0
import Derived.Test.YtobhcpfdgfkeiaaDoorJR1
import Derived.Test.YtobhcpfdgfkeiaaDoorCards
import Derived.Test.YtobhcpfdgfkeiaaDoorTie
import Derived.WalkKit
import Derived.ProofKit
import Derived.OpenShut
import Derived.ShutString
import Derived.ChangeOld
import Derived.Below
import Derived.SizedLaws
import Derived.Deep.DeepHandedRow
import Derived.Lay
namespace Go.Proofs.YtobhcpfdgfkeiaaDoor.Lx
open Go.RowKit Go.Proofs.YtobhcpfdgfkeiaaDoorW.PrintWords Go.Proofs.YtobhcpfdgfkeiaaDoorW.PrintLast Go.Proofs.YtobhcpfdgfkeiaaDoorW.PrintMore Go.Proofs.YtobhcpfdgfkeiaaDoor.Lf Go.Proofs.YtobhcpfdgfkeiaaDoor.Ext
attribute [local go_sem] max2_int min2_int max_two min_two max_three min_three max_four min_four   -- for this text's walks alone
set_option linter.unusedVariables false
set_option linter.unusedSimpArgs false

/-! ### umlautref17_op: function 26 -/
def umlautref17_op.j0 : Nat → ByteArray → Option (ByteArray)
  | 0, _ => none
  | k + 1, x0 => if 0 < (x0.size : Int) then (if (bt x0 0) = 40 then (if 0 ≤ 1 then (if 1 ≤ (x0.size : Int) then (some (x0.extract 0 1)) else (none)) else (none)) else (if (bt x0 0) = 41 then (if 0 ≤ 1 then (if 1 ≤ (x0.size : Int) then (some (x0.extract 0 1)) else (none)) else (none)) else (if (bt x0 0) = 44 then (if 0 ≤ 1 then (if 1 ≤ (x0.size : Int) then (some (x0.extract 0 1)) else (none)) else (none)) else (if (bt x0 0) = 46 then (if 0 ≤ 1 then (if 1 ≤ (x0.size : Int) then (some (x0.extract 0 1)) else (none)) else (none)) else (if (bt x0 0) = 59 then (if 0 ≤ 1 then (if 1 ≤ (x0.size : Int) then (some (x0.extract 0 1)) else (none)) else (none)) else (if (bt x0 0) = 42 then (if 0 ≤ 1 then (if 1 ≤ (x0.size : Int) then (some (x0.extract 0 1)) else (none)) else (none)) else (if (bt x0 0) = 61 then (if 0 ≤ 1 then (if 1 ≤ (x0.size : Int) then (some (x0.extract 0 1)) else (none)) else (none)) else (if (bt x0 0) = 60 then (if 0 ≤ 1 then (if 1 ≤ (x0.size : Int) then (some (x0.extract 0 1)) else (none)) else (none)) else (if (bt x0 0) = 62 then (if 0 ≤ 1 then (if 1 ≤ (x0.size : Int) then (some (x0.extract 0 1)) else (none)) else (none)) else (if (bt x0 0) = 43 then (if 0 ≤ 1 then (if 1 ≤ (x0.size : Int) then (some (x0.extract 0 1)) else (none)) else (none)) else (if (bt x0 0) = 45 then (if 0 ≤ 1 then (if 1 ≤ (x0.size : Int) then (some (x0.extract 0 1)) else (none)) else (none)) else (if (bt x0 0) = 47 then (if 0 ≤ 1 then (if 1 ≤ (x0.size : Int) then (some (x0.extract 0 1)) else (none)) else (none)) else (if (bt x0 0) = 37 then (if 0 ≤ 1 then (if 1 ≤ (x0.size : Int) then (some (x0.extract 0 1)) else (none)) else (none)) else (if (bt x0 0) = 38 then (if 0 ≤ 1 then (if 1 ≤ (x0.size : Int) then (some (x0.extract 0 1)) else (none)) else (none)) else (if (bt x0 0) = 124 then (if 0 ≤ 1 then (if 1 ≤ (x0.size : Int) then (some (x0.extract 0 1)) else (none)) else (none)) else (if (bt x0 0) = 94 then (if 0 ≤ 1 then (if 1 ≤ (x0.size : Int) then (some (x0.extract 0 1)) else (none)) else (none)) else (some (⟨#[]⟩ : ByteArray)))))))))))))))))) else (none)
def umlautref17_op.f (k : Nat) (a0 : ByteArray) : Option (ByteArray) := if (a0.size : Int) ≥ 2 then (if 0 ≤ 2 then (if 2 ≤ (a0.size : Int) then (if (a0.extract 0 2).toList = ([60, 62] : List UInt8) then (some (a0.extract 0 2)) else (if (a0.extract 0 2).toList = ([60, 61] : List UInt8) then (some (a0.extract 0 2)) else (if (a0.extract 0 2).toList = ([62, 61] : List UInt8) then (some (a0.extract 0 2)) else (if (a0.extract 0 2).toList = ([60, 60] : List UInt8) then (some (a0.extract 0 2)) else (if (a0.extract 0 2).toList = ([62, 62] : List UInt8) then (some (a0.extract 0 2)) else (if (a0.extract 0 2).toList = ([124, 124] : List UInt8) then (some (a0.extract 0 2)) else (umlautref17_op.j0 k a0))))))) else (none)) else (none)) else (umlautref17_op.j0 k a0)
theorem umlautref17_op.mono_l : ∀ k, (∀ y0, LeO (umlautref17_op.j0 k y0) (umlautref17_op.j0 (k + 1) y0))
  | 0 => fun _ r h => by simp [umlautref17_op.j0] at h
  | k + 1 => by
    have ih0 := umlautref17_op.mono_l k
    · intro y0
      unfold umlautref17_op.j0
      repeat' first
      | (with_reducible exact ih0 _)
      | (with_reducible exact LeO.refl _)
      | (with_reducible exact LeO.none _)
      | (with_reducible refine LeO.ite ?_ ?_)
      | (with_reducible refine LeO.bind ?_ (fun _ => ?_))
      | exact ih0 _
      | exact LeO.none _
      | refine LeO.ite ?_ ?_
      | refine LeO.bind ?_ (fun _ => ?_)
theorem umlautref17_op.mono : ∀ a0 k, LeO (umlautref17_op.f k a0) (umlautref17_op.f (k + 1) a0) := by
  intro a0 k
  have ih0 := umlautref17_op.mono_l k
  unfold umlautref17_op.f
  repeat' first
      | (with_reducible exact ih0 _)
      | (with_reducible exact LeO.refl _)
      | (with_reducible exact LeO.none _)
      | (with_reducible refine LeO.ite ?_ ?_)
      | (with_reducible refine LeO.bind ?_ (fun _ => ?_))
      | exact ih0 _
      | exact LeO.none _
      | refine LeO.ite ?_ ?_
      | refine LeO.bind ?_ (fun _ => ?_)
set_option maxHeartbeats 8000000 in
set_option maxRecDepth 100000 in
theorem umlautref17_op.calls (k : Nat) (a0 : ByteArray) (r : ByteArray) (w : World) (h : umlautref17_op.f k a0 = some r) :
    Calls Tryd.prog 26 #[.string a0] w fun e w' => e = .returned (.string r) ∧ Drawn0 w w' := by
  have H : (if (a0.size : Int) ≥ 2 then (if 0 ≤ 2 then (if 2 ≤ (a0.size : Int) then (if (a0.extract 0 2).toList = ([60, 62] : List UInt8) then (some (a0.extract 0 2)) else (if (a0.extract 0 2).toList = ([60, 61] : List UInt8) then (some (a0.extract 0 2)) else (if (a0.extract 0 2).toList = ([62, 61] : List UInt8) then (some (a0.extract 0 2)) else (if (a0.extract 0 2).toList = ([60, 60] : List UInt8) then (some (a0.extract 0 2)) else (if (a0.extract 0 2).toList = ([62, 62] : List UInt8) then (some (a0.extract 0 2)) else (if (a0.extract 0 2).toList = ([124, 124] : List UInt8) then (some (a0.extract 0 2)) else (umlautref17_op.j0 k a0))))))) else (none)) else (none)) else (umlautref17_op.j0 k a0)) = some r := h
  clear h
  have HC2 := Aside0.mk H
  clear H
  go_enter Tryd.func26, Tryd.ntmps26
  go_upto_if 5 with (fail)
  go_cut [] (fun wc => ∃ (kq : Nat), Aside0 (umlautref17_op.j0 kq a0 = some r) ∧ Aside0 (kq ≤ k) ∧ Drawn0 w wc)
  case first =>
    have H := HC2.out
    clear HC2
    by_cases c3 : (a0.size : Int) ≥ 2
    · rw [if_pos c3] at H
      have c3b0 : decide (2 ≤ (a0.size : Int)) = true := decide_eq_true c3
      have c3b1 : decide (2 ≤ a0.size) = true := decide_eq_true (by omega)
      clear c3
      (first | rw [c3b0] | (simp only [i64_w, i32_w]; rw [c3b0]) | skip)
      by_cases c4 : 0 ≤ 2
      · rw [if_pos c4] at H
        have c4b0 := eq_true c4
        have c4b1 : decide (0 ≤ 2) = true := decide_eq_true c4
        clear c4
        by_cases c5 : 2 ≤ (a0.size : Int)
        · rw [if_pos c5] at H
          have c5b0 := eq_true c5
          have c5b1 : decide (2 ≤ (a0.size : Int)) = true := decide_eq_true c5
          clear c5
          by_cases c6 : (a0.extract 0 2).toList = ([60, 62] : List UInt8)
          · rw [if_pos c6] at H
            have c6b0 : ((a0.extract 0 2).toList == ([60, 62] : List UInt8)) = true := beq_iff_eq.mpr c6
            have c6b1 : ((a0.extract 0 2).toList != ([60, 62] : List UInt8)) = false := bne_eq_false_iff_eq.mpr c6
            clear c6
            have c7b0 := eq_true (of_decide_eq_true (by first | (with_reducible assumption) | assumption) : 0 ≤ 2)
            have c8b0 := eq_true (of_decide_eq_true (by first | (with_reducible assumption) | assumption) : 2 ≤ (a0.size : Int))
            obtain rfl := Option.some.inj H
            go_wp2
            go_ret
            exact ⟨by first | rfl | (simp; done) | (simp [*]; done), by repeat (first | exact Drawn0.refl _ | apply Drawn0.step)⟩
          · rw [if_neg c6] at H
            have c6b0 : ((a0.extract 0 2).toList == ([60, 62] : List UInt8)) = false := beq_eq_false_iff_ne.mpr c6
            have c6b1 : ((a0.extract 0 2).toList != ([60, 62] : List UInt8)) = true := bne_iff_ne.mpr c6
            by_cases c9 : (a0.extract 0 2).toList = ([60, 61] : List UInt8)
            · rw [if_pos c9] at H
              have c9b0 : ((a0.extract 0 2).toList == ([60, 61] : List UInt8)) = true := beq_iff_eq.mpr c9
              have c9b1 : ((a0.extract 0 2).toList != ([60, 61] : List UInt8)) = false := bne_eq_false_iff_eq.mpr c9
              clear c9
              have c10b0 := eq_true (of_decide_eq_true (by first | (with_reducible assumption) | assumption) : 0 ≤ 2)
              have c11b0 := eq_true (of_decide_eq_true (by first | (with_reducible assumption) | assumption) : 2 ≤ (a0.size : Int))
              obtain rfl := Option.some.inj H
              go_wp2
              go_ret
              exact ⟨by first | rfl | (simp; done) | (simp [*]; done), by repeat (first | exact Drawn0.refl _ | apply Drawn0.step)⟩
            · rw [if_neg c9] at H
              have c9b0 : ((a0.extract 0 2).toList == ([60, 61] : List UInt8)) = false := beq_eq_false_iff_ne.mpr c9
              have c9b1 : ((a0.extract 0 2).toList != ([60, 61] : List UInt8)) = true := bne_iff_ne.mpr c9
              by_cases c12 : (a0.extract 0 2).toList = ([62, 61] : List UInt8)
              · rw [if_pos c12] at H
                have c12b0 : ((a0.extract 0 2).toList == ([62, 61] : List UInt8)) = true := beq_iff_eq.mpr c12
                have c12b1 : ((a0.extract 0 2).toList != ([62, 61] : List UInt8)) = false := bne_eq_false_iff_eq.mpr c12
                clear c12
                have c13b0 := eq_true (of_decide_eq_true (by first | (with_reducible assumption) | assumption) : 0 ≤ 2)
                have c14b0 := eq_true (of_decide_eq_true (by first | (with_reducible assumption) | assumption) : 2 ≤ (a0.size : Int))
                obtain rfl := Option.some.inj H
                go_wp2
                go_ret
                exact ⟨by first | rfl | (simp; done) | (simp [*]; done), by repeat (first | exact Drawn0.refl _ | apply Drawn0.step)⟩
              · rw [if_neg c12] at H
                have c12b0 : ((a0.extract 0 2).toList == ([62, 61] : List UInt8)) = false := beq_eq_false_iff_ne.mpr c12
                have c12b1 : ((a0.extract 0 2).toList != ([62, 61] : List UInt8)) = true := bne_iff_ne.mpr c12
                by_cases c15 : (a0.extract 0 2).toList = ([60, 60] : List UInt8)
                · rw [if_pos c15] at H
                  have c15b0 : ((a0.extract 0 2).toList == ([60, 60] : List UInt8)) = true := beq_iff_eq.mpr c15
                  have c15b1 : ((a0.extract 0 2).toList != ([60, 60] : List UInt8)) = false := bne_eq_false_iff_eq.mpr c15
                  clear c15
                  have c16b0 := eq_true (of_decide_eq_true (by first | (with_reducible assumption) | assumption) : 0 ≤ 2)
                  have c17b0 := eq_true (of_decide_eq_true (by first | (with_reducible assumption) | assumption) : 2 ≤ (a0.size : Int))
                  obtain rfl := Option.some.inj H
                  go_wp2
                  go_ret
                  exact ⟨by first | rfl | (simp; done) | (simp [*]; done), by repeat (first | exact Drawn0.refl _ | apply Drawn0.step)⟩
                · rw [if_neg c15] at H
                  have c15b0 : ((a0.extract 0 2).toList == ([60, 60] : List UInt8)) = false := beq_eq_false_iff_ne.mpr c15
                  have c15b1 : ((a0.extract 0 2).toList != ([60, 60] : List UInt8)) = true := bne_iff_ne.mpr c15
                  by_cases c18 : (a0.extract 0 2).toList = ([62, 62] : List UInt8)
                  · rw [if_pos c18] at H
                    have c18b0 : ((a0.extract 0 2).toList == ([62, 62] : List UInt8)) = true := beq_iff_eq.mpr c18
                    have c18b1 : ((a0.extract 0 2).toList != ([62, 62] : List UInt8)) = false := bne_eq_false_iff_eq.mpr c18
                    clear c18
                    have c19b0 := eq_true (of_decide_eq_true (by first | (with_reducible assumption) | assumption) : 0 ≤ 2)
                    have c20b0 := eq_true (of_decide_eq_true (by first | (with_reducible assumption) | assumption) : 2 ≤ (a0.size : Int))
                    obtain rfl := Option.some.inj H
                    go_wp2
                    go_ret
                    exact ⟨by first | rfl | (simp; done) | (simp [*]; done), by repeat (first | exact Drawn0.refl _ | apply Drawn0.step)⟩
                  · rw [if_neg c18] at H
                    have c18b0 : ((a0.extract 0 2).toList == ([62, 62] : List UInt8)) = false := beq_eq_false_iff_ne.mpr c18
                    have c18b1 : ((a0.extract 0 2).toList != ([62, 62] : List UInt8)) = true := bne_iff_ne.mpr c18
                    by_cases c21 : (a0.extract 0 2).toList = ([124, 124] : List UInt8)
                    · rw [if_pos c21] at H
                      have c21b0 : ((a0.extract 0 2).toList == ([124, 124] : List UInt8)) = true := beq_iff_eq.mpr c21
                      have c21b1 : ((a0.extract 0 2).toList != ([124, 124] : List UInt8)) = false := bne_eq_false_iff_eq.mpr c21
                      clear c21
                      have c22b0 := eq_true (of_decide_eq_true (by first | (with_reducible assumption) | assumption) : 0 ≤ 2)
                      have c23b0 := eq_true (of_decide_eq_true (by first | (with_reducible assumption) | assumption) : 2 ≤ (a0.size : Int))
                      obtain rfl := Option.some.inj H
                      go_wp2
                      go_ret
                      exact ⟨by first | rfl | (simp; done) | (simp [*]; done), by repeat (first | exact Drawn0.refl _ | apply Drawn0.step)⟩
                    · rw [if_neg c21] at H
                      have c21b0 : ((a0.extract 0 2).toList == ([124, 124] : List UInt8)) = false := beq_eq_false_iff_ne.mpr c21
                      have c21b1 : ((a0.extract 0 2).toList != ([124, 124] : List UInt8)) = true := bne_iff_ne.mpr c21
                      have H' := Aside0.mk H
                      clear H
                      go_wp2
                      go_meet
                      case rel => exact ⟨_, H', ⟨by first | omega | exact Nat.le_refl _⟩, by repeat (first | exact Drawn0.refl _ | apply Drawn0.step)⟩
        · rw [if_neg c5] at H
          exact absurd H (by simp)
      · rw [if_neg c4] at H
        exact absurd H (by simp)
    · rw [if_neg c3] at H
      have c3b0 : decide (2 ≤ (a0.size : Int)) = false := decide_eq_false c3
      have c3b1 : decide (2 ≤ a0.size) = false := decide_eq_false (by omega)
      clear c3
      (first | rw [c3b0] | (simp only [i64_w, i32_w]; rw [c3b0]) | skip)
      have H' := Aside0.mk H
      clear H
      go_wp2
      go_meet
      case rel => exact ⟨_, H', ⟨by first | omega | exact Nat.le_refl _⟩, by repeat (first | exact Drawn0.refl _ | apply Drawn0.step)⟩
  case rest =>
    clear HC2
    try clear c1
    try clear c2
    try clear p2
    try clear c3
    try clear c3b0
    try clear c3b1
    try clear c4
    try clear c4b0
    try clear c4b1
    try clear c5
    try clear c5b0
    try clear c5b1
    try clear c6
    try clear c6b0
    try clear c6b1
    try clear c7
    try clear c7b0
    try clear c8
    try clear c8b0
    try clear c9
    try clear c9b0
    try clear c9b1
    try clear c10
    try clear c10b0
    try clear c11
    try clear c11b0
    try clear c12
    try clear c12b0
    try clear c12b1
    try clear c13
    try clear c13b0
    try clear c14
    try clear c14b0
    try clear c15
    try clear c15b0
    try clear c15b1
    try clear c16
    try clear c16b0
    try clear c17
    try clear c17b0
    try clear c18
    try clear c18b0
    try clear c18b1
    try clear c19
    try clear c19b0
    try clear c20
    try clear c20b0
    try clear c21
    try clear c21b0
    try clear c21b1
    try clear c22
    try clear c22b0
    try clear c23
    try clear c23b0
    obtain ⟨kq, HA, HJ1, ⟨mc1, rfl⟩⟩ := hcut
    cases kq with
    | zero => exact absurd HA.out (by simp [umlautref17_op.j0])
    | succ kj1 =>
      have H := HA.out
      clear HA
      simp only [umlautref17_op.j0] at H
      by_cases c24 : 0 < (a0.size : Int)
      · rw [if_pos c24] at H
        have c24b0 : decide (0 < (a0.size : Int)) = true := decide_eq_true c24
        have c24b1 : decide (0 < a0.size) = true := decide_eq_true (by omega)
        clear c24
        by_cases c26 : (bt a0 0) = 40
        · rw [if_pos c26] at H
          have c26b0 : ((bt a0 0) == 40) = true := beq_iff_eq.mpr c26
          have c26b1 : ((bt a0 0) != 40) = false := bne_eq_false_iff_eq.mpr c26
          clear c26
          by_cases c27 : 0 ≤ 1
          · rw [if_pos c27] at H
            have c27b0 := eq_true c27
            have c27b1 : decide (0 ≤ 1) = true := decide_eq_true c27
            clear c27
            by_cases c28 : 1 ≤ (a0.size : Int)
            · rw [if_pos c28] at H
              have c28b0 := eq_true c28
              have c28b1 : decide (1 ≤ (a0.size : Int)) = true := decide_eq_true c28
              clear c28
              obtain rfl := Option.some.inj H
              have p25 : 0 ≤ (0 : Int) := (by omega)
              have q25 : 0 < a0.size := (by have : (0 : Int) < (a0.size : Int) := of_decide_eq_true (by first | (with_reducible assumption) | assumption); omega)
              have hx25 : ∀ h : 0 < a0.size, ((a0[0]'h).toNat : Int) = bt a0 0 := bt_at a0 0
              clear p25
              have qi25 : (0 < (a0.size : Int)) = True := eq_true (of_decide_eq_true (by first | (with_reducible assumption) | assumption))
              replace q25 := eq_true q25
              go_wp2
              go_ret
              exact ⟨by first | rfl | (simp; done) | (simp [*]; done), by repeat (first | exact Drawn0.refl _ | apply Drawn0.step)⟩
            · rw [if_neg c28] at H
              exact absurd H (by simp)
          · rw [if_neg c27] at H
            exact absurd H (by simp)
        · rw [if_neg c26] at H
          have c26b0 : ((bt a0 0) == 40) = false := beq_eq_false_iff_ne.mpr c26
          have c26b1 : ((bt a0 0) != 40) = true := bne_iff_ne.mpr c26
          by_cases c29 : (bt a0 0) = 41
          · rw [if_pos c29] at H
            have c29b0 : ((bt a0 0) == 41) = true := beq_iff_eq.mpr c29
            have c29b1 : ((bt a0 0) != 41) = false := bne_eq_false_iff_eq.mpr c29
            clear c29
            by_cases c30 : 0 ≤ 1
            · rw [if_pos c30] at H
              have c30b0 := eq_true c30
              have c30b1 : decide (0 ≤ 1) = true := decide_eq_true c30
              clear c30
              by_cases c31 : 1 ≤ (a0.size : Int)
              · rw [if_pos c31] at H
                have c31b0 := eq_true c31
                have c31b1 : decide (1 ≤ (a0.size : Int)) = true := decide_eq_true c31
                clear c31
                obtain rfl := Option.some.inj H
                have p25 : 0 ≤ (0 : Int) := (by omega)
                have q25 : 0 < a0.size := (by have : (0 : Int) < (a0.size : Int) := of_decide_eq_true (by first | (with_reducible assumption) | assumption); omega)
                have hx25 : ∀ h : 0 < a0.size, ((a0[0]'h).toNat : Int) = bt a0 0 := bt_at a0 0
                clear p25
                have qi25 : (0 < (a0.size : Int)) = True := eq_true (of_decide_eq_true (by first | (with_reducible assumption) | assumption))
                replace q25 := eq_true q25
                go_wp2
                go_ret
                exact ⟨by first | rfl | (simp; done) | (simp [*]; done), by repeat (first | exact Drawn0.refl _ | apply Drawn0.step)⟩
              · rw [if_neg c31] at H
                exact absurd H (by simp)
            · rw [if_neg c30] at H
              exact absurd H (by simp)
          · rw [if_neg c29] at H
            have c29b0 : ((bt a0 0) == 41) = false := beq_eq_false_iff_ne.mpr c29
            have c29b1 : ((bt a0 0) != 41) = true := bne_iff_ne.mpr c29
            by_cases c32 : (bt a0 0) = 44
            · rw [if_pos c32] at H
              have c32b0 : ((bt a0 0) == 44) = true := beq_iff_eq.mpr c32
              have c32b1 : ((bt a0 0) != 44) = false := bne_eq_false_iff_eq.mpr c32
              clear c32
              by_cases c33 : 0 ≤ 1
              · rw [if_pos c33] at H
                have c33b0 := eq_true c33
                have c33b1 : decide (0 ≤ 1) = true := decide_eq_true c33
                clear c33
                by_cases c34 : 1 ≤ (a0.size : Int)
                · rw [if_pos c34] at H
                  have c34b0 := eq_true c34
                  have c34b1 : decide (1 ≤ (a0.size : Int)) = true := decide_eq_true c34
                  clear c34
                  obtain rfl := Option.some.inj H
                  have p25 : 0 ≤ (0 : Int) := (by omega)
                  have q25 : 0 < a0.size := (by have : (0 : Int) < (a0.size : Int) := of_decide_eq_true (by first | (with_reducible assumption) | assumption); omega)
                  have hx25 : ∀ h : 0 < a0.size, ((a0[0]'h).toNat : Int) = bt a0 0 := bt_at a0 0
                  clear p25
                  have qi25 : (0 < (a0.size : Int)) = True := eq_true (of_decide_eq_true (by first | (with_reducible assumption) | assumption))
                  replace q25 := eq_true q25
                  go_wp2
                  go_ret
                  exact ⟨by first | rfl | (simp; done) | (simp [*]; done), by repeat (first | exact Drawn0.refl _ | apply Drawn0.step)⟩
                · rw [if_neg c34] at H
                  exact absurd H (by simp)
              · rw [if_neg c33] at H
                exact absurd H (by simp)
            · rw [if_neg c32] at H
              have c32b0 : ((bt a0 0) == 44) = false := beq_eq_false_iff_ne.mpr c32
              have c32b1 : ((bt a0 0) != 44) = true := bne_iff_ne.mpr c32
              by_cases c35 : (bt a0 0) = 46
              · rw [if_pos c35] at H
                have c35b0 : ((bt a0 0) == 46) = true := beq_iff_eq.mpr c35
                have c35b1 : ((bt a0 0) != 46) = false := bne_eq_false_iff_eq.mpr c35
                clear c35
                by_cases c36 : 0 ≤ 1
                · rw [if_pos c36] at H
                  have c36b0 := eq_true c36
                  have c36b1 : decide (0 ≤ 1) = true := decide_eq_true c36
                  clear c36
                  by_cases c37 : 1 ≤ (a0.size : Int)
                  · rw [if_pos c37] at H
                    have c37b0 := eq_true c37
                    have c37b1 : decide (1 ≤ (a0.size : Int)) = true := decide_eq_true c37
                    clear c37
                    obtain rfl := Option.some.inj H
                    have p25 : 0 ≤ (0 : Int) := (by omega)
                    have q25 : 0 < a0.size := (by have : (0 : Int) < (a0.size : Int) := of_decide_eq_true (by first | (with_reducible assumption) | assumption); omega)
                    have hx25 : ∀ h : 0 < a0.size, ((a0[0]'h).toNat : Int) = bt a0 0 := bt_at a0 0
                    clear p25
                    have qi25 : (0 < (a0.size : Int)) = True := eq_true (of_decide_eq_true (by first | (with_reducible assumption) | assumption))
                    replace q25 := eq_true q25
                    go_wp2
                    go_ret
                    exact ⟨by first | rfl | (simp; done) | (simp [*]; done), by repeat (first | exact Drawn0.refl _ | apply Drawn0.step)⟩
                  · rw [if_neg c37] at H
                    exact absurd H (by simp)
                · rw [if_neg c36] at H
                  exact absurd H (by simp)
              · rw [if_neg c35] at H
                have c35b0 : ((bt a0 0) == 46) = false := beq_eq_false_iff_ne.mpr c35
                have c35b1 : ((bt a0 0) != 46) = true := bne_iff_ne.mpr c35
                by_cases c38 : (bt a0 0) = 59
                · rw [if_pos c38] at H
                  have c38b0 : ((bt a0 0) == 59) = true := beq_iff_eq.mpr c38
                  have c38b1 : ((bt a0 0) != 59) = false := bne_eq_false_iff_eq.mpr c38
                  clear c38
                  by_cases c39 : 0 ≤ 1
                  · rw [if_pos c39] at H
                    have c39b0 := eq_true c39
                    have c39b1 : decide (0 ≤ 1) = true := decide_eq_true c39
                    clear c39
                    by_cases c40 : 1 ≤ (a0.size : Int)
                    · rw [if_pos c40] at H
                      have c40b0 := eq_true c40
                      have c40b1 : decide (1 ≤ (a0.size : Int)) = true := decide_eq_true c40
                      clear c40
                      obtain rfl := Option.some.inj H
                      have p25 : 0 ≤ (0 : Int) := (by omega)
                      have q25 : 0 < a0.size := (by have : (0 : Int) < (a0.size : Int) := of_decide_eq_true (by first | (with_reducible assumption) | assumption); omega)
                      have hx25 : ∀ h : 0 < a0.size, ((a0[0]'h).toNat : Int) = bt a0 0 := bt_at a0 0
                      clear p25
                      have qi25 : (0 < (a0.size : Int)) = True := eq_true (of_decide_eq_true (by first | (with_reducible assumption) | assumption))
                      replace q25 := eq_true q25
                      go_wp2
                      go_ret
                      exact ⟨by first | rfl | (simp; done) | (simp [*]; done), by repeat (first | exact Drawn0.refl _ | apply Drawn0.step)⟩
                    · rw [if_neg c40] at H
                      exact absurd H (by simp)
                  · rw [if_neg c39] at H
                    exact absurd H (by simp)
                · rw [if_neg c38] at H
                  have c38b0 : ((bt a0 0) == 59) = false := beq_eq_false_iff_ne.mpr c38
                  have c38b1 : ((bt a0 0) != 59) = true := bne_iff_ne.mpr c38
                  by_cases c41 : (bt a0 0) = 42
                  · rw [if_pos c41] at H
                    have c41b0 : ((bt a0 0) == 42) = true := beq_iff_eq.mpr c41
                    have c41b1 : ((bt a0 0) != 42) = false := bne_eq_false_iff_eq.mpr c41
                    clear c41
                    by_cases c42 : 0 ≤ 1
                    · rw [if_pos c42] at H
                      have c42b0 := eq_true c42
                      have c42b1 : decide (0 ≤ 1) = true := decide_eq_true c42
                      clear c42
                      by_cases c43 : 1 ≤ (a0.size : Int)
                      · rw [if_pos c43] at H
                        have c43b0 := eq_true c43
                        have c43b1 : decide (1 ≤ (a0.size : Int)) = true := decide_eq_true c43
                        clear c43
                        obtain rfl := Option.some.inj H
                        have p25 : 0 ≤ (0 : Int) := (by omega)
                        have q25 : 0 < a0.size := (by have : (0 : Int) < (a0.size : Int) := of_decide_eq_true (by first | (with_reducible assumption) | assumption); omega)
                        have hx25 : ∀ h : 0 < a0.size, ((a0[0]'h).toNat : Int) = bt a0 0 := bt_at a0 0
                        clear p25
                        have qi25 : (0 < (a0.size : Int)) = True := eq_true (of_decide_eq_true (by first | (with_reducible assumption) | assumption))
                        replace q25 := eq_true q25
                        go_wp2
                        go_ret
                        exact ⟨by first | rfl | (simp; done) | (simp [*]; done), by repeat (first | exact Drawn0.refl _ | apply Drawn0.step)⟩
                      · rw [if_neg c43] at H
                        exact absurd H (by simp)
                    · rw [if_neg c42] at H
                      exact absurd H (by simp)
                  · rw [if_neg c41] at H
                    have c41b0 : ((bt a0 0) == 42) = false := beq_eq_false_iff_ne.mpr c41
                    have c41b1 : ((bt a0 0) != 42) = true := bne_iff_ne.mpr c41
                    by_cases c44 : (bt a0 0) = 61
                    · rw [if_pos c44] at H
                      have c44b0 : ((bt a0 0) == 61) = true := beq_iff_eq.mpr c44
                      have c44b1 : ((bt a0 0) != 61) = false := bne_eq_false_iff_eq.mpr c44
                      clear c44
                      by_cases c45 : 0 ≤ 1
                      · rw [if_pos c45] at H
                        have c45b0 := eq_true c45
                        have c45b1 : decide (0 ≤ 1) = true := decide_eq_true c45
                        clear c45
                        by_cases c46 : 1 ≤ (a0.size : Int)
                        · rw [if_pos c46] at H
                          have c46b0 := eq_true c46
                          have c46b1 : decide (1 ≤ (a0.size : Int)) = true := decide_eq_true c46
                          clear c46
                          obtain rfl := Option.some.inj H
                          have p25 : 0 ≤ (0 : Int) := (by omega)
                          have q25 : 0 < a0.size := (by have : (0 : Int) < (a0.size : Int) := of_decide_eq_true (by first | (with_reducible assumption) | assumption); omega)
                          have hx25 : ∀ h : 0 < a0.size, ((a0[0]'h).toNat : Int) = bt a0 0 := bt_at a0 0
                          clear p25
                          have qi25 : (0 < (a0.size : Int)) = True := eq_true (of_decide_eq_true (by first | (with_reducible assumption) | assumption))
                          replace q25 := eq_true q25
                          go_wp2
                          go_ret
                          exact ⟨by first | rfl | (simp; done) | (simp [*]; done), by repeat (first | exact Drawn0.refl _ | apply Drawn0.step)⟩
                        · rw [if_neg c46] at H
                          exact absurd H (by simp)
                      · rw [if_neg c45] at H
                        exact absurd H (by simp)
                    · rw [if_neg c44] at H
                      have c44b0 : ((bt a0 0) == 61) = false := beq_eq_false_iff_ne.mpr c44
                      have c44b1 : ((bt a0 0) != 61) = true := bne_iff_ne.mpr c44
                      by_cases c47 : (bt a0 0) = 60
                      · rw [if_pos c47] at H
                        have c47b0 : ((bt a0 0) == 60) = true := beq_iff_eq.mpr c47
                        have c47b1 : ((bt a0 0) != 60) = false := bne_eq_false_iff_eq.mpr c47
                        clear c47
                        by_cases c48 : 0 ≤ 1
                        · rw [if_pos c48] at H
                          have c48b0 := eq_true c48
                          have c48b1 : decide (0 ≤ 1) = true := decide_eq_true c48
                          clear c48
                          by_cases c49 : 1 ≤ (a0.size : Int)
                          · rw [if_pos c49] at H
                            have c49b0 := eq_true c49
                            have c49b1 : decide (1 ≤ (a0.size : Int)) = true := decide_eq_true c49
                            clear c49
                            obtain rfl := Option.some.inj H
                            have p25 : 0 ≤ (0 : Int) := (by omega)
                            have q25 : 0 < a0.size := (by have : (0 : Int) < (a0.size : Int) := of_decide_eq_true (by first | (with_reducible assumption) | assumption); omega)
                            have hx25 : ∀ h : 0 < a0.size, ((a0[0]'h).toNat : Int) = bt a0 0 := bt_at a0 0
                            clear p25
                            have qi25 : (0 < (a0.size : Int)) = True := eq_true (of_decide_eq_true (by first | (with_reducible assumption) | assumption))
                            replace q25 := eq_true q25
                            go_wp2
                            go_ret
                            exact ⟨by first | rfl | (simp; done) | (simp [*]; done), by repeat (first | exact Drawn0.refl _ | apply Drawn0.step)⟩
                          · rw [if_neg c49] at H
                            exact absurd H (by simp)
                        · rw [if_neg c48] at H
                          exact absurd H (by simp)
                      · rw [if_neg c47] at H
                        have c47b0 : ((bt a0 0) == 60) = false := beq_eq_false_iff_ne.mpr c47
                        have c47b1 : ((bt a0 0) != 60) = true := bne_iff_ne.mpr c47
                        by_cases c50 : (bt a0 0) = 62
                        · rw [if_pos c50] at H
                          have c50b0 : ((bt a0 0) == 62) = true := beq_iff_eq.mpr c50
                          have c50b1 : ((bt a0 0) != 62) = false := bne_eq_false_iff_eq.mpr c50
                          clear c50
                          by_cases c51 : 0 ≤ 1
                          · rw [if_pos c51] at H
                            have c51b0 := eq_true c51
                            have c51b1 : decide (0 ≤ 1) = true := decide_eq_true c51
                            clear c51
                            by_cases c52 : 1 ≤ (a0.size : Int)
                            · rw [if_pos c52] at H
                              have c52b0 := eq_true c52
                              have c52b1 : decide (1 ≤ (a0.size : Int)) = true := decide_eq_true c52
                              clear c52
                              obtain rfl := Option.some.inj H
                              have p25 : 0 ≤ (0 : Int) := (by omega)
                              have q25 : 0 < a0.size := (by have : (0 : Int) < (a0.size : Int) := of_decide_eq_true (by first | (with_reducible assumption) | assumption); omega)
                              have hx25 : ∀ h : 0 < a0.size, ((a0[0]'h).toNat : Int) = bt a0 0 := bt_at a0 0
                              clear p25
                              have qi25 : (0 < (a0.size : Int)) = True := eq_true (of_decide_eq_true (by first | (with_reducible assumption) | assumption))
                              replace q25 := eq_true q25
                              go_wp2
                              go_ret
                              exact ⟨by first | rfl | (simp; done) | (simp [*]; done), by repeat (first | exact Drawn0.refl _ | apply Drawn0.step)⟩
                            · rw [if_neg c52] at H
                              exact absurd H (by simp)
                          · rw [if_neg c51] at H
                            exact absurd H (by simp)
                        · rw [if_neg c50] at H
                          have c50b0 : ((bt a0 0) == 62) = false := beq_eq_false_iff_ne.mpr c50
                          have c50b1 : ((bt a0 0) != 62) = true := bne_iff_ne.mpr c50
                          by_cases c53 : (bt a0 0) = 43
                          · rw [if_pos c53] at H
                            have c53b0 : ((bt a0 0) == 43) = true := beq_iff_eq.mpr c53
                            have c53b1 : ((bt a0 0) != 43) = false := bne_eq_false_iff_eq.mpr c53
                            clear c53
                            by_cases c54 : 0 ≤ 1
                            · rw [if_pos c54] at H
                              have c54b0 := eq_true c54
                              have c54b1 : decide (0 ≤ 1) = true := decide_eq_true c54
                              clear c54
                              by_cases c55 : 1 ≤ (a0.size : Int)
                              · rw [if_pos c55] at H
                                have c55b0 := eq_true c55
                                have c55b1 : decide (1 ≤ (a0.size : Int)) = true := decide_eq_true c55
                                clear c55
                                obtain rfl := Option.some.inj H
                                have p25 : 0 ≤ (0 : Int) := (by omega)
                                have q25 : 0 < a0.size := (by have : (0 : Int) < (a0.size : Int) := of_decide_eq_true (by first | (with_reducible assumption) | assumption); omega)
                                have hx25 : ∀ h : 0 < a0.size, ((a0[0]'h).toNat : Int) = bt a0 0 := bt_at a0 0
                                clear p25
                                have qi25 : (0 < (a0.size : Int)) = True := eq_true (of_decide_eq_true (by first | (with_reducible assumption) | assumption))
                                replace q25 := eq_true q25
                                go_wp2
                                go_ret
                                exact ⟨by first | rfl | (simp; done) | (simp [*]; done), by repeat (first | exact Drawn0.refl _ | apply Drawn0.step)⟩
                              · rw [if_neg c55] at H
                                exact absurd H (by simp)
                            · rw [if_neg c54] at H
                              exact absurd H (by simp)
                          · rw [if_neg c53] at H
                            have c53b0 : ((bt a0 0) == 43) = false := beq_eq_false_iff_ne.mpr c53
                            have c53b1 : ((bt a0 0) != 43) = true := bne_iff_ne.mpr c53
                            by_cases c56 : (bt a0 0) = 45
                            · rw [if_pos c56] at H
                              have c56b0 : ((bt a0 0) == 45) = true := beq_iff_eq.mpr c56
                              have c56b1 : ((bt a0 0) != 45) = false := bne_eq_false_iff_eq.mpr c56
                              clear c56
                              by_cases c57 : 0 ≤ 1
                              · rw [if_pos c57] at H
                                have c57b0 := eq_true c57
                                have c57b1 : decide (0 ≤ 1) = true := decide_eq_true c57
                                clear c57
                                by_cases c58 : 1 ≤ (a0.size : Int)
                                · rw [if_pos c58] at H
                                  have c58b0 := eq_true c58
                                  have c58b1 : decide (1 ≤ (a0.size : Int)) = true := decide_eq_true c58
                                  clear c58
                                  obtain rfl := Option.some.inj H
                                  have p25 : 0 ≤ (0 : Int) := (by omega)
                                  have q25 : 0 < a0.size := (by have : (0 : Int) < (a0.size : Int) := of_decide_eq_true (by first | (with_reducible assumption) | assumption); omega)
                                  have hx25 : ∀ h : 0 < a0.size, ((a0[0]'h).toNat : Int) = bt a0 0 := bt_at a0 0
                                  clear p25
                                  have qi25 : (0 < (a0.size : Int)) = True := eq_true (of_decide_eq_true (by first | (with_reducible assumption) | assumption))
                                  replace q25 := eq_true q25
                                  go_wp2
                                  go_ret
                                  exact ⟨by first | rfl | (simp; done) | (simp [*]; done), by repeat (first | exact Drawn0.refl _ | apply Drawn0.step)⟩
                                · rw [if_neg c58] at H
                                  exact absurd H (by simp)
                              · rw [if_neg c57] at H
                                exact absurd H (by simp)
                            · rw [if_neg c56] at H
                              have c56b0 : ((bt a0 0) == 45) = false := beq_eq_false_iff_ne.mpr c56
                              have c56b1 : ((bt a0 0) != 45) = true := bne_iff_ne.mpr c56
                              by_cases c59 : (bt a0 0) = 47
                              · rw [if_pos c59] at H
                                have c59b0 : ((bt a0 0) == 47) = true := beq_iff_eq.mpr c59
                                have c59b1 : ((bt a0 0) != 47) = false := bne_eq_false_iff_eq.mpr c59
                                clear c59
                                by_cases c60 : 0 ≤ 1
                                · rw [if_pos c60] at H
                                  have c60b0 := eq_true c60
                                  have c60b1 : decide (0 ≤ 1) = true := decide_eq_true c60
                                  clear c60
                                  by_cases c61 : 1 ≤ (a0.size : Int)
                                  · rw [if_pos c61] at H
                                    have c61b0 := eq_true c61
                                    have c61b1 : decide (1 ≤ (a0.size : Int)) = true := decide_eq_true c61
                                    clear c61
                                    obtain rfl := Option.some.inj H
                                    have p25 : 0 ≤ (0 : Int) := (by omega)
                                    have q25 : 0 < a0.size := (by have : (0 : Int) < (a0.size : Int) := of_decide_eq_true (by first | (with_reducible assumption) | assumption); omega)
                                    have hx25 : ∀ h : 0 < a0.size, ((a0[0]'h).toNat : Int) = bt a0 0 := bt_at a0 0
                                    clear p25
                                    have qi25 : (0 < (a0.size : Int)) = True := eq_true (of_decide_eq_true (by first | (with_reducible assumption) | assumption))
                                    replace q25 := eq_true q25
                                    go_wp2
                                    go_ret
                                    exact ⟨by first | rfl | (simp; done) | (simp [*]; done), by repeat (first | exact Drawn0.refl _ | apply Drawn0.step)⟩
                                  · rw [if_neg c61] at H
                                    exact absurd H (by simp)
                                · rw [if_neg c60] at H
                                  exact absurd H (by simp)
                              · rw [if_neg c59] at H
                                have c59b0 : ((bt a0 0) == 47) = false := beq_eq_false_iff_ne.mpr c59
                                have c59b1 : ((bt a0 0) != 47) = true := bne_iff_ne.mpr c59
                                by_cases c62 : (bt a0 0) = 37
                                · rw [if_pos c62] at H
                                  have c62b0 : ((bt a0 0) == 37) = true := beq_iff_eq.mpr c62
                                  have c62b1 : ((bt a0 0) != 37) = false := bne_eq_false_iff_eq.mpr c62
                                  clear c62
                                  by_cases c63 : 0 ≤ 1
                                  · rw [if_pos c63] at H
                                    have c63b0 := eq_true c63
                                    have c63b1 : decide (0 ≤ 1) = true := decide_eq_true c63
                                    clear c63
                                    by_cases c64 : 1 ≤ (a0.size : Int)
                                    · rw [if_pos c64] at H
                                      have c64b0 := eq_true c64
                                      have c64b1 : decide (1 ≤ (a0.size : Int)) = true := decide_eq_true c64
                                      clear c64
                                      obtain rfl := Option.some.inj H
                                      have p25 : 0 ≤ (0 : Int) := (by omega)
                                      have q25 : 0 < a0.size := (by have : (0 : Int) < (a0.size : Int) := of_decide_eq_true (by first | (with_reducible assumption) | assumption); omega)
                                      have hx25 : ∀ h : 0 < a0.size, ((a0[0]'h).toNat : Int) = bt a0 0 := bt_at a0 0
                                      clear p25
                                      have qi25 : (0 < (a0.size : Int)) = True := eq_true (of_decide_eq_true (by first | (with_reducible assumption) | assumption))
                                      replace q25 := eq_true q25
                                      go_wp2
                                      go_ret
                                      exact ⟨by first | rfl | (simp; done) | (simp [*]; done), by repeat (first | exact Drawn0.refl _ | apply Drawn0.step)⟩
                                    · rw [if_neg c64] at H
                                      exact absurd H (by simp)
                                  · rw [if_neg c63] at H
                                    exact absurd H (by simp)
                                · rw [if_neg c62] at H
                                  have c62b0 : ((bt a0 0) == 37) = false := beq_eq_false_iff_ne.mpr c62
                                  have c62b1 : ((bt a0 0) != 37) = true := bne_iff_ne.mpr c62
                                  by_cases c65 : (bt a0 0) = 38
                                  · rw [if_pos c65] at H
                                    have c65b0 : ((bt a0 0) == 38) = true := beq_iff_eq.mpr c65
                                    have c65b1 : ((bt a0 0) != 38) = false := bne_eq_false_iff_eq.mpr c65
                                    clear c65
                                    by_cases c66 : 0 ≤ 1
                                    · rw [if_pos c66] at H
                                      have c66b0 := eq_true c66
                                      have c66b1 : decide (0 ≤ 1) = true := decide_eq_true c66
                                      clear c66
                                      by_cases c67 : 1 ≤ (a0.size : Int)
                                      · rw [if_pos c67] at H
                                        have c67b0 := eq_true c67
                                        have c67b1 : decide (1 ≤ (a0.size : Int)) = true := decide_eq_true c67
                                        clear c67
                                        obtain rfl := Option.some.inj H
                                        have p25 : 0 ≤ (0 : Int) := (by omega)
                                        have q25 : 0 < a0.size := (by have : (0 : Int) < (a0.size : Int) := of_decide_eq_true (by first | (with_reducible assumption) | assumption); omega)
                                        have hx25 : ∀ h : 0 < a0.size, ((a0[0]'h).toNat : Int) = bt a0 0 := bt_at a0 0
                                        clear p25
                                        have qi25 : (0 < (a0.size : Int)) = True := eq_true (of_decide_eq_true (by first | (with_reducible assumption) | assumption))
                                        replace q25 := eq_true q25
                                        go_wp2
                                        go_ret
                                        exact ⟨by first | rfl | (simp; done) | (simp [*]; done), by repeat (first | exact Drawn0.refl _ | apply Drawn0.step)⟩
                                      · rw [if_neg c67] at H
                                        exact absurd H (by simp)
                                    · rw [if_neg c66] at H
                                      exact absurd H (by simp)
                                  · rw [if_neg c65] at H
                                    have c65b0 : ((bt a0 0) == 38) = false := beq_eq_false_iff_ne.mpr c65
                                    have c65b1 : ((bt a0 0) != 38) = true := bne_iff_ne.mpr c65
                                    by_cases c68 : (bt a0 0) = 124
                                    · rw [if_pos c68] at H
                                      have c68b0 : ((bt a0 0) == 124) = true := beq_iff_eq.mpr c68
                                      have c68b1 : ((bt a0 0) != 124) = false := bne_eq_false_iff_eq.mpr c68
                                      clear c68
                                      by_cases c69 : 0 ≤ 1
                                      · rw [if_pos c69] at H
                                        have c69b0 := eq_true c69
                                        have c69b1 : decide (0 ≤ 1) = true := decide_eq_true c69
                                        clear c69
                                        by_cases c70 : 1 ≤ (a0.size : Int)
                                        · rw [if_pos c70] at H
                                          have c70b0 := eq_true c70
                                          have c70b1 : decide (1 ≤ (a0.size : Int)) = true := decide_eq_true c70
                                          clear c70
                                          obtain rfl := Option.some.inj H
                                          have p25 : 0 ≤ (0 : Int) := (by omega)
                                          have q25 : 0 < a0.size := (by have : (0 : Int) < (a0.size : Int) := of_decide_eq_true (by first | (with_reducible assumption) | assumption); omega)
                                          have hx25 : ∀ h : 0 < a0.size, ((a0[0]'h).toNat : Int) = bt a0 0 := bt_at a0 0
                                          clear p25
                                          have qi25 : (0 < (a0.size : Int)) = True := eq_true (of_decide_eq_true (by first | (with_reducible assumption) | assumption))
                                          replace q25 := eq_true q25
                                          go_wp2
                                          go_ret
                                          exact ⟨by first | rfl | (simp; done) | (simp [*]; done), by repeat (first | exact Drawn0.refl _ | apply Drawn0.step)⟩
                                        · rw [if_neg c70] at H
                                          exact absurd H (by simp)
                                      · rw [if_neg c69] at H
                                        exact absurd H (by simp)
                                    · rw [if_neg c68] at H
                                      have c68b0 : ((bt a0 0) == 124) = false := beq_eq_false_iff_ne.mpr c68
                                      have c68b1 : ((bt a0 0) != 124) = true := bne_iff_ne.mpr c68
                                      by_cases c71 : (bt a0 0) = 94
                                      · rw [if_pos c71] at H
                                        have c71b0 : ((bt a0 0) == 94) = true := beq_iff_eq.mpr c71
                                        have c71b1 : ((bt a0 0) != 94) = false := bne_eq_false_iff_eq.mpr c71
                                        clear c71
                                        by_cases c72 : 0 ≤ 1
                                        · rw [if_pos c72] at H
                                          have c72b0 := eq_true c72
                                          have c72b1 : decide (0 ≤ 1) = true := decide_eq_true c72
                                          clear c72
                                          by_cases c73 : 1 ≤ (a0.size : Int)
                                          · rw [if_pos c73] at H
                                            have c73b0 := eq_true c73
                                            have c73b1 : decide (1 ≤ (a0.size : Int)) = true := decide_eq_true c73
                                            clear c73
                                            obtain rfl := Option.some.inj H
                                            have p25 : 0 ≤ (0 : Int) := (by omega)
                                            have q25 : 0 < a0.size := (by have : (0 : Int) < (a0.size : Int) := of_decide_eq_true (by first | (with_reducible assumption) | assumption); omega)
                                            have hx25 : ∀ h : 0 < a0.size, ((a0[0]'h).toNat : Int) = bt a0 0 := bt_at a0 0
                                            clear p25
                                            have qi25 : (0 < (a0.size : Int)) = True := eq_true (of_decide_eq_true (by first | (with_reducible assumption) | assumption))
                                            replace q25 := eq_true q25
                                            go_wp2
                                            go_ret
                                            exact ⟨by first | rfl | (simp; done) | (simp [*]; done), by repeat (first | exact Drawn0.refl _ | apply Drawn0.step)⟩
                                          · rw [if_neg c73] at H
                                            exact absurd H (by simp)
                                        · rw [if_neg c72] at H
                                          exact absurd H (by simp)
                                      · rw [if_neg c71] at H
                                        have c71b0 : ((bt a0 0) == 94) = false := beq_eq_false_iff_ne.mpr c71
                                        have c71b1 : ((bt a0 0) != 94) = true := bne_iff_ne.mpr c71
                                        obtain rfl := Option.some.inj H
                                        have p25 : 0 ≤ (0 : Int) := (by omega)
                                        have q25 : 0 < a0.size := (by have : (0 : Int) < (a0.size : Int) := of_decide_eq_true (by first | (with_reducible assumption) | assumption); omega)
                                        have hx25 : ∀ h : 0 < a0.size, ((a0[0]'h).toNat : Int) = bt a0 0 := bt_at a0 0
                                        clear p25
                                        have qi25 : (0 < (a0.size : Int)) = True := eq_true (of_decide_eq_true (by first | (with_reducible assumption) | assumption))
                                        replace q25 := eq_true q25
                                        go_wp2
                                        go_ret
                                        exact ⟨by first | rfl | (simp; done) | (simp [*]; done), by repeat (first | exact Drawn0.refl _ | apply Drawn0.step)⟩
      · rw [if_neg c24] at H
        exact absurd H (by simp)

end Go.Proofs.YtobhcpfdgfkeiaaDoor.Lx

namespace Go.Proofs.YtobhcpfdgfkeiaaDoor.Lp
open Go.RowKit Go.Proofs.YtobhcpfdgfkeiaaDoorW.PrintWords Go.Proofs.YtobhcpfdgfkeiaaDoor.Ext Go.Proofs.YtobhcpfdgfkeiaaDoor.Lx Go.Proofs.YtobhcpfdgfkeiaaDoor.Lf
set_option linter.unusedVariables false

theorem word_loop (x : ByteArray) (ws : List ByteArray) (hl : ws.length ≤ 1000) : ∀ (d k j : Nat), j ≤ ws.length → ws.length - j ≤ d → d < k → umlautref17_isWord.l0 k x ws (j : Int) = some ((ws.drop j).any fun w => w.data.toList == x.data.toList) := by
  intro d
  induction d with
  | zero =>
    intro k j hj hd hk
    obtain ⟨k, rfl⟩ : ∃ m, k = m + 1 := ⟨k - 1, by omega⟩
    simp only [umlautref17_isWord.l0]
    rw [if_neg (by omega), List.drop_eq_nil_of_le (by omega)]; rfl
  | succ d ih =>
    intro k j hj hd hk
    obtain ⟨k, rfl⟩ : ∃ m, k = m + 1 := ⟨k - 1, by omega⟩
    by_cases hlt : j < ws.length
    · simp only [umlautref17_isWord.l0]
      rw [if_pos (by omega), if_pos (by omega), rdOf_at ws j hlt, Lib.toList_data, Lib.toList_data, List.drop_eq_getElem_cons hlt, List.any_cons]
      by_cases h : ws[j].data.toList = x.data.toList
      · rw [if_pos h, h]; simp
      · rw [if_neg h, wrap_add1 _ (by omega), ih k (j + 1) (by omega) (by omega) (by omega)]
        rw [show (ws[j].data.toList == x.data.toList) = false from beq_eq_false_iff_ne.mpr h, Bool.false_or]
    · simp only [umlautref17_isWord.l0]
      rw [if_neg (by omega), List.drop_eq_nil_of_le (by omega)]; rfl
def wordsB : List ByteArray := wordsT.map fun w => ⟨w.toArray⟩
theorem words_f : umlautref17_Words.f = some wordsB := rfl
theorem rword_eq (x : ByteArray) (k : Nat) (hk : 60 ≤ k) : umlautref17_isWord.f k x = some (isWord x.data.toList) := by
  unfold umlautref17_isWord.f
  rw [words_f]
  simp only [Option.bind_some]
  have h := word_loop x wordsB (by decide) 48 k 0 (by decide) (by decide) (by omega)
  rw [List.drop_zero] at h
  refine h.trans ?_
  unfold wordsB isWord
  rw [List.any_map]
  congr 1
  rw [Bool.eq_iff_iff, List.any_eq_true, List.contains_iff_mem]
  constructor
  · rintro ⟨w, hw, e⟩
    simp only [Function.comp_apply, List.toList_toArray, beq_iff_eq] at e
    rw [← e]; exact hw
  · intro hm
    exact ⟨_, hm, by simp⟩

theorem ext_one {s : ByteArray} {i : Nat} (h : i < s.size) : (s.extract i (i + 1)).data.toList = [s[i]] := by
  rw [Lib.extract_data, drop_at h, show i + 1 - i = 1 by omega]; rfl
theorem ext_one_size {s : ByteArray} {i : Nat} (h : i < s.size) : (s.extract i (i + 1)).size = 1 := by
  rw [ByteArray.size_extract]; omega
theorem app_bytes (a b : ByteArray) : a ++ b = ⟨(a.data.toList ++ b.data.toList).toArray⟩ := by
  apply WideShapes.bytes_inj
  rw [ByteArray.data_append]; simp
def rtextAns (acc : ByteArray) (i : Nat) (l : Bytes) : ByteArray × Int × Bool := match textOf l with | none => (⟨#[]⟩, 0, false) | some x => (acc ++ ⟨x.1.toArray⟩, ((i + x.2 : Nat) : Int), true)
theorem app_app (a : ByteArray) (x y : Bytes) : a ++ ⟨x.toArray⟩ ++ ⟨y.toArray⟩ = a ++ ⟨(x ++ y).toArray⟩ := by
  apply WideShapes.bytes_inj
  rw [ByteArray.data_append, ByteArray.data_append, ByteArray.data_append]; simp
theorem rtext_loop (s : ByteArray) (hs : s.size ≤ 140737488351232) : ∀ (d k i : Nat) (acc : ByteArray), i ≤ s.size + 1 → s.size - i ≤ d → d < k → acc.size ≤ i → umlautref17_text.l0 k s acc (i : Int) = some (rtextAns acc i (s.data.toList.drop i)) := by
  intro d
  induction d using Nat.strongRecOn with
  | _ d ih =>
  intro k i acc hi hd hk ha
  obtain ⟨k, rfl⟩ : ∃ m, k = m + 1 := ⟨k - 1, by omega⟩
  simp only [umlautref17_text.l0]
  by_cases hlt : i < s.size
  · rw [if_pos (by omega), if_pos (by omega), bt_nat hlt]
    rw [drop_at hlt]
    unfold rtextAns
    rw [textOf.eq_def]
    simp only
    by_cases hc : s[i].toNat = 39
    · rw [if_pos (by omega), if_pos hc, wrap_add1 _ (by omega)]
      by_cases hlt2 : i + 1 < s.size
      · rw [if_pos (by omega), if_pos (by omega), bt_nat hlt2, drop_at hlt2]
        simp only
        by_cases hd2 : s[i + 1].toNat = 39
        · rw [if_pos (by omega), if_pos hd2, if_pos (by omega), wrap_add1 _ (by omega)]
          have e : s[i + 1] = 39 := UInt8.toNat_inj.mp hd2
          rw [ih (d - 2) (by omega) k (i + 2) _ (by omega) (by omega) (by omega) (by rw [ByteArray.size_append]; show acc.size + 1 ≤ _; omega)]
          unfold rtextAns
          cases ht : textOf (s.data.toList.drop (i + 1 + 1)) with
          | none => rfl
          | some x =>
            simp only [Option.map_some]
            rw [e, show (⟨#[39]⟩ : ByteArray) = ⟨([39] : Bytes).toArray⟩ from rfl, app_app]
            congr 3
            omega
        · rw [if_neg (by omega), if_neg hd2]
          simp only
          rw [show acc ++ (⟨([] : Bytes).toArray⟩ : ByteArray) = acc from by apply WideShapes.bytes_inj; rw [ByteArray.data_append]; simp]
      · rw [if_neg (by omega), drop_end (by omega)]
        simp only
        rw [show acc ++ (⟨([] : Bytes).toArray⟩ : ByteArray) = acc from by apply WideShapes.bytes_inj; rw [ByteArray.data_append]; simp]
    · rw [if_neg (by omega), if_neg hc, wrap_add1 _ (by omega), if_pos (by omega), if_pos (by omega), Int.toNat_natCast, Int.toNat_natCast]
      rw [if_pos (by rw [ext_one_size hlt]; omega)]
      rw [ih (d - 1) (by omega) k (i + 1) _ (by omega) (by omega) (by omega) (by rw [ByteArray.size_append, ext_one_size hlt]; omega)]
      unfold rtextAns
      cases ht : textOf (s.data.toList.drop (i + 1)) with
      | none => rfl
      | some x =>
        simp only [Option.map_some]
        rw [show s.extract i (i + 1) = ⟨([s[i]] : Bytes).toArray⟩ from by apply WideShapes.bytes_inj; rw [ext_one hlt], app_app]
        congr 3
        omega
  · rw [if_neg (by omega), drop_end (by omega)]
    rfl
theorem rtext_eq (s : ByteArray) (hs : s.size ≤ 140737488351232) (k i : Nat) (hi : i < s.size) (hk : s.size < k) : umlautref17_text.f k s (i : Int) = some (rtextAns ⟨#[]⟩ (i + 1) (s.data.toList.drop (i + 1))) := by
  unfold umlautref17_text.f
  rw [wrap_add1 _ (by omega)]
  exact rtext_loop s hs s.size k (i + 1) ⟨#[]⟩ (by omega) (by omega) (by omega) (Nat.zero_le _)

def chainIf {α : Type} (n : Int) (A B : α) : List Int → α
  | [] => B
  | x :: xs => if n = x then A else chainIf n A B xs
theorem chainIf_eq {α : Type} (n : Int) (A B : α) : ∀ xs : List Int, chainIf n A B xs = if xs.contains n = true then A else B
  | [] => rfl
  | x :: xs => by
    rw [chainIf, chainIf_eq n A B xs, List.contains_cons]
    by_cases h : n = x
    · subst h; simp
    · rw [if_neg h, show (n == x) = false from beq_eq_false_iff_ne.mpr h, Bool.false_or]
theorem single_fin : ∀ n : Fin 256, ([40, 41, 44, 46, 59, 42, 61, 60, 62, 43, 45, 47, 37, 38, 124, 94] : List Int).contains (n.val : Int) = single (UInt8.ofNat n.val) := by decide +kernel
theorem single_int (c : UInt8) : ([40, 41, 44, 46, 59, 42, 61, 60, 62, 43, 45, 47, 37, 38, 124, 94] : List Int).contains (c.toNat : Int) = single c := by
  have := single_fin ⟨c.toNat, c.toNat_lt⟩
  simpa using this
theorem rop_one (s : ByteArray) (k : Nat) (hk : 1 ≤ k) (h0 : 0 < s.size) : umlautref17_op.j0 k s = some (if single s[0] = true then ⟨(s.data.toList.take 1).toArray⟩ else ⟨#[]⟩) := by
  obtain ⟨k, rfl⟩ : ∃ m, k = m + 1 := ⟨k - 1, by omega⟩
  have hb : bt s 0 = (s[0].toNat : Int) := bt_nat (i := 0) h0
  simp only [umlautref17_op.j0]
  rw [if_pos (by omega), hb, if_pos (show (0 : Nat) ≤ 1 by decide), if_pos (show (1 : Int) ≤ (s.size : Int) by omega), bytes_take]
  refine (show _ = chainIf (s[0].toNat : Int) (some (⟨(s.data.toList.take 1).toArray⟩ : ByteArray)) (some (⟨#[]⟩ : ByteArray)) [40, 41, 44, 46, 59, 42, 61, 60, 62, 43, 45, 47, 37, 38, 124, 94] from rfl).trans ?_
  rw [chainIf_eq, single_int]
  split <;> rfl
theorem rop_eq (s : ByteArray) (k : Nat) (hk : 1 ≤ k) (h0 : 0 < s.size) : umlautref17_op.f k s = some ⟨(s.data.toList.take (opLen s.data.toList)).toArray⟩ := by
  unfold umlautref17_op.f
  rw [rop_one s k hk h0]
  have e : s.data.toList = s[0] :: s.data.toList.drop 1 := by have := drop_at (k := 0) h0; simpa using this
  have single_end : ∀ r, s.data.toList = s[0] :: r → opLen s.data.toList = (if single s[0] = true then 1 else 0) → some (if single s[0] = true then (⟨(s.data.toList.take 1).toArray⟩ : ByteArray) else ⟨#[]⟩) = some ⟨(s.data.toList.take (opLen s.data.toList)).toArray⟩ := by
    intro r hr ho
    rw [ho]
    by_cases h : single s[0] = true
    · rw [if_pos h, if_pos h]
    · rw [if_neg h, if_neg h]; rfl
  by_cases h2 : 2 ≤ s.size
  · have e1 : s.data.toList.drop 1 = s[1] :: s.data.toList.drop 2 := drop_at (k := 1) (by omega)
    have ee : s.data.toList = s[0] :: s[1] :: s.data.toList.drop 2 := by rw [← e1]; exact e
    have et : (s.extract 0 2).toList = [s[0], s[1]] := by rw [Lib.toList_data, ext_take, ee]; rfl
    rw [if_pos (by omega), if_pos (by decide), if_pos (by omega), et, bytes_take]
    have ho : opLen s.data.toList = if double s[0] s[1] = true then 2 else if single s[0] = true then 1 else 0 := by
      have := congrArg opLen ee; exact this
    by_cases hd : double s[0] s[1] = true
    · rw [ho, if_pos hd]
      unfold double at hd
      rw [List.contains_iff_mem] at hd
      simp only [List.mem_cons, Prod.mk.injEq, List.not_mem_nil, or_false] at hd
      rcases hd with ⟨a, b⟩ | ⟨a, b⟩ | ⟨a, b⟩ | ⟨a, b⟩ | ⟨a, b⟩ | ⟨a, b⟩ <;> rw [a, b] <;> rfl
    · have hn : ∀ a b : UInt8, double a b = true → ¬ [s[0], s[1]] = [a, b] := by
        intro a b hab h
        simp only [List.cons.injEq, and_true] at h
        rw [h.1, h.2] at hd
        exact hd hab
      rw [if_neg (hn 60 62 rfl), if_neg (hn 60 61 rfl), if_neg (hn 62 61 rfl), if_neg (hn 60 60 rfl), if_neg (hn 62 62 rfl), if_neg (hn 124 124 rfl)]
      exact single_end _ ee (by rw [ho, if_neg hd])
  · rw [if_neg (by omega)]
    have e1 : s.data.toList.drop 1 = [] := drop_end (by omega)
    refine single_end _ e ?_
    have := congrArg opLen (e.trans (by rw [e1]))
    exact this
end Go.Proofs.YtobhcpfdgfkeiaaDoor.Lp

namespace Go.Proofs.YtobhcpfdgfkeiaaDoor.Lx
open Go.RowKit Go.Proofs.YtobhcpfdgfkeiaaDoorW.PrintWords Go.Proofs.YtobhcpfdgfkeiaaDoorW.PrintLast Go.Proofs.YtobhcpfdgfkeiaaDoorW.PrintMore Go.Proofs.YtobhcpfdgfkeiaaDoor.Lf Go.Proofs.YtobhcpfdgfkeiaaDoor.Ext
attribute [local go_sem] max2_int min2_int max_two min_two max_three min_three max_four min_four   -- for this text's walks alone
set_option linter.unusedVariables false
set_option linter.unusedSimpArgs false

/-! ### umlautref17_Tokens: function 11 -/
mutual
def umlautref17_Tokens.l0 : Nat → ByteArray → List (S37) → Int → Option ((List (S37)) × Int × Int)
  | 0, _, _, _ => none
  | k + 1, x0, x3, x4 => if x4 < (x0.size : Int) then (if 0 ≤ x4 then (if (bt x0 x4) = 32 then (umlautref17_Tokens.j1 k x0 x3 x4 (bt x0 x4) true) else (if (bt x0 x4) = 9 then (umlautref17_Tokens.j1 k x0 x3 x4 (bt x0 x4) true) else (if (bt x0 x4) = 10 then (umlautref17_Tokens.j1 k x0 x3 x4 (bt x0 x4) true) else (umlautref17_Tokens.j1 k x0 x3 x4 (bt x0 x4) ((bt x0 x4) == 13))))) else (none)) else (some (x3, 0, 0))
def umlautref17_Tokens.j1 : Nat → ByteArray → List (S37) → Int → Int → Bool → Option ((List (S37)) × Int × Int)
  | 0, _, _, _, _, _ => none
  | k + 1, x0, x3, x4, x5, x38 => if x38 = true then (umlautref17_Tokens.l0 k x0 x3 (wrap64 (x4 + 1))) else (if x5 = 45 then (if (wrap64 (x4 + 1)) < (x0.size : Int) then (if 0 ≤ (wrap64 (x4 + 1)) then (umlautref17_Tokens.j2 k x0 x3 x4 x5 ((bt x0 (wrap64 (x4 + 1))) == 45)) else (none)) else (umlautref17_Tokens.j2 k x0 x3 x4 x5 false)) else (umlautref17_Tokens.j2 k x0 x3 x4 x5 false))
def umlautref17_Tokens.j2 : Nat → ByteArray → List (S37) → Int → Int → Bool → Option ((List (S37)) × Int × Int)
  | 0, _, _, _, _, _ => none
  | k + 1, x0, x3, x4, x5, x56 => if x56 = true then (umlautref17_Tokens.l1 k x0 x3 x4) else ((umlautref17_digit.f x5).bind fun t195 => (if t195 = true then (umlautref17_Tokens.l2 k x0 x3 x4 x4) else ((umlautref17_letter.f x5).bind fun t206 => (if t206 = true then (umlautref17_Tokens.l3 k x0 x3 x4 x4) else (if x5 = 39 then ((umlautref17_text.f k x0 x4).bind fun bt217 => (if bt217.2.2 = true then (if x3.length < 3518437208883 then (umlautref17_Tokens.l0 k x0 (x3 ++ [(⟨4, bt217.1, 0, x4⟩ : S37)]) bt217.2.1) else (none)) else (some (([] : List (S37)), x4, 10)))) else (if 0 ≤ x4 then (if x4 ≤ (x0.size : Int) then ((umlautref17_op.f k (x0.extract (x4 : Int).toNat x0.size)).bind fun t223 => (if t223.toList = ([] : List UInt8) then (some (([] : List (S37)), x4, 10)) else (if x3.length < 3518437208883 then (umlautref17_Tokens.l0 k x0 (x3 ++ [(⟨5, t223, 0, x4⟩ : S37)]) (wrap64 (x4 + (t223.size : Int)))) else (none)))) else (none)) else (none)))))))
def umlautref17_Tokens.l1 : Nat → ByteArray → List (S37) → Int → Option ((List (S37)) × Int × Int)
  | 0, _, _, _ => none
  | k + 1, x0, x3, x4 => if x4 < (x0.size : Int) then (if 0 ≤ x4 then (if (bt x0 x4) = 10 then (umlautref17_Tokens.l0 k x0 x3 x4) else (umlautref17_Tokens.l1 k x0 x3 (wrap64 (x4 + 1)))) else (none)) else (umlautref17_Tokens.l0 k x0 x3 x4)
def umlautref17_Tokens.j5 : Nat → ByteArray → List (S37) → Int → Int → Option ((List (S37)) × Int × Int)
  | 0, _, _, _, _ => none
  | k + 1, x0, x3, x4, x6 => if 0 ≤ x4 then (if x4 ≤ x6 then (if x6 ≤ (x0.size : Int) then ((umlautref1_Parse.f k (x0.extract (x4 : Int).toNat (x6 : Int).toNat)).bind fun bt197 => (if bt197.2 = 0 then (if x6 < (x0.size : Int) then (if 0 ≤ x6 then ((umlautref17_letter.f (bt x0 x6)).bind fun t199 => (if t199 = true then (some (([] : List (S37)), x4, 10)) else (if x3.length < 3518437208883 then (umlautref17_Tokens.l0 k x0 (x3 ++ [(⟨3, (⟨#[]⟩ : ByteArray), bt197.1, x4⟩ : S37)]) x6) else (none)))) else (none)) else (if x3.length < 3518437208883 then (umlautref17_Tokens.l0 k x0 (x3 ++ [(⟨3, (⟨#[]⟩ : ByteArray), bt197.1, x4⟩ : S37)]) x6) else (none))) else (some (([] : List (S37)), x4, 10)))) else (none)) else (none)) else (none)
def umlautref17_Tokens.l2 : Nat → ByteArray → List (S37) → Int → Int → Option ((List (S37)) × Int × Int)
  | 0, _, _, _, _ => none
  | k + 1, x0, x3, x4, x6 => if x6 < (x0.size : Int) then (if 0 ≤ x6 then ((umlautref17_digit.f (bt x0 x6)).bind fun t196 => (if t196 = true then (umlautref17_Tokens.l2 k x0 x3 x4 (wrap64 (x6 + 1))) else (umlautref17_Tokens.j5 k x0 x3 x4 x6))) else (none)) else (umlautref17_Tokens.j5 k x0 x3 x4 x6)
def umlautref17_Tokens.j7 : Nat → ByteArray → List (S37) → Int → Int → Option ((List (S37)) × Int × Int)
  | 0, _, _, _, _ => none
  | k + 1, x0, x3, x4, x6 => if (wrap64 (x6 - x4)) > 16 then (some (([] : List (S37)), x4, 10)) else (if 0 ≤ x4 then (if x4 ≤ x6 then (if x6 ≤ (x0.size : Int) then ((umlautref17_upper.f (x0.extract (x4 : Int).toNat (x6 : Int).toNat)).bind fun t208 => ((umlautref17_isWord.f k t208).bind fun t209 => (if t209 = true then (if x3.length < 3518437208883 then (umlautref17_Tokens.l0 k x0 (x3 ++ [(⟨2, t208, 0, x4⟩ : S37)]) x6) else (none)) else ((umlautref17_lower.f (x0.extract (x4 : Int).toNat (x6 : Int).toNat)).bind fun t213 => (if x3.length < 3518437208883 then (umlautref17_Tokens.l0 k x0 (x3 ++ [(⟨1, t213, 0, x4⟩ : S37)]) x6) else (none)))))) else (none)) else (none)) else (none))
def umlautref17_Tokens.l3 : Nat → ByteArray → List (S37) → Int → Int → Option ((List (S37)) × Int × Int)
  | 0, _, _, _, _ => none
  | k + 1, x0, x3, x4, x6 => if x6 < (x0.size : Int) then (if 0 ≤ x6 then ((umlautref17_letter.f (bt x0 x6)).bind fun t207 => (if t207 = true then (umlautref17_Tokens.l3 k x0 x3 x4 (wrap64 (x6 + 1))) else (umlautref17_Tokens.j7 k x0 x3 x4 x6))) else (none)) else (umlautref17_Tokens.j7 k x0 x3 x4 x6)
end
def umlautref17_Tokens.f (k : Nat) (a0 : ByteArray) : Option ((List (S37)) × Int × Int) := if (a0.size : Int) > 4000 then (some (([] : List (S37)), 0, 2)) else (umlautref17_Tokens.l0 k a0 ([] : List (S37)) 0)
theorem umlautref17_Tokens.mono_l : ∀ k, (∀ y0 y1 y2, LeO (umlautref17_Tokens.l0 k y0 y1 y2) (umlautref17_Tokens.l0 (k + 1) y0 y1 y2)) ∧ (∀ y0 y1 y2 y3 y4, LeO (umlautref17_Tokens.j1 k y0 y1 y2 y3 y4) (umlautref17_Tokens.j1 (k + 1) y0 y1 y2 y3 y4)) ∧ (∀ y0 y1 y2 y3 y4, LeO (umlautref17_Tokens.j2 k y0 y1 y2 y3 y4) (umlautref17_Tokens.j2 (k + 1) y0 y1 y2 y3 y4)) ∧ (∀ y0 y1 y2, LeO (umlautref17_Tokens.l1 k y0 y1 y2) (umlautref17_Tokens.l1 (k + 1) y0 y1 y2)) ∧ (∀ y0 y1 y2 y3, LeO (umlautref17_Tokens.j5 k y0 y1 y2 y3) (umlautref17_Tokens.j5 (k + 1) y0 y1 y2 y3)) ∧ (∀ y0 y1 y2 y3, LeO (umlautref17_Tokens.l2 k y0 y1 y2 y3) (umlautref17_Tokens.l2 (k + 1) y0 y1 y2 y3)) ∧ (∀ y0 y1 y2 y3, LeO (umlautref17_Tokens.j7 k y0 y1 y2 y3) (umlautref17_Tokens.j7 (k + 1) y0 y1 y2 y3)) ∧ (∀ y0 y1 y2 y3, LeO (umlautref17_Tokens.l3 k y0 y1 y2 y3) (umlautref17_Tokens.l3 (k + 1) y0 y1 y2 y3))
  | 0 => ⟨fun _ _ _ r h => by simp [umlautref17_Tokens.l0] at h, fun _ _ _ _ _ r h => by simp [umlautref17_Tokens.j1] at h, fun _ _ _ _ _ r h => by simp [umlautref17_Tokens.j2] at h, fun _ _ _ r h => by simp [umlautref17_Tokens.l1] at h, fun _ _ _ _ r h => by simp [umlautref17_Tokens.j5] at h, fun _ _ _ _ r h => by simp [umlautref17_Tokens.l2] at h, fun _ _ _ _ r h => by simp [umlautref17_Tokens.j7] at h, fun _ _ _ _ r h => by simp [umlautref17_Tokens.l3] at h⟩
  | k + 1 => by
    obtain ⟨ih0, ih1, ih2, ih3, ih4, ih5, ih6, ih7⟩ := umlautref17_Tokens.mono_l k
    refine ⟨?_, ?_, ?_, ?_, ?_, ?_, ?_, ?_⟩
    · intro y0 y1 y2
      unfold umlautref17_Tokens.l0
      repeat' first
      | (with_reducible exact ih0 _ _ _)
      | (with_reducible exact ih1 _ _ _ _ _)
      | (with_reducible exact ih2 _ _ _ _ _)
      | (with_reducible exact ih3 _ _ _)
      | (with_reducible exact ih4 _ _ _ _)
      | (with_reducible exact ih5 _ _ _ _)
      | (with_reducible exact ih6 _ _ _ _)
      | (with_reducible exact ih7 _ _ _ _)
      | (with_reducible exact umlautref17_isWord.mono _ _)
      | (with_reducible exact umlautref17_op.mono _ _)
      | (with_reducible exact umlautref17_text.mono _ _ _)
      | (with_reducible exact umlautref1_Parse.mono _ _)
      | (with_reducible exact LeO.refl _)
      | (with_reducible exact LeO.none _)
      | (with_reducible refine LeO.ite ?_ ?_)
      | (with_reducible refine LeO.bind ?_ (fun _ => ?_))
      | exact ih0 _ _ _
      | exact ih1 _ _ _ _ _
      | exact ih2 _ _ _ _ _
      | exact ih3 _ _ _
      | exact ih4 _ _ _ _
      | exact ih5 _ _ _ _
      | exact ih6 _ _ _ _
      | exact ih7 _ _ _ _
      | exact umlautref17_isWord.mono _ _
      | exact umlautref17_op.mono _ _
      | exact umlautref17_text.mono _ _ _
      | exact umlautref1_Parse.mono _ _
      | exact LeO.none _
      | refine LeO.ite ?_ ?_
      | refine LeO.bind ?_ (fun _ => ?_)
    · intro y0 y1 y2 y3 y4
      unfold umlautref17_Tokens.j1
      repeat' first
      | (with_reducible exact ih0 _ _ _)
      | (with_reducible exact ih1 _ _ _ _ _)
      | (with_reducible exact ih2 _ _ _ _ _)
      | (with_reducible exact ih3 _ _ _)
      | (with_reducible exact ih4 _ _ _ _)
      | (with_reducible exact ih5 _ _ _ _)
      | (with_reducible exact ih6 _ _ _ _)
      | (with_reducible exact ih7 _ _ _ _)
      | (with_reducible exact umlautref17_isWord.mono _ _)
      | (with_reducible exact umlautref17_op.mono _ _)
      | (with_reducible exact umlautref17_text.mono _ _ _)
      | (with_reducible exact umlautref1_Parse.mono _ _)
      | (with_reducible exact LeO.refl _)
      | (with_reducible exact LeO.none _)
      | (with_reducible refine LeO.ite ?_ ?_)
      | (with_reducible refine LeO.bind ?_ (fun _ => ?_))
      | exact ih0 _ _ _
      | exact ih1 _ _ _ _ _
      | exact ih2 _ _ _ _ _
      | exact ih3 _ _ _
      | exact ih4 _ _ _ _
      | exact ih5 _ _ _ _
      | exact ih6 _ _ _ _
      | exact ih7 _ _ _ _
      | exact umlautref17_isWord.mono _ _
      | exact umlautref17_op.mono _ _
      | exact umlautref17_text.mono _ _ _
      | exact umlautref1_Parse.mono _ _
      | exact LeO.none _
      | refine LeO.ite ?_ ?_
      | refine LeO.bind ?_ (fun _ => ?_)
    · intro y0 y1 y2 y3 y4
      unfold umlautref17_Tokens.j2
      repeat' first
      | (with_reducible exact ih0 _ _ _)
      | (with_reducible exact ih1 _ _ _ _ _)
      | (with_reducible exact ih2 _ _ _ _ _)
      | (with_reducible exact ih3 _ _ _)
      | (with_reducible exact ih4 _ _ _ _)
      | (with_reducible exact ih5 _ _ _ _)
      | (with_reducible exact ih6 _ _ _ _)
      | (with_reducible exact ih7 _ _ _ _)
      | (with_reducible exact umlautref17_isWord.mono _ _)
      | (with_reducible exact umlautref17_op.mono _ _)
      | (with_reducible exact umlautref17_text.mono _ _ _)
      | (with_reducible exact umlautref1_Parse.mono _ _)
      | (with_reducible exact LeO.refl _)
      | (with_reducible exact LeO.none _)
      | (with_reducible refine LeO.ite ?_ ?_)
      | (with_reducible refine LeO.bind ?_ (fun _ => ?_))
      | exact ih0 _ _ _
      | exact ih1 _ _ _ _ _
      | exact ih2 _ _ _ _ _
      | exact ih3 _ _ _
      | exact ih4 _ _ _ _
      | exact ih5 _ _ _ _
      | exact ih6 _ _ _ _
      | exact ih7 _ _ _ _
      | exact umlautref17_isWord.mono _ _
      | exact umlautref17_op.mono _ _
      | exact umlautref17_text.mono _ _ _
      | exact umlautref1_Parse.mono _ _
      | exact LeO.none _
      | refine LeO.ite ?_ ?_
      | refine LeO.bind ?_ (fun _ => ?_)
    · intro y0 y1 y2
      unfold umlautref17_Tokens.l1
      repeat' first
      | (with_reducible exact ih0 _ _ _)
      | (with_reducible exact ih1 _ _ _ _ _)
      | (with_reducible exact ih2 _ _ _ _ _)
      | (with_reducible exact ih3 _ _ _)
      | (with_reducible exact ih4 _ _ _ _)
      | (with_reducible exact ih5 _ _ _ _)
      | (with_reducible exact ih6 _ _ _ _)
      | (with_reducible exact ih7 _ _ _ _)
      | (with_reducible exact umlautref17_isWord.mono _ _)
      | (with_reducible exact umlautref17_op.mono _ _)
      | (with_reducible exact umlautref17_text.mono _ _ _)
      | (with_reducible exact umlautref1_Parse.mono _ _)
      | (with_reducible exact LeO.refl _)
      | (with_reducible exact LeO.none _)
      | (with_reducible refine LeO.ite ?_ ?_)
      | (with_reducible refine LeO.bind ?_ (fun _ => ?_))
      | exact ih0 _ _ _
      | exact ih1 _ _ _ _ _
      | exact ih2 _ _ _ _ _
      | exact ih3 _ _ _
      | exact ih4 _ _ _ _
      | exact ih5 _ _ _ _
      | exact ih6 _ _ _ _
      | exact ih7 _ _ _ _
      | exact umlautref17_isWord.mono _ _
      | exact umlautref17_op.mono _ _
      | exact umlautref17_text.mono _ _ _
      | exact umlautref1_Parse.mono _ _
      | exact LeO.none _
      | refine LeO.ite ?_ ?_
      | refine LeO.bind ?_ (fun _ => ?_)
    · intro y0 y1 y2 y3
      unfold umlautref17_Tokens.j5
      repeat' first
      | (with_reducible exact ih0 _ _ _)
      | (with_reducible exact ih1 _ _ _ _ _)
      | (with_reducible exact ih2 _ _ _ _ _)
      | (with_reducible exact ih3 _ _ _)
      | (with_reducible exact ih4 _ _ _ _)
      | (with_reducible exact ih5 _ _ _ _)
      | (with_reducible exact ih6 _ _ _ _)
      | (with_reducible exact ih7 _ _ _ _)
      | (with_reducible exact umlautref17_isWord.mono _ _)
      | (with_reducible exact umlautref17_op.mono _ _)
      | (with_reducible exact umlautref17_text.mono _ _ _)
      | (with_reducible exact umlautref1_Parse.mono _ _)
      | (with_reducible exact LeO.refl _)
      | (with_reducible exact LeO.none _)
      | (with_reducible refine LeO.ite ?_ ?_)
      | (with_reducible refine LeO.bind ?_ (fun _ => ?_))
      | exact ih0 _ _ _
      | exact ih1 _ _ _ _ _
      | exact ih2 _ _ _ _ _
      | exact ih3 _ _ _
      | exact ih4 _ _ _ _
      | exact ih5 _ _ _ _
      | exact ih6 _ _ _ _
      | exact ih7 _ _ _ _
      | exact umlautref17_isWord.mono _ _
      | exact umlautref17_op.mono _ _
      | exact umlautref17_text.mono _ _ _
      | exact umlautref1_Parse.mono _ _
      | exact LeO.none _
      | refine LeO.ite ?_ ?_
      | refine LeO.bind ?_ (fun _ => ?_)
    · intro y0 y1 y2 y3
      unfold umlautref17_Tokens.l2
      repeat' first
      | (with_reducible exact ih0 _ _ _)
      | (with_reducible exact ih1 _ _ _ _ _)
      | (with_reducible exact ih2 _ _ _ _ _)
      | (with_reducible exact ih3 _ _ _)
      | (with_reducible exact ih4 _ _ _ _)
      | (with_reducible exact ih5 _ _ _ _)
      | (with_reducible exact ih6 _ _ _ _)
      | (with_reducible exact ih7 _ _ _ _)
      | (with_reducible exact umlautref17_isWord.mono _ _)
      | (with_reducible exact umlautref17_op.mono _ _)
      | (with_reducible exact umlautref17_text.mono _ _ _)
      | (with_reducible exact umlautref1_Parse.mono _ _)
      | (with_reducible exact LeO.refl _)
      | (with_reducible exact LeO.none _)
      | (with_reducible refine LeO.ite ?_ ?_)
      | (with_reducible refine LeO.bind ?_ (fun _ => ?_))
      | exact ih0 _ _ _
      | exact ih1 _ _ _ _ _
      | exact ih2 _ _ _ _ _
      | exact ih3 _ _ _
      | exact ih4 _ _ _ _
      | exact ih5 _ _ _ _
      | exact ih6 _ _ _ _
      | exact ih7 _ _ _ _
      | exact umlautref17_isWord.mono _ _
      | exact umlautref17_op.mono _ _
      | exact umlautref17_text.mono _ _ _
      | exact umlautref1_Parse.mono _ _
      | exact LeO.none _
      | refine LeO.ite ?_ ?_
      | refine LeO.bind ?_ (fun _ => ?_)
    · intro y0 y1 y2 y3
      unfold umlautref17_Tokens.j7
      repeat' first
      | (with_reducible exact ih0 _ _ _)
      | (with_reducible exact ih1 _ _ _ _ _)
      | (with_reducible exact ih2 _ _ _ _ _)
      | (with_reducible exact ih3 _ _ _)
      | (with_reducible exact ih4 _ _ _ _)
      | (with_reducible exact ih5 _ _ _ _)
      | (with_reducible exact ih6 _ _ _ _)
      | (with_reducible exact ih7 _ _ _ _)
      | (with_reducible exact umlautref17_isWord.mono _ _)
      | (with_reducible exact umlautref17_op.mono _ _)
      | (with_reducible exact umlautref17_text.mono _ _ _)
      | (with_reducible exact umlautref1_Parse.mono _ _)
      | (with_reducible exact LeO.refl _)
      | (with_reducible exact LeO.none _)
      | (with_reducible refine LeO.ite ?_ ?_)
      | (with_reducible refine LeO.bind ?_ (fun _ => ?_))
      | exact ih0 _ _ _
      | exact ih1 _ _ _ _ _
      | exact ih2 _ _ _ _ _
      | exact ih3 _ _ _
      | exact ih4 _ _ _ _
      | exact ih5 _ _ _ _
      | exact ih6 _ _ _ _
      | exact ih7 _ _ _ _
      | exact umlautref17_isWord.mono _ _
      | exact umlautref17_op.mono _ _
      | exact umlautref17_text.mono _ _ _
      | exact umlautref1_Parse.mono _ _
      | exact LeO.none _
      | refine LeO.ite ?_ ?_
      | refine LeO.bind ?_ (fun _ => ?_)
    · intro y0 y1 y2 y3
      unfold umlautref17_Tokens.l3
      repeat' first
      | (with_reducible exact ih0 _ _ _)
      | (with_reducible exact ih1 _ _ _ _ _)
      | (with_reducible exact ih2 _ _ _ _ _)
      | (with_reducible exact ih3 _ _ _)
      | (with_reducible exact ih4 _ _ _ _)
      | (with_reducible exact ih5 _ _ _ _)
      | (with_reducible exact ih6 _ _ _ _)
      | (with_reducible exact ih7 _ _ _ _)
      | (with_reducible exact umlautref17_isWord.mono _ _)
      | (with_reducible exact umlautref17_op.mono _ _)
      | (with_reducible exact umlautref17_text.mono _ _ _)
      | (with_reducible exact umlautref1_Parse.mono _ _)
      | (with_reducible exact LeO.refl _)
      | (with_reducible exact LeO.none _)
      | (with_reducible refine LeO.ite ?_ ?_)
      | (with_reducible refine LeO.bind ?_ (fun _ => ?_))
      | exact ih0 _ _ _
      | exact ih1 _ _ _ _ _
      | exact ih2 _ _ _ _ _
      | exact ih3 _ _ _
      | exact ih4 _ _ _ _
      | exact ih5 _ _ _ _
      | exact ih6 _ _ _ _
      | exact ih7 _ _ _ _
      | exact umlautref17_isWord.mono _ _
      | exact umlautref17_op.mono _ _
      | exact umlautref17_text.mono _ _ _
      | exact umlautref1_Parse.mono _ _
      | exact LeO.none _
      | refine LeO.ite ?_ ?_
      | refine LeO.bind ?_ (fun _ => ?_)
theorem umlautref17_Tokens.mono : ∀ a0 k, LeO (umlautref17_Tokens.f k a0) (umlautref17_Tokens.f (k + 1) a0) := by
  intro a0 k
  obtain ⟨ih0, ih1, ih2, ih3, ih4, ih5, ih6, ih7⟩ := umlautref17_Tokens.mono_l k
  unfold umlautref17_Tokens.f
  repeat' first
      | (with_reducible exact ih0 _ _ _)
      | (with_reducible exact ih1 _ _ _ _ _)
      | (with_reducible exact ih2 _ _ _ _ _)
      | (with_reducible exact ih3 _ _ _)
      | (with_reducible exact ih4 _ _ _ _)
      | (with_reducible exact ih5 _ _ _ _)
      | (with_reducible exact ih6 _ _ _ _)
      | (with_reducible exact ih7 _ _ _ _)
      | (with_reducible exact umlautref17_isWord.mono _ _)
      | (with_reducible exact umlautref17_op.mono _ _)
      | (with_reducible exact umlautref17_text.mono _ _ _)
      | (with_reducible exact umlautref1_Parse.mono _ _)
      | (with_reducible exact LeO.refl _)
      | (with_reducible exact LeO.none _)
      | (with_reducible refine LeO.ite ?_ ?_)
      | (with_reducible refine LeO.bind ?_ (fun _ => ?_))
      | exact ih0 _ _ _
      | exact ih1 _ _ _ _ _
      | exact ih2 _ _ _ _ _
      | exact ih3 _ _ _
      | exact ih4 _ _ _ _
      | exact ih5 _ _ _ _
      | exact ih6 _ _ _ _
      | exact ih7 _ _ _ _
      | exact umlautref17_isWord.mono _ _
      | exact umlautref17_op.mono _ _
      | exact umlautref17_text.mono _ _ _
      | exact umlautref1_Parse.mono _ _
      | exact LeO.none _
      | refine LeO.ite ?_ ?_
      | refine LeO.bind ?_ (fun _ => ?_)
end Go.Proofs.YtobhcpfdgfkeiaaDoor.Lx

namespace Go.Proofs.YtobhcpfdgfkeiaaDoor.Lp
open Go.RowKit Go.Proofs.YtobhcpfdgfkeiaaDoorW.PrintWords Go.Proofs.YtobhcpfdgfkeiaaDoor.Ext Go.Proofs.YtobhcpfdgfkeiaaDoor.Lx Go.Proofs.YtobhcpfdgfkeiaaDoor.Lf
set_option linter.unusedVariables false

def mk37 (a : Int) (b : ByteArray) (c d : Int) : S37 := ⟨a, b, c, d⟩
def mk28 (a : Int) (b : ByteArray) (c d : Int) : S28 := ⟨a, b, c, d⟩
/-- what is told from a place on, blanks ahead of it skipped -/
def fromAt {T : Type} (mk : Int → ByteArray → Int → Int → T) (acc : List T) (i : Nat) (l : Bytes) : List T × Int × Int := lexF mk (l.length + 1) acc (i + skipL l) (l.drop (skipL l))
theorem fromAt_nil {T : Type} (mk : Int → ByteArray → Int → Int → T) (acc : List T) (i : Nat) : fromAt mk acc i [] = (acc, 0, 0) := rfl
theorem fromAt_blank {T : Type} (mk : Int → ByteArray → Int → Int → T) (acc : List T) (i : Nat) {c : UInt8} {l : Bytes} (h : isBlank c = true) : fromAt mk acc i (c :: l) = fromAt mk acc (i + 1) l := by
  unfold fromAt
  rw [skipL_blank h, List.drop_succ_cons, show i + (skipL l + 1) = i + 1 + skipL l by omega]
  exact lexF_more mk _ _ _ _ _ (by rw [List.length_drop, List.length_cons]; omega) (by rw [List.length_drop]; omega)
theorem fromAt_rem {T : Type} (mk : Int → ByteArray → Int → Int → T) (acc : List T) (i : Nat) {c : UInt8} {l : Bytes} (hb : isBlank c = false) (h : isRem (c :: l) = true) : fromAt mk acc i (c :: l) = fromAt mk acc (i + spanOf notLf (c :: l)) ((c :: l).drop (spanOf notLf (c :: l))) := by
  unfold fromAt
  rw [skipL_rem hb h, ← List.drop_drop, ← Nat.add_assoc]
  exact lexF_more mk _ _ _ _ _ (by rw [List.length_drop, List.length_drop]; omega) (by rw [List.length_drop]; omega)
theorem fromAt_tok {T : Type} (mk : Int → ByteArray → Int → Int → T) (acc : List T) (i : Nat) {c : UInt8} {l : Bytes} (hb : isBlank c = false) (h : isRem (c :: l) = false) : fromAt mk acc i (c :: l) = match tokL (c :: l) with | none => ([], (i : Int), 10) | some t => fromAt mk (acc ++ [mk t.kind t.text t.num i]) (i + t.len) ((c :: l).drop t.len) := by
  unfold fromAt
  rw [skipL_none hb h, List.drop_zero, Nat.add_zero, lexF]
  cases ht : tokL (c :: l) with
  | none => rfl
  | some t =>
    have := tokL_len ht
    simp only [List.length_cons] at this ⊢
    exact lexF_more mk _ _ _ _ _ (by rw [List.length_drop, List.length_drop, List.length_cons]; omega) (by rw [List.length_drop]; omega)
theorem lexL_from {T : Type} (mk : Int → ByteArray → Int → Int → T) (l : Bytes) : lexL mk l = if 4000 < l.length then ([], 0, 2) else fromAt mk [] 0 l := by
  unfold lexL fromAt; rw [Nat.zero_add]

theorem rem_run (s : ByteArray) (hs : s.size ≤ 4000) (acc : List S37) : ∀ (n k i : Nat), spanOf notLf (s.data.toList.drop i) = n → i ≤ s.size → umlautref17_Tokens.l1 (k + n + 1) s acc (i : Int) = umlautref17_Tokens.l0 k s acc ((i + n : Nat) : Int) := by
  intro n
  induction n with
  | zero =>
    intro k i hn hi
    simp only [umlautref17_Tokens.l1, Nat.add_zero]
    by_cases hlt : i < s.size
    · rw [if_pos (by omega), if_pos (by omega), bt_nat hlt]
      rw [drop_at hlt] at hn
      have hp : notLf s[i] = false := by
        cases h : notLf s[i] with
        | false => rfl
        | true => rw [spanOf_cons_yes h] at hn; omega
      have hc : s[i].toNat = 10 := by unfold notLf at hp; simpa using hp
      rw [if_pos (by omega)]
    · rw [if_neg (by omega)]
  | succ n ih =>
    intro k i hn hi
    have hlt : i < s.size := by
      rcases Nat.lt_or_ge i s.size with h | h
      · exact h
      · rw [drop_end h] at hn; simp [spanOf] at hn
    rw [drop_at hlt] at hn
    have hp : notLf s[i] = true := by
      cases h : notLf s[i] with
      | true => rfl
      | false => rw [spanOf_cons_no h] at hn; omega
    have hc : ¬ s[i].toNat = 10 := by unfold notLf at hp; simpa using hp
    rw [spanOf_cons_yes hp] at hn
    rw [show k + (n + 1) + 1 = (k + n + 1) + 1 by omega]
    have := ih k (i + 1) (by omega) (by omega)
    generalize k + n + 1 = m at this ⊢
    simp only [umlautref17_Tokens.l1]
    rw [if_pos (by omega), if_pos (by omega), bt_nat hlt, if_neg (by omega), wrap_add1 _ (by omega)]
    rw [this, show i + 1 + n = i + (n + 1) by omega]
theorem dig_run (s : ByteArray) (hs : s.size ≤ 4000) (acc : List S37) (i0 : Int) : ∀ (n k i : Nat), spanOf isDig (s.data.toList.drop i) = n → i ≤ s.size → umlautref17_Tokens.l2 (k + n + 1) s acc i0 (i : Int) = umlautref17_Tokens.j5 k s acc i0 ((i + n : Nat) : Int) := by
  intro n
  induction n with
  | zero =>
    intro k i hn hi
    simp only [umlautref17_Tokens.l2, Nat.add_zero]
    by_cases hlt : i < s.size
    · rw [if_pos (by omega), if_pos (by omega), bt_nat hlt, rdigit_eq]
      rw [drop_at hlt] at hn
      have hp : isDig s[i] = false := by
        cases h : isDig s[i] with
        | false => rfl
        | true => rw [spanOf_cons_yes h] at hn; omega
      simp only [Option.bind_some]
      rw [hp, if_neg (by decide)]
    · rw [if_neg (by omega)]
  | succ n ih =>
    intro k i hn hi
    have hlt : i < s.size := by
      rcases Nat.lt_or_ge i s.size with h | h
      · exact h
      · rw [drop_end h] at hn; simp [spanOf] at hn
    rw [drop_at hlt] at hn
    have hp : isDig s[i] = true := by
      cases h : isDig s[i] with
      | true => rfl
      | false => rw [spanOf_cons_no h] at hn; omega
    rw [spanOf_cons_yes hp] at hn
    rw [show k + (n + 1) + 1 = (k + n + 1) + 1 by omega]
    have := ih k (i + 1) (by omega) (by omega)
    generalize k + n + 1 = m at this ⊢
    simp only [umlautref17_Tokens.l2]
    rw [if_pos (by omega), if_pos (by omega), bt_nat hlt, rdigit_eq]
    simp only [Option.bind_some]
    rw [hp, if_pos rfl, wrap_add1 _ (by omega), this, show i + 1 + n = i + (n + 1) by omega]
theorem nam_run (s : ByteArray) (hs : s.size ≤ 4000) (acc : List S37) (i0 : Int) : ∀ (n k i : Nat), spanOf isNam (s.data.toList.drop i) = n → i ≤ s.size → umlautref17_Tokens.l3 (k + n + 1) s acc i0 (i : Int) = umlautref17_Tokens.j7 k s acc i0 ((i + n : Nat) : Int) := by
  intro n
  induction n with
  | zero =>
    intro k i hn hi
    simp only [umlautref17_Tokens.l3, Nat.add_zero]
    by_cases hlt : i < s.size
    · rw [if_pos (by omega), if_pos (by omega), bt_nat hlt, rletter_eq]
      rw [drop_at hlt] at hn
      have hp : isNam s[i] = false := by
        cases h : isNam s[i] with
        | false => rfl
        | true => rw [spanOf_cons_yes h] at hn; omega
      simp only [Option.bind_some]
      rw [hp, if_neg (by decide)]
    · rw [if_neg (by omega)]
  | succ n ih =>
    intro k i hn hi
    have hlt : i < s.size := by
      rcases Nat.lt_or_ge i s.size with h | h
      · exact h
      · rw [drop_end h] at hn; simp [spanOf] at hn
    rw [drop_at hlt] at hn
    have hp : isNam s[i] = true := by
      cases h : isNam s[i] with
      | true => rfl
      | false => rw [spanOf_cons_no h] at hn; omega
    rw [spanOf_cons_yes hp] at hn
    rw [show k + (n + 1) + 1 = (k + n + 1) + 1 by omega]
    have := ih k (i + 1) (by omega) (by omega)
    generalize k + n + 1 = m at this ⊢
    simp only [umlautref17_Tokens.l3]
    rw [if_pos (by omega), if_pos (by omega), bt_nat hlt, rletter_eq]
    simp only [Option.bind_some]
    rw [hp, if_pos rfl, wrap_add1 _ (by omega), this, show i + 1 + n = i + (n + 1) by omega]
end Go.Proofs.YtobhcpfdgfkeiaaDoor.Lp

namespace Go.Proofs.YtobhcpfdgfkeiaaDoor.Lp
open Go.RowKit Go.Proofs.YtobhcpfdgfkeiaaDoorW.PrintWords Go.Proofs.YtobhcpfdgfkeiaaDoor.Ext Go.Proofs.YtobhcpfdgfkeiaaDoor.Lx Go.Proofs.YtobhcpfdgfkeiaaDoor.Lf
set_option linter.unusedVariables false

theorem span_next (p : UInt8 → Bool) : ∀ (l : Bytes) (c : UInt8) (r : Bytes), l.drop (spanOf p l) = c :: r → p c = false
  | [], c, r, h => by simp at h
  | a :: l, c, r, h => by
    cases hp : p a with
    | true => rw [spanOf_cons_yes hp, List.drop_succ_cons] at h; exact span_next p l c r h
    | false =>
      rw [spanOf_cons_no hp, List.drop_zero] at h
      rw [← (List.cons.inj h).1]; exact hp
theorem let_not_dig {c : UInt8} (h : isDig c = true) : isLet c = false := by
  unfold isDig at h; unfold isLet
  simp only [Bool.and_eq_true, decide_eq_true_eq] at h
  simp only [Bool.or_eq_false_iff, Bool.and_eq_false_iff, decide_eq_false_iff_not]
  omega
theorem ext_run (s : ByteArray) (i n : Nat) : (s.extract i (i + n)).data.toList = (s.data.toList.drop i).take n := by
  rw [Lib.extract_data, show i + n - i = n by omega]
theorem bytes_run (s : ByteArray) (i n : Nat) : s.extract i (i + n) = ⟨((s.data.toList.drop i).take n).toArray⟩ := by
  apply WideShapes.bytes_inj; rw [ext_run]

theorem fin_num (s : ByteArray) (hs : s.size ≤ 4000) (acc : List S37) (k i n : Nat) (hi : i < s.size) (hn : spanOf isDig (s.data.toList.drop i) = n) (h1 : 1 ≤ n) (hk : 2 * s.size + 6 < k) (ha : acc.length < 3518437208883) :
    umlautref17_Tokens.j5 (k + 1) s acc (i : Int) ((i + n : Nat) : Int) = match numOf (s.data.toList.drop i) with | none => some ([], (i : Int), 10) | some x => umlautref17_Tokens.l0 k s (acc ++ [mk37 3 ⟨#[]⟩ x.1 i]) ((i + x.2 : Nat) : Int) := by
  have hle := spanOf_le isDig (s.data.toList.drop i)
  have hls := len_size s
  rw [List.length_drop, hls, hn] at hle
  have hx := ext_run s i n
  have hdg : ∀ c, c ∈ (s.data.toList.drop i).take n → isDig c = true := by
    intro c hc
    rw [← hn, take_span] at hc
    exact mem_takeWhile hc
  have hne : (s.data.toList.drop i).take n ≠ [] := by
    intro e
    have := congrArg List.length e
    rw [List.length_take, List.length_drop, hls, List.length_nil] at this
    omega
  simp only [umlautref17_Tokens.j5]
  rw [if_pos (by omega), if_pos (by omega), if_pos (by omega), Int.toNat_natCast, Int.toNat_natCast]
  rw [rparse_eq (s.extract i (i + n)) (by rw [ByteArray.size_extract]; omega) (by rw [ByteArray.size_extract]; omega) k (by rw [ByteArray.size_extract]; omega) (by rw [hx]; exact hdg)]
  simp only [Option.bind_some]
  rw [hx]
  unfold numOf
  rw [hn, parse_dig _ hne hdg]
  by_cases hm : valOf 0 ((s.data.toList.drop i).take n) ≤ 9223372036854775807
  · rw [if_pos hm, if_pos hm]
    simp only [if_true]
    by_cases hlt : i + n < s.size
    · have hh : ((s.data.toList.drop i).drop n).head? = some s[i + n] := by rw [List.drop_drop]; exact head_at hlt
      have hnd : isDig s[i + n] = false := span_next isDig (s.data.toList.drop i) s[i + n] (s.data.toList.drop (i + n + 1)) (by rw [hn, List.drop_drop]; exact drop_at hlt)
      rw [if_pos (by omega), if_pos (by omega), bt_nat hlt, rletter_eq]
      simp only [Option.bind_some]
      rw [hh]
      simp only [Option.map_some, Option.getD_some]
      rw [show isNam s[i + n] = isLet s[i + n] from by unfold isNam; rw [hnd, Bool.or_false]]
      by_cases hl : isLet s[i + n] = true
      · rw [if_pos hl, if_pos hl]
      · rw [if_neg hl, if_neg hl, if_pos ha]; rfl
    · have hh : ((s.data.toList.drop i).drop n).head? = none := by rw [List.drop_drop]; exact head_end (by omega)
      rw [if_neg (by omega), if_pos ha, hh]
      rfl
  · rw [if_neg hm, if_neg hm]
    simp only
    rw [if_neg (by decide)]

theorem fin_nam (s : ByteArray) (hs : s.size ≤ 4000) (acc : List S37) (k i n : Nat) (hi : i < s.size) (hn : spanOf isNam (s.data.toList.drop i) = n) (hk : 60 ≤ k) (ha : acc.length < 3518437208883) :
    umlautref17_Tokens.j7 (k + 1) s acc (i : Int) ((i + n : Nat) : Int) = if 16 < n then some ([], (i : Int), 10) else if isWord (Lib.toUpperA ((s.data.toList.drop i).take n)) = true then umlautref17_Tokens.l0 k s (acc ++ [mk37 2 ⟨(Lib.toUpperA ((s.data.toList.drop i).take n)).toArray⟩ 0 i]) ((i + n : Nat) : Int)
      else umlautref17_Tokens.l0 k s (acc ++ [mk37 1 ⟨(Lib.toLowerA ((s.data.toList.drop i).take n)).toArray⟩ 0 i]) ((i + n : Nat) : Int) := by
  have hle := spanOf_le isNam (s.data.toList.drop i)
  have hls := len_size s
  rw [List.length_drop, hls, hn] at hle
  have hx := ext_run s i n
  simp only [umlautref17_Tokens.j7]
  rw [show wrap64 (((i + n : Nat) : Int) - (i : Int)) = (n : Int) from by unfold wrap64; omega]
  by_cases hb : 16 < n
  · rw [if_pos (by omega), if_pos hb]
  · rw [if_neg (by omega), if_neg hb, if_pos (by omega), if_pos (by omega), if_pos (by omega), Int.toNat_natCast, Int.toNat_natCast]
    unfold umlautref17_upper.f umlautref17_lower.f
    rw [if_pos (by rw [ByteArray.size_extract]; omega), if_pos (by rw [ByteArray.size_extract]; omega), hx]
    simp only [Option.bind_some]
    rw [rword_eq _ k hk]
    simp only [Option.bind_some]
    by_cases hw : isWord (Lib.toUpperA ((s.data.toList.drop i).take n)) = true
    · rw [if_pos hw, if_pos hw, if_pos ha]; rfl
    · rw [if_neg hw, if_neg hw, if_pos ha]; rfl

theorem step_l0 (s : ByteArray) (acc : List S37) (k i : Nat) (hlt : i < s.size) : umlautref17_Tokens.l0 (k + 1) s acc (i : Int) = umlautref17_Tokens.j1 k s acc (i : Int) (s[i].toNat : Int) (isBlank s[i]) := by
  simp only [umlautref17_Tokens.l0]
  rw [if_pos (by omega), if_pos (by omega), bt_nat hlt]
  have hbl : isBlank s[i] = (decide (s[i].toNat = 32) || decide (s[i].toNat = 9) || decide (s[i].toNat = 10) || decide (s[i].toNat = 13)) := by
    unfold isBlank
    rw [Bool.eq_iff_iff, List.contains_iff_mem]
    simp only [List.mem_cons, List.not_mem_nil, or_false, Bool.or_eq_true, decide_eq_true_eq, ← UInt8.toNat_inj]
    constructor
    · rintro (h | h | h | h) <;> simp [h]
    · rintro (((h | h) | h) | h) <;> simp [h]
  by_cases h1 : s[i].toNat = 32
  · rw [if_pos (by omega), hbl, h1]; rfl
  · rw [if_neg (by omega)]
    by_cases h2 : s[i].toNat = 9
    · rw [if_pos (by omega), hbl, h2]; rfl
    · rw [if_neg (by omega)]
      by_cases h3 : s[i].toNat = 10
      · rw [if_pos (by omega), hbl, h3]; rfl
      · rw [if_neg (by omega), hbl, decide_eq_false h1, decide_eq_false h2, decide_eq_false h3]
        congr 1
        rw [Bool.eq_iff_iff, beq_iff_eq]
        simp only [Bool.false_or, decide_eq_true_eq]
        omega
theorem step_j1 (s : ByteArray) (hs : s.size ≤ 4000) (acc : List S37) (k i : Nat) (hlt : i < s.size) : umlautref17_Tokens.j1 (k + 1) s acc (i : Int) (s[i].toNat : Int) false = umlautref17_Tokens.j2 k s acc (i : Int) (s[i].toNat : Int) (isRem (s.data.toList.drop i)) := by
  simp only [umlautref17_Tokens.j1]
  rw [if_neg (by decide), wrap_add1 _ (by omega), drop_at hlt]
  by_cases h1 : s[i].toNat = 45
  · have e1 : s[i] = 45 := UInt8.toNat_inj.mp h1
    rw [if_pos (by omega)]
    by_cases h2 : i + 1 < s.size
    · rw [if_pos (by omega), if_pos (by omega), bt_nat h2, drop_at h2]
      congr 1
      simp only [isRem]
      rw [e1, Bool.eq_iff_iff]
      simp only [beq_self_eq_true, Bool.true_and, beq_iff_eq, ← UInt8.toNat_inj]
      constructor
      · intro h; show _ = 45; omega
      · intro h; have : s[i + 1].toNat = 45 := h; omega
    · rw [if_neg (by omega), drop_end (by omega)]; rfl
  · rw [if_neg (by omega)]
    congr 1
    cases hd : s.data.toList.drop (i + 1) with
    | nil => rfl
    | cons b r =>
      simp only [isRem]
      rw [show (s[i] == (45 : UInt8)) = false from beq_eq_false_iff_ne.mpr (fun e => h1 (by rw [e]; rfl)), Bool.false_and]

theorem ref_main (s : ByteArray) (hs : s.size ≤ 4000) : ∀ (d k i : Nat) (acc : List S37), i ≤ s.size → s.size - i ≤ d → 8 * d + 9000 < k → acc.length ≤ i → umlautref17_Tokens.l0 k s acc (i : Int) = some (fromAt mk37 acc i (s.data.toList.drop i)) := by
  intro d
  induction d using Nat.strongRecOn with
  | _ d ih =>
  intro k i acc hi hd hk ha
  by_cases hlt : i < s.size
  · obtain ⟨k, rfl⟩ : ∃ m, k = m + 3 := ⟨k - 3, by omega⟩
    have hd1 := drop_at hlt
    have hls := len_size s
    rw [show k + 3 = (k + 2) + 1 by omega, step_l0 s acc (k + 2) i hlt]
    cases hb : isBlank s[i] with
    | true =>
      rw [show k + 2 = (k + 1) + 1 by omega]
      simp only [umlautref17_Tokens.j1]
      rw [if_pos True.intro, wrap_add1 _ (by omega), ih (d - 1) (by omega) (k + 1) (i + 1) acc (by omega) (by omega) (by omega) (by omega), hd1, fromAt_blank _ _ _ hb]
    | false =>
      rw [show k + 2 = (k + 1) + 1 by omega, step_j1 s hs acc (k + 1) i hlt]
      simp only [umlautref17_Tokens.j2]
      cases hr : isRem (s.data.toList.drop i) with
      | true =>
        rw [if_pos rfl]
        have hle := spanOf_le notLf (s.data.toList.drop i)
        rw [List.length_drop, hls] at hle
        have h1 : 1 ≤ spanOf notLf (s.data.toList.drop i) := by rw [hd1] at hr ⊢; exact spanOf_pos (isRem_notLf hr)
        obtain ⟨m, rfl⟩ : ∃ m, k = m + spanOf notLf (s.data.toList.drop i) + 1 := ⟨k - (spanOf notLf (s.data.toList.drop i) + 1), by omega⟩
        rw [rem_run s hs acc _ m i rfl hi]
        rw [ih (d - spanOf notLf (s.data.toList.drop i)) (by omega) m (i + spanOf notLf (s.data.toList.drop i)) acc (by omega) (by omega) (by omega) (by omega)]
        rw [← List.drop_drop]
        congr 1
        have h := fromAt_rem mk37 acc i hb (l := s.data.toList.drop (i + 1)) (by rw [← hd1]; exact hr)
        rw [← hd1] at h
        exact h.symm
      | false =>
        rw [if_neg (by decide), rdigit_eq]
        simp only [Option.bind_some]
        have hf := fromAt_tok mk37 acc i hb (l := s.data.toList.drop (i + 1)) (by rw [← hd1]; exact hr)
        have ht := tokL_cons s[i] (s.data.toList.drop (i + 1))
        rw [← hd1] at hf ht
        rw [hf]
        have go : ∀ (t : Tk) (m : Nat), tokL (s.data.toList.drop i) = some t → 8 * (d - t.len) + 9000 < m → umlautref17_Tokens.l0 m s (acc ++ [mk37 t.kind t.text t.num i]) ((i + t.len : Nat) : Int) = some (fromAt mk37 (acc ++ [mk37 t.kind t.text t.num i]) (i + t.len) ((s.data.toList.drop i).drop t.len)) := by
          intro t m h hm
          have hl := tokL_len h
          rw [List.length_drop, hls] at hl
          rw [ih (d - t.len) (by omega) m (i + t.len) _ (by omega) (by omega) hm (by rw [List.length_append]; show acc.length + 1 ≤ _; omega), List.drop_drop]
        by_cases hg : isDig s[i] = true
        · rw [if_pos hg]
          rw [let_not_dig hg, if_neg (by decide), if_pos hg] at ht
          have hle := spanOf_le isDig (s.data.toList.drop i)
          rw [List.length_drop, hls] at hle
          have h1 : 1 ≤ spanOf isDig (s.data.toList.drop i) := by rw [hd1]; exact spanOf_pos hg
          obtain ⟨m, rfl⟩ : ∃ m, k = m + 1 + spanOf isDig (s.data.toList.drop i) + 1 := ⟨k - (spanOf isDig (s.data.toList.drop i) + 2), by omega⟩
          rw [dig_run s hs acc i _ (m + 1) i rfl hi, fin_num s hs acc m i _ hlt rfl h1 (by omega) (by omega)]
          cases hq : numOf (s.data.toList.drop i) with
          | none => rw [hq] at ht; rw [ht]; rfl
          | some x =>
            rw [hq] at ht
            simp only [Option.map_some] at ht
            rw [ht]
            have hnl := numOf_len hq
            exact go _ m ht (by show 8 * (d - x.2) + 9000 < m; omega)
        · rw [if_neg hg, rletter_eq]
          simp only [Option.bind_some]
          have hg' : isDig s[i] = false := by simpa using hg
          rw [show isNam s[i] = isLet s[i] from by unfold isNam; rw [hg', Bool.or_false]]
          by_cases hl : isLet s[i] = true
          · rw [if_pos hl]
            rw [if_pos hl] at ht
            have hle := spanOf_le isNam (s.data.toList.drop i)
            rw [List.length_drop, hls] at hle
            have h1 : 1 ≤ spanOf isNam (s.data.toList.drop i) := by rw [hd1]; exact spanOf_pos (isNam_of_let hl)
            obtain ⟨m, rfl⟩ : ∃ m, k = m + 1 + spanOf isNam (s.data.toList.drop i) + 1 := ⟨k - (spanOf isNam (s.data.toList.drop i) + 2), by omega⟩
            rw [nam_run s hs acc i _ (m + 1) i rfl hi, fin_nam s hs acc m i _ hlt rfl (by omega) (by omega)]
            by_cases h16 : 16 < spanOf isNam (s.data.toList.drop i)
            · rw [if_pos h16] at ht ⊢; rw [ht]
            · rw [if_neg h16] at ht ⊢
              by_cases hw : isWord (Lib.toUpperA ((s.data.toList.drop i).take (spanOf isNam (s.data.toList.drop i)))) = true
              · rw [if_pos hw] at ht ⊢; rw [ht]; exact go _ m ht (by show 8 * (d - spanOf isNam (s.data.toList.drop i)) + 9000 < m; omega)
              · rw [if_neg hw] at ht ⊢; rw [ht]; exact go _ m ht (by show 8 * (d - spanOf isNam (s.data.toList.drop i)) + 9000 < m; omega)
          · rw [if_neg hl]
            rw [if_neg hl, if_neg hg] at ht
            by_cases hc : s[i].toNat = 39
            · rw [if_pos (by omega), rtext_eq s (by omega) k i hlt (by omega)]
              rw [if_pos hc] at ht
              simp only [Option.bind_some]
              unfold rtextAns
              cases hq : textOf (s.data.toList.drop (i + 1)) with
              | none => rw [hq] at ht; rw [ht]; rfl
              | some x =>
                rw [hq] at ht
                simp only [Option.map_some] at ht
                rw [ht]
                simp only [if_true]
                rw [if_pos (by omega)]
                have := go _ k ht (by show 8 * (d - (x.2 + 1)) + 9000 < k; omega)
                rw [show i + (x.2 + 1) = i + 1 + x.2 by omega] at this
                rw [show (⟨#[]⟩ : ByteArray) ++ ⟨x.1.toArray⟩ = ⟨x.1.toArray⟩ from by apply WideShapes.bytes_inj; rw [ByteArray.data_append]; simp]
                rw [show i + (x.2 + 1) = i + 1 + x.2 by omega]
                exact this
            · rw [if_neg (by omega), if_pos (by omega), if_pos (by omega), Int.toNat_natCast, rop_eq _ k (by omega) (by rw [ByteArray.size_extract]; omega), ext_drop]
              rw [if_neg hc] at ht
              simp only [Option.bind_some]
              have hol := opLen_le (s.data.toList.drop i)
              rw [List.length_drop, hls] at hol
              by_cases h0 : opLen (s.data.toList.drop i) = 0
              · rw [if_pos h0] at ht
                rw [ht, h0, if_pos (by rw [Lib.toList_data]; rfl)]
              · rw [if_neg h0] at ht
                have hsz : (⟨((s.data.toList.drop i).take (opLen (s.data.toList.drop i))).toArray⟩ : ByteArray).size = opLen (s.data.toList.drop i) := by
                  show ((s.data.toList.drop i).take (opLen (s.data.toList.drop i))).toArray.size = _
                  rw [List.size_toArray, List.length_take, List.length_drop, hls]; omega
                rw [if_neg (by
                  rw [Lib.toList_data]
                  intro e
                  have := congrArg List.length e
                  rw [len_size, hsz] at this
                  exact h0 this), if_pos (by omega), hsz, wrap_addn _ _ (by omega), ht]
                exact go _ k ht (by show 8 * (d - opLen (s.data.toList.drop i)) + 9000 < k; omega)
  · obtain ⟨k, rfl⟩ : ∃ m, k = m + 1 := ⟨k - 1, by omega⟩
    simp only [umlautref17_Tokens.l0]
    rw [if_neg (by omega), drop_end (by omega), fromAt_nil]

theorem ref_tokens (s : ByteArray) (k : Nat) (hk : 50000 ≤ k) : umlautref17_Tokens.f k s = some (lexL mk37 s.data.toList) := by
  unfold umlautref17_Tokens.f
  rw [lexL_from, len_size]
  by_cases hs : 4000 < s.size
  · rw [if_pos (by omega), if_pos hs]
  · rw [if_neg (by omega), if_neg hs]
    have := ref_main s (by omega) s.size k 0 [] (by omega) (by omega) (by omega) (Nat.le_refl _)
    rw [List.drop_zero] at this
    exact this
end Go.Proofs.YtobhcpfdgfkeiaaDoor.Lp

namespace Go.Proofs.YtobhcpfdgfkeiaaDoor.Lp
open Go.RowKit Go.Proofs.YtobhcpfdgfkeiaaDoorW.PrintWords Go.Proofs.YtobhcpfdgfkeiaaDoor.Ext Go.Proofs.YtobhcpfdgfkeiaaDoor.Lx Go.Proofs.YtobhcpfdgfkeiaaDoor.Lf
set_option linter.unusedVariables false

theorem lex_main (s : ByteArray) (hs : s.size ≤ 4000) : ∀ (d k n i : Nat) (acc : List S28), i ≤ s.size → s.size - i ≤ d → d + 5000 < k → acc.length ≤ i → s.size - i < n → lex_Tokens.l0 k s acc (i : Int) = some (lexF mk28 n acc i (s.data.toList.drop i)) := by
  intro d
  induction d using Nat.strongRecOn with
  | _ d ih =>
  intro k n i acc hi hd hk ha hn
  obtain ⟨k, rfl⟩ : ∃ m, k = m + 1 := ⟨k - 1, by omega⟩
  obtain ⟨n, rfl⟩ : ∃ m, n = m + 1 := ⟨n - 1, by omega⟩
  have hls := len_size s
  simp only [lex_Tokens.l0]
  by_cases hlt : i < s.size
  · rw [if_pos (by omega), if_pos (by omega), if_pos (by omega), Int.toNat_natCast, token_eq _ (by rw [ByteArray.size_extract]; omega) k (by omega) (by rw [ByteArray.size_extract]; omega), ext_drop]
    simp only [Option.bind_some]
    have hd1 := drop_at hlt
    have hf : lexF mk28 (n + 1) acc i (s.data.toList.drop i) = match tokL (s.data.toList.drop i) with
      | none => ([], (i : Int), 10)
      | some t => lexF mk28 n (acc ++ [mk28 t.kind t.text t.num i]) (i + t.len + skipL ((s.data.toList.drop i).drop t.len)) (((s.data.toList.drop i).drop t.len).drop (skipL ((s.data.toList.drop i).drop t.len))) := by
      rw [hd1]; rfl
    rw [hf]
    unfold tokAns
    cases ht : tokL (s.data.toList.drop i) with
    | none => rfl
    | some t =>
      have hl := tokL_len ht
      rw [List.length_drop, hls] at hl
      simp only
      rw [if_neg (by omega), if_pos (by omega), wrap_addn _ _ (by omega), if_pos (by omega), if_pos (by omega), Int.toNat_natCast, skip_eq _ (by rw [ByteArray.size_extract]; omega) k (by rw [ByteArray.size_extract]; omega), ext_drop]
      simp only [Option.bind_some]
      have hsk := skipL_le (s.data.toList.drop (i + t.len))
      rw [List.length_drop, hls] at hsk
      rw [List.drop_drop, wrap_addn _ _ (by omega)]
      have := ih (d - t.len) (by omega) k n (i + t.len + skipL (s.data.toList.drop (i + t.len))) (acc ++ [mk28 t.kind t.text t.num i]) (by omega) (by omega) (by omega) (by rw [List.length_append]; show acc.length + 1 ≤ _; omega) (by omega)
      rw [List.drop_drop]
      exact this
  · rw [if_neg (by omega), drop_end (by omega)]; rfl
theorem lex_tokens (s : ByteArray) (k : Nat) (hk : 10000 ≤ k) : lex_Tokens.f k s = some (lexL mk28 s.data.toList) := by
  unfold lex_Tokens.f lexL
  rw [len_size]
  by_cases hs : 4000 < s.size
  · rw [if_pos (by omega), if_pos hs]
  · rw [if_neg (by omega), if_neg hs, skip_eq s (by omega) k (by omega)]
    simp only [Option.bind_some]
    have hsk := skipL_le s.data.toList
    rw [len_size] at hsk
    exact lex_main s (by omega) s.size k (s.size + 1) _ [] (by omega) (by omega) (by omega) (Nat.zero_le _) (by omega)
end Go.Proofs.YtobhcpfdgfkeiaaDoor.Lp

namespace Go.Proofs.YtobhcpfdgfkeiaaDoor.Lp
open Go.RowKit Go.Proofs.YtobhcpfdgfkeiaaDoorW.PrintWords Go.Proofs.YtobhcpfdgfkeiaaDoor.Ext Go.Proofs.YtobhcpfdgfkeiaaDoor.Lx Go.Proofs.YtobhcpfdgfkeiaaDoor.Lf
set_option linter.unusedVariables false

abbrev Tup := Int × ByteArray × Int × Int
def mkT (a : Int) (b : ByteArray) (c d : Int) : Tup := (a, b, c, d)
def t28 (q : Tup) : S28 := ⟨q.1, q.2.1, q.2.2.1, q.2.2.2⟩
def t37 (q : Tup) : S37 := ⟨q.1, q.2.1, q.2.2.1, q.2.2.2⟩
theorem lexF_map {T : Type} (mk : Int → ByteArray → Int → Int → T) (f : Tup → T) (hf : ∀ a b c d, mk a b c d = f (mkT a b c d)) : ∀ (n : Nat) (acc : List Tup) (i : Nat) (l : Bytes), lexF mk n (acc.map f) i l = ((lexF mkT n acc i l).1.map f, (lexF mkT n acc i l).2)
  | 0, _, _, _ => rfl
  | n + 1, acc, i, [] => rfl
  | n + 1, acc, i, c :: l => by
    simp only [lexF]
    cases ht : tokL (c :: l) with
    | none => rfl
    | some t =>
      simp only
      rw [← lexF_map mk f hf n, List.map_append, hf]; rfl
theorem lexL_28 (l : Bytes) : lexL mk28 l = ((lexL mkT l).1.map t28, (lexL mkT l).2) := by
  unfold lexL
  split
  · rfl
  · exact lexF_map mk28 t28 (fun _ _ _ _ => rfl) _ [] _ _
theorem lexL_37 (l : Bytes) : lexL mk37 l = ((lexL mkT l).1.map t37, (lexL mkT l).2) := by
  unfold lexL
  split
  · rfl
  · exact lexF_map mk37 t37 (fun _ _ _ _ => rfl) _ [] _ _
theorem lexF_len {T : Type} (mk : Int → ByteArray → Int → Int → T) : ∀ (n : Nat) (acc : List T) (i : Nat) (l : Bytes), (lexF mk n acc i l).1.length ≤ acc.length + l.length
  | 0, _, _, _ => Nat.zero_le _
  | n + 1, acc, i, [] => Nat.le_add_right _ _
  | n + 1, acc, i, c :: l => by
    simp only [lexF]
    cases ht : tokL (c :: l) with
    | none => exact Nat.zero_le _
    | some t =>
      have := tokL_len ht
      have h := lexF_len mk n (acc ++ [mk t.kind t.text t.num i]) (i + t.len + skipL ((c :: l).drop t.len)) (((c :: l).drop t.len).drop (skipL ((c :: l).drop t.len)))
      rw [List.length_append, List.length_drop, List.length_drop] at h
      simp only [List.length_cons, List.length_nil] at h this ⊢
      omega
theorem lexL_len {T : Type} (mk : Int → ByteArray → Int → Int → T) (l : Bytes) : (lexL mk l).1.length ≤ 4000 := by
  unfold lexL
  split
  · exact Nat.zero_le _
  · have h := lexF_len mk (l.length + 1) [] (skipL l) (l.drop (skipL l))
    rw [List.length_drop, List.length_nil] at h
    omega
theorem rd28 (L : List Tup) (j : Nat) (h : j < L.length) : rd_T28 (L.map t28) (j : Int) = t28 L[j] := by
  unfold rd_T28
  rw [Int.toNat_natCast, List.getD_eq_getElem?_getD, List.getElem?_eq_getElem (by rw [List.length_map]; exact h), List.getElem_map]; rfl
theorem rd37 (L : List Tup) (j : Nat) (h : j < L.length) : rd_T37 (L.map t37) (j : Int) = t37 L[j] := by
  unfold rd_T37
  rw [Int.toNat_natCast, List.getD_eq_getElem?_getD, List.getElem?_eq_getElem (by rw [List.length_map]; exact h), List.getElem_map]; rfl

theorem lex_tok (s : ByteArray) (k : Nat) (hk : 10000 ≤ k) : lex_Tokens.f k s = some ((lexL mkT s.data.toList).1.map t28, (lexL mkT s.data.toList).2) := by
  rw [lex_tokens s k hk, lexL_28]
theorem ref_tok (s : ByteArray) (k : Nat) (hk : 50000 ≤ k) : umlautref17_Tokens.f k s = some ((lexL mkT s.data.toList).1.map t37, (lexL mkT s.data.toList).2) := by
  rw [ref_tokens s k hk, lexL_37]
def sel : Bytes := [83, 69, 76, 69, 67, 84]
theorem wake0 : lexL mkT [97, 60, 61, 49] = ([(1, ⟨#[97]⟩, 0, 0), (5, ⟨#[60, 61]⟩, 0, 1), (3, ⟨#[]⟩, 1, 3)], 0, 0) := by rfl
theorem wake1 : lexL mkT [83, 69, 76, 69, 67, 84] = ([(2, ⟨#[83, 69, 76, 69, 67, 84]⟩, 0, 0)], 0, 0) := by rfl
theorem wake2 : lexL mkT [97, 49] = ([(1, ⟨#[97, 49]⟩, 0, 0)], 0, 0) := by rfl
theorem awake_eq (k : Nat) (hk : 10000 ≤ k) : umlautlaw17_awake.f k = some true := by
  unfold umlautlaw17_awake.f lex_Word.f lex_Name.f lex_only.f
  rw [lex_tok _ k hk, lex_tok _ k hk, lex_tok _ k hk]
  rw [show (⟨#[97, 60, 61, 49]⟩ : ByteArray).data.toList = [97, 60, 61, 49] from rfl, wake0]
  rw [show (⟨#[83, 69, 76, 69, 67, 84]⟩ : ByteArray).data.toList = [83, 69, 76, 69, 67, 84] from rfl, wake1]
  rw [show (⟨#[97, 49]⟩ : ByteArray).data.toList = [97, 49] from rfl, wake2]
  simp only [Option.bind_some, Lib.toList_data]
  decide +kernel
end Go.Proofs.YtobhcpfdgfkeiaaDoor.Lp

namespace Go.Proofs.YtobhcpfdgfkeiaaDoor.Lx
open Go.RowKit Go.Proofs.YtobhcpfdgfkeiaaDoorW.PrintWords Go.Proofs.YtobhcpfdgfkeiaaDoorW.PrintLast Go.Proofs.YtobhcpfdgfkeiaaDoorW.PrintMore Go.Proofs.YtobhcpfdgfkeiaaDoor.Lf Go.Proofs.YtobhcpfdgfkeiaaDoor.Ext
attribute [local go_sem] max2_int min2_int max_two min_two max_three min_three max_four min_four   -- for this text's walks alone
set_option linter.unusedVariables false
set_option linter.unusedSimpArgs false

/-! ### umlautlaw17_LexTexts: function 7 -/
def umlautlaw17_LexTexts.l0 : Nat → ByteArray → ByteArray → Int → Option (Bool)
  | 0, _, _, _ => none
  | k + 1, x0, x3, x4 => if x4 < (x0.size : Int) then (if 0 ≤ x4 then (if (bt x0 x4) = 39 then (if x3.size + 1 ≤ 9223372036854775807 then (if x4 ≤ (wrap64 (x4 + 1)) then (if (wrap64 (x4 + 1)) ≤ (x0.size : Int) then (if (x3 ++ (⟨#[39]⟩ : ByteArray)).size + (x0.extract (x4 : Int).toNat ((wrap64 (x4 + 1)) : Int).toNat).size ≤ 9223372036854775807 then (umlautlaw17_LexTexts.l0 k x0 ((x3 ++ (⟨#[39]⟩ : ByteArray)) ++ (x0.extract (x4 : Int).toNat ((wrap64 (x4 + 1)) : Int).toNat)) (wrap64 (x4 + 1))) else (none)) else (none)) else (none)) else (none)) else (if x4 ≤ (wrap64 (x4 + 1)) then (if (wrap64 (x4 + 1)) ≤ (x0.size : Int) then (if x3.size + (x0.extract (x4 : Int).toNat ((wrap64 (x4 + 1)) : Int).toNat).size ≤ 9223372036854775807 then (umlautlaw17_LexTexts.l0 k x0 (x3 ++ (x0.extract (x4 : Int).toNat ((wrap64 (x4 + 1)) : Int).toNat)) (wrap64 (x4 + 1))) else (none)) else (none)) else (none))) else (none)) else (if x3.size + 1 ≤ 9223372036854775807 then (if 2 + (x3 ++ (⟨#[39]⟩ : ByteArray)).size ≤ 9223372036854775807 then (if ((⟨#[97, 32]⟩ : ByteArray) ++ (x3 ++ (⟨#[39]⟩ : ByteArray))).size + 1 ≤ 9223372036854775807 then ((lex_Tokens.f k (((⟨#[97, 32]⟩ : ByteArray) ++ (x3 ++ (⟨#[39]⟩ : ByteArray))) ++ (⟨#[98]⟩ : ByteArray))).bind fun bt269 => (if bt269.2.2 = 0 then (if (bt269.1.length : Int) = 3 then (if 1 < (bt269.1.length : Int) then (if ((rd_T28 bt269.1 1).f0) = 4 then (if ((rd_T28 bt269.1 1).f1).toList = x0.toList then (if ((rd_T28 bt269.1 1).f3) = 2 then (if 2 < (bt269.1.length : Int) then (if ((rd_T28 bt269.1 2).f1).toList = ([98] : List UInt8) then (if ((rd_T28 bt269.1 2).f3) = (wrap64 (2 + ((x3 ++ (⟨#[39]⟩ : ByteArray)).size : Int))) then ((umlautlaw17_awake.f k).bind fun t279 => (some t279)) else (some false)) else (some false)) else (none)) else (some false)) else (some false)) else (some false)) else (none)) else (some false)) else (some false))) else (none)) else (none)) else (none))
def umlautlaw17_LexTexts.f (k : Nat) (a0 : ByteArray) : Option (Bool) := if (a0.size : Int) > 1000 then ((umlautlaw17_awake.f k).bind fun t268 => (some t268)) else (umlautlaw17_LexTexts.l0 k a0 (⟨#[39]⟩ : ByteArray) 0)
theorem umlautlaw17_LexTexts.mono_l : ∀ k, (∀ y0 y1 y2, LeO (umlautlaw17_LexTexts.l0 k y0 y1 y2) (umlautlaw17_LexTexts.l0 (k + 1) y0 y1 y2))
  | 0 => fun _ _ _ r h => by simp [umlautlaw17_LexTexts.l0] at h
  | k + 1 => by
    have ih0 := umlautlaw17_LexTexts.mono_l k
    · intro y0 y1 y2
      unfold umlautlaw17_LexTexts.l0
      repeat' first
      | (with_reducible exact ih0 _ _ _)
      | (with_reducible exact lex_Tokens.mono _ _)
      | (with_reducible exact umlautlaw17_awake.mono _)
      | (with_reducible exact LeO.refl _)
      | (with_reducible exact LeO.none _)
      | (with_reducible refine LeO.ite ?_ ?_)
      | (with_reducible refine LeO.bind ?_ (fun _ => ?_))
      | exact ih0 _ _ _
      | exact lex_Tokens.mono _ _
      | exact umlautlaw17_awake.mono _
      | exact LeO.none _
      | refine LeO.ite ?_ ?_
      | refine LeO.bind ?_ (fun _ => ?_)
theorem umlautlaw17_LexTexts.mono : ∀ a0 k, LeO (umlautlaw17_LexTexts.f k a0) (umlautlaw17_LexTexts.f (k + 1) a0) := by
  intro a0 k
  have ih0 := umlautlaw17_LexTexts.mono_l k
  unfold umlautlaw17_LexTexts.f
  repeat' first
      | (with_reducible exact ih0 _ _ _)
      | (with_reducible exact lex_Tokens.mono _ _)
      | (with_reducible exact umlautlaw17_awake.mono _)
      | (with_reducible exact LeO.refl _)
      | (with_reducible exact LeO.none _)
      | (with_reducible refine LeO.ite ?_ ?_)
      | (with_reducible refine LeO.bind ?_ (fun _ => ?_))
      | exact ih0 _ _ _
      | exact lex_Tokens.mono _ _
      | exact umlautlaw17_awake.mono _
      | exact LeO.none _
      | refine LeO.ite ?_ ?_
      | refine LeO.bind ?_ (fun _ => ?_)
end Go.Proofs.YtobhcpfdgfkeiaaDoor.Lx

namespace Go.Proofs.YtobhcpfdgfkeiaaDoor.Lp
open Go.RowKit Go.Proofs.YtobhcpfdgfkeiaaDoorW.PrintWords Go.Proofs.YtobhcpfdgfkeiaaDoor.Ext Go.Proofs.YtobhcpfdgfkeiaaDoor.Lx Go.Proofs.YtobhcpfdgfkeiaaDoor.Lf
set_option linter.unusedVariables false

def dbl1 (c : UInt8) : Bytes := if c.toNat = 39 then [39, 39] else [c]
def dblq : Bytes → Bytes
  | [] => []
  | c :: x => dbl1 c ++ dblq x
theorem dblq_app (x y : Bytes) : dblq (x ++ y) = dblq x ++ dblq y := by
  induction x with
  | nil => rfl
  | cons c x ih => rw [List.cons_append, dblq, ih, dblq, List.append_assoc]
theorem dblq_len (x : Bytes) : (dblq x).length ≤ 2 * x.length := by
  induction x with
  | nil => exact Nat.le_refl _
  | cons c x ih =>
    rw [dblq, List.length_append, List.length_cons]
    have : (dbl1 c).length ≤ 2 := by unfold dbl1; split <;> simp
    omega
theorem textOf_dbl (x : Bytes) : textOf (dblq x ++ [39, 98]) = some (x, (dblq x).length + 1) := by
  induction x with
  | nil => rfl
  | cons c x ih =>
    rw [dblq]
    unfold dbl1
    by_cases h : c.toNat = 39
    · have e : c = 39 := UInt8.toNat_inj.mp h
      rw [if_pos h, List.append_assoc]
      show textOf (39 :: 39 :: (dblq x ++ [39, 98])) = _
      rw [textOf.eq_def]
      simp only
      rw [if_pos (by decide), if_pos (by decide), ih, e]
      simp only [Option.map_some, List.length_append, List.length_cons, List.length_nil]
      congr 2; omega
    · rw [if_neg h, List.append_assoc]
      show textOf (c :: (dblq x ++ [39, 98])) = _
      rw [textOf.eq_def]
      simp only
      rw [if_neg h, ih]
      simp only [Option.map_some, List.length_append, List.length_cons, List.length_nil]
      congr 2; omega
theorem isRem_ne {c : UInt8} (h : (c == 45) = false) (l : Bytes) : isRem (c :: l) = false := by
  cases l with
  | nil => rfl
  | cons d l => simp only [isRem]; rw [h, Bool.false_and]
theorem tok_name1 (c : UInt8) (r : Bytes) (hl : isLet c = true) (hs : spanOf isNam (c :: r) = 1) (hw : isWord (Lib.toUpperA [c]) = false) : tokL (c :: r) = some ⟨1, ⟨(Lib.toLowerA [c]).toArray⟩, 0, 1⟩ := by
  rw [tokL_cons, if_pos hl, hs, if_neg (by decide), show (c :: r).take 1 = [c] from rfl, hw]; rfl
theorem tok_97 (r : Bytes) : tokL (97 :: 32 :: r) = some ⟨1, ⟨#[97]⟩, 0, 1⟩ := tok_name1 97 _ (by decide) (by rw [spanOf_cons_yes (by decide), spanOf_cons_no (by decide)]) (by decide +kernel)
theorem tok_98 : tokL [98] = some ⟨1, ⟨#[98]⟩, 0, 1⟩ := tok_name1 98 _ (by decide) (by rfl) (by decide +kernel)
theorem from_98 (acc : List Tup) (i : Nat) : fromAt mkT acc i [98] = (acc ++ [(1, ⟨#[98]⟩, 0, (i : Int))], 0, 0) := by
  rw [fromAt_tok mkT acc i (c := 98) (l := []) (by decide) (by rfl), tok_98]
  exact fromAt_nil mkT _ _
theorem from_97 (r : Bytes) : fromAt mkT [] 0 (97 :: 32 :: r) = fromAt mkT [(1, ⟨#[97]⟩, 0, 0)] 2 r := by
  rw [fromAt_tok mkT [] 0 (c := 97) (by decide) (isRem_ne (by decide) _), tok_97]
  exact fromAt_blank mkT _ 1 (by decide)
theorem lex_text (x : Bytes) (h : x.length ≤ 1000) : lexL mkT (97 :: 32 :: 39 :: (dblq x ++ [39, 98])) = ([(1, ⟨#[97]⟩, 0, 0), (4, ⟨x.toArray⟩, 0, 2), (1, ⟨#[98]⟩, 0, (((dblq x).length + 4 : Nat) : Int))], 0, 0) := by
  have hd := dblq_len x
  rw [lexL_from, if_neg (by simp only [List.length_cons, List.length_append, List.length_nil]; omega), from_97]
  rw [fromAt_tok mkT _ 2 (c := 39) (by decide) (isRem_ne (by decide) _), tokL_cons, if_neg (by decide), if_neg (by decide), if_pos (by decide), textOf_dbl]
  simp only [Option.map_some]
  rw [show (39 :: (dblq x ++ [39, 98]) : Bytes).drop ((dblq x).length + 1 + 1) = [98] from by
    rw [List.drop_succ_cons, List.drop_append, List.drop_eq_nil_of_le (by omega), show (dblq x).length + 1 - (dblq x).length = 1 by omega]; rfl]
  rw [from_98, show 2 + ((dblq x).length + 1 + 1) = (dblq x).length + 4 by omega]
  rfl

theorem ba_list (s : ByteArray) : (⟨s.data.toList.toArray⟩ : ByteArray) = s := by apply WideShapes.bytes_inj; rfl
theorem app_data (a b : ByteArray) : (a ++ b).data.toList = a.data.toList ++ b.data.toList := by rw [ByteArray.data_append]; simp
theorem size_list (s : ByteArray) : s.size = s.data.toList.length := (len_size s).symm

theorem texts_loop (s : ByteArray) (hs : s.size ≤ 1000) : ∀ (d k i : Nat) (q : ByteArray), i ≤ s.size → s.size - i ≤ d → d + 10000 < k → q.data.toList = 39 :: dblq (s.data.toList.take i) → umlautlaw17_LexTexts.l0 k s q (i : Int) = some true := by
  intro d
  induction d with
  | zero =>
    intro k i q hi hd hk hq
    obtain ⟨k, rfl⟩ : ∃ m, k = m + 1 := ⟨k - 1, by omega⟩
    have hls := len_size s
    rw [List.take_of_length_le (by omega)] at hq
    have hd := dblq_len s.data.toList
    have hqs : q.size = (dblq s.data.toList).length + 1 := by rw [size_list, hq]; rfl
    have hq1 : (q ++ (⟨#[39]⟩ : ByteArray)).size = (dblq s.data.toList).length + 2 := by rw [ByteArray.size_append, hqs]; rfl
    have hq2 : ((⟨#[97, 32]⟩ : ByteArray) ++ (q ++ (⟨#[39]⟩ : ByteArray))).size = (dblq s.data.toList).length + 4 := by rw [ByteArray.size_append, hq1]; show 2 + _ = _; omega
    simp only [umlautlaw17_LexTexts.l0]
    rw [if_neg (by omega), if_pos (by omega), if_pos (by omega), if_pos (by omega), lex_tok _ k (by omega)]
    rw [app_data, app_data, app_data, hq]
    rw [show (⟨#[97, 32]⟩ : ByteArray).data.toList ++ (39 :: dblq s.data.toList ++ (⟨#[39]⟩ : ByteArray).data.toList) ++ (⟨#[98]⟩ : ByteArray).data.toList = 97 :: 32 :: 39 :: (dblq s.data.toList ++ [39, 98]) from by
      show [97, 32] ++ (39 :: dblq s.data.toList ++ [39]) ++ [98] = _
      simp]
    rw [lex_text _ (by omega)]
    simp only [Option.bind_some]
    rw [if_pos True.intro, if_pos (by rfl), if_pos (by simp), if_pos (by rfl)]
    rw [if_pos (by exact congrArg ByteArray.toList (ba_list s)), if_pos (by rfl), if_pos (by simp), if_pos (by simp only [Lib.toList_data]; rfl), hq1]
    rw [if_pos (by show (((dblq s.data.toList).length + 4 : Nat) : Int) = _; unfold wrap64; omega), awake_eq k (by omega)]
    rfl
  | succ d ih =>
    intro k i q hi hd hk hq
    obtain ⟨k, rfl⟩ : ∃ m, k = m + 1 := ⟨k - 1, by omega⟩
    by_cases hlt : i < s.size
    · have hls := len_size s
      have hd2 := dblq_len (s.data.toList.take i)
      rw [List.length_take] at hd2
      have hqs : q.size = (dblq (s.data.toList.take i)).length + 1 := by rw [size_list, hq]; rfl
      have hx := ext_run s i 1
      have hes : (s.extract i (i + 1)).size = 1 := ext_one_size hlt
      have hta : s.data.toList.take (i + 1) = s.data.toList.take i ++ [s[i]] := by
        rw [List.take_add_one, List.getElem?_eq_getElem (by omega)]; rfl
      simp only [umlautlaw17_LexTexts.l0]
      rw [if_pos (by omega), if_pos (by omega), bt_nat hlt, wrap_add1 _ (by omega)]
      by_cases hc : s[i].toNat = 39
      · have e : s[i] = 39 := UInt8.toNat_inj.mp hc
        rw [if_pos (by omega), if_pos (by omega), if_pos (by omega), if_pos (by omega), Int.toNat_natCast, Int.toNat_natCast]
        rw [if_pos (by rw [ByteArray.size_append, hes]; show q.size + 1 + 1 ≤ _; omega)]
        refine ih k (i + 1) _ (by omega) (by omega) (by omega) ?_
        rw [app_data, app_data, hq, ext_one hlt, hta, dblq_app, e]
        show 39 :: dblq (s.data.toList.take i) ++ [39] ++ [39] = _
        rw [List.append_assoc]; rfl
      · rw [if_neg (by omega), if_pos (by omega), if_pos (by omega), Int.toNat_natCast, Int.toNat_natCast]
        rw [if_pos (by rw [hes]; omega)]
        refine ih k (i + 1) _ (by omega) (by omega) (by omega) ?_
        rw [app_data, hq, ext_one hlt, hta, dblq_app]
        have : dblq [s[i]] = [s[i]] := by show dbl1 s[i] ++ [] = _; unfold dbl1; rw [if_neg hc]; rfl
        rw [this]; rfl
    · exact ih (k + 1) i q hi (by omega) (by omega) hq
theorem pure_texts (a0 : ByteArray) : umlautlaw17_LexTexts.f 20001 a0 = some true := by
  unfold umlautlaw17_LexTexts.f
  by_cases h0 : (a0.size : Int) > 1000
  · rw [if_pos h0, awake_eq 20001 (by decide)]; rfl
  · rw [if_neg h0]
    exact texts_loop a0 (by omega) 1000 20001 0 _ (Nat.zero_le _) (by omega) (by decide) rfl

theorem spanOf_all (p : UInt8 → Bool) : ∀ (x r : Bytes), (∀ c, c ∈ x → p c = true) → spanOf p (x ++ r) = x.length + spanOf p r
  | [], r, _ => by simp
  | c :: x, r, h => by
    rw [List.cons_append, spanOf_cons_yes (h c (List.mem_cons_self ..)), spanOf_all p x r (fun d hd => h d (List.mem_cons_of_mem _ hd)), List.length_cons]; omega
theorem lex_rem1 (x : Bytes) (h : x.length ≤ 500) (hx : ∀ c, c ∈ x → notLf c = true) : lexL mkT (97 :: 32 :: 45 :: 45 :: (x ++ [10, 98])) = ([(1, ⟨#[97]⟩, 0, 0), (1, ⟨#[98]⟩, 0, ((x.length + 5 : Nat) : Int))], 0, 0) := by
  rw [lexL_from, if_neg (by simp only [List.length_cons, List.length_append, List.length_nil]; omega), from_97]
  have hs : spanOf notLf (45 :: 45 :: (x ++ [10, 98])) = x.length + 2 := by
    rw [spanOf_cons_yes (by decide), spanOf_cons_yes (by decide), spanOf_all _ _ _ hx, spanOf_cons_no (by decide)]
  rw [fromAt_rem mkT _ 2 (c := 45) (by decide) (by rfl), hs]
  rw [show (45 :: 45 :: (x ++ [10, 98]) : Bytes).drop (x.length + 2) = [10, 98] from by
    rw [List.drop_succ_cons, List.drop_succ_cons, List.drop_append, List.drop_eq_nil_of_le (by omega), show x.length - x.length = 0 by omega]; rfl]
  rw [fromAt_blank mkT _ _ (by decide), from_98, show 2 + (x.length + 2) + 1 = x.length + 5 by omega]
  rfl
theorem lex_rem2 (x : Bytes) (h : x.length ≤ 500) (hx : ∀ c, c ∈ x → notLf c = true) : lexL mkT (97 :: 32 :: 45 :: 45 :: x) = ([(1, ⟨#[97]⟩, 0, 0)], 0, 0) := by
  rw [lexL_from, if_neg (by simp only [List.length_cons]; omega), from_97]
  have hs : spanOf notLf (45 :: 45 :: x) = x.length + 2 := by
    have := spanOf_all notLf x [] hx
    rw [List.append_nil] at this
    rw [spanOf_cons_yes (by decide), spanOf_cons_yes (by decide), this]; rfl
  rw [fromAt_rem mkT _ 2 (c := 45) (by decide) (by rfl), hs]
  rw [show (45 :: 45 :: x : Bytes).drop (x.length + 2) = [] from List.drop_eq_nil_of_le (by simp)]
  exact fromAt_nil mkT _ _

theorem rem_end (n k : Nat) (z : Int) (hz : ((n + 5 : Nat) : Int) = z) (ha : umlautlaw17_awake.f k = some true) : (((some ((([(1, ⟨#[97]⟩, 0, 0), (1, ⟨#[98]⟩, 0, ((n + 5 : Nat) : Int))] : List Tup).map t28, 0, 0) : List S28 × Int × Int)).bind fun bt306 => ((some ((([(1, ⟨#[97]⟩, 0, 0)] : List Tup).map t28, 0, 0) : List S28 × Int × Int)).bind fun bt311 => (if bt306.2.2 = 0 then (if (bt306.1.length : Int) = 2 then (if 1 < (bt306.1.length : Int) then (if ((rd_T28 bt306.1 1).f1).toList = ([98] : List UInt8) then (if ((rd_T28 bt306.1 1).f3) = z then (if bt311.2.2 = 0 then (if (bt311.1.length : Int) = 1 then ((umlautlaw17_awake.f k).bind fun t318 => (some t318)) else (some false)) else (some false)) else (some false)) else (some false)) else (none)) else (some false)) else (some false))))) = some true := by
  rw [ha]
  subst hz
  simp [rd_T28, t28, Lib.toList_data]
theorem remarks_loop (s : ByteArray) (hs : s.size ≤ 140737488351232) : ∀ (d k i : Nat), i ≤ s.size → s.size - i ≤ d → d + 10000 < k → (∀ c, c ∈ s.data.toList.take i → notLf c = true) → umlautlaw17_LexRemarks.l0 k s (i : Int) = some true := by
  intro d
  induction d with
  | zero =>
    intro k i hi hd hk hq
    obtain ⟨k, rfl⟩ : ∃ m, k = m + 1 := ⟨k - 1, by omega⟩
    have hls := len_size s
    rw [List.take_of_length_le (by omega)] at hq
    simp only [umlautlaw17_LexRemarks.l0]
    rw [if_neg (by omega)]
    by_cases hb : (s.size : Int) > 500
    · rw [if_pos hb, awake_eq k (by omega)]; rfl
    · have hz : ((⟨#[97, 32, 45, 45]⟩ : ByteArray) ++ s).size = 4 + s.size := by rw [ByteArray.size_append]; rfl
      rw [if_neg hb, if_pos (by omega), if_pos (by omega), lex_tok _ k (by omega), lex_tok _ k (by omega)]
      rw [app_data, app_data]
      rw [show (⟨#[97, 32, 45, 45]⟩ : ByteArray).data.toList ++ s.data.toList ++ (⟨#[10, 98]⟩ : ByteArray).data.toList = 97 :: 32 :: 45 :: 45 :: (s.data.toList ++ [10, 98]) from rfl]
      rw [show (⟨#[97, 32, 45, 45]⟩ : ByteArray).data.toList ++ s.data.toList = 97 :: 32 :: 45 :: 45 :: s.data.toList from rfl]
      rw [lex_rem1 _ (by omega) hq, lex_rem2 _ (by omega) hq]
      exact rem_end s.data.toList.length k _ (by rw [hls]; unfold wrap64; omega) (awake_eq k (by omega))
  | succ d ih =>
    intro k i hi hd hk hq
    obtain ⟨k, rfl⟩ : ∃ m, k = m + 1 := ⟨k - 1, by omega⟩
    by_cases hlt : i < s.size
    · simp only [umlautlaw17_LexRemarks.l0]
      rw [if_pos (by omega), if_pos (by omega), bt_nat hlt, wrap_add1 _ (by omega)]
      by_cases hc : s[i].toNat = 10
      · rw [if_pos (by omega), awake_eq k (by omega)]; rfl
      · rw [if_neg (by omega)]
        refine ih k (i + 1) (by omega) (by omega) (by omega) ?_
        intro c h
        have hls := len_size s
        rw [List.take_add_one, List.getElem?_eq_getElem (by omega)] at h
        simp only [Option.toList_some, List.mem_append, List.mem_singleton] at h
        rcases h with h | h
        · exact hq c h
        · rw [h, show s.data.toList[i] = s[i] from rfl]; unfold notLf; rw [decide_eq_false hc]; rfl
    · exact ih (k + 1) i hi (by omega) (by omega) hq
theorem pure_remarks (a0 : ByteArray) (h : a0.size ≤ 140737488351232) : umlautlaw17_LexRemarks.f (a0.size + 10001) a0 = some true := by
  unfold umlautlaw17_LexRemarks.f
  exact remarks_loop a0 h a0.size _ 0 (Nat.zero_le _) (by omega) (by omega) (by simp)
end Go.Proofs.YtobhcpfdgfkeiaaDoor.Lp

namespace Go.Proofs.YtobhcpfdgfkeiaaDoor.lexRemarks
open Go.ChangeShapes Go.WideShapes Go.ChangeAt Go.RowKit
open Go.ChangeMaps (open_string shut_string)
set_option linter.unusedVariables false
theorem own : ownKnob Tryd.prog.godebug = none := by kernel_rfl
theorem laid_met (os : Os) : laidMet Tryd.prog Rows.lexRemarksRow.laid ((World.laidAll Tryd.prog os Rows.lexRemarksRow.laid).forCall (fun _ _ => 0) ⟨#[], #[.string ByteArray.empty], []⟩).memory :=
  laidMet_laidAll _ (by kernel_rfl) (by kernel_rfl)
set_option maxRecDepth 100000 in
theorem lifted (os : Os) (started : os.Started) (H : Type) (enc : TypeId × Value → H) (F : Stop.Interp) :
    ReturnsInHanded {} Tryd.checked os 3 .any ((OpenSpec.ofChange Rows.lexRemarksSpec).preRow enc Tryd.prog Tryd.f3 Rows.lexRemarksRow.domain false Rows.lexRemarksRow.laid) (((OpenSpec.ofChange Rows.lexRemarksSpec).at F).post enc Tryd.prog Tryd.f3 false true false false) := by
  refine returnsInHanded_of_row (C := Tryd.checked) (s := OpenSpec.ofChange Rows.lexRemarksSpec) own started (by kernel_rfl) Tryd.func3
    (ChangeSpec.witness_shaped (enc := enc) (C := Tryd.checked) (os := os) (X := fun w _ => laidMetH Tryd.prog Rows.lexRemarksRow.laid w) false (World.laidAll Tryd.prog os Rows.lexRemarksRow.laid) #[.string ByteArray.empty] 8 (World.laidAll_os _ _ _)
      (World.shaped_of_ZipB (by kernel_rfl) (by kernel_rfl)) (by kernel_rfl) (by kernel_rfl) (by kernel_rfl)
      (by rw [MakeChecks.laidMetH_plain _ _ _ (by kernel_rfl)]; exact laid_met os)) ?_
  intro W base args ds gs before hval0 hW hcnd _ hsz0 hL hS _
  have hgw : Ext.Wd W := by
    rw [MakeChecks.laidMetH_plain _ _ _ (by kernel_rfl)] at hL
    exact Rw.wd_of (by unfold Rows.lexRemarksRow; simp) (by unfold Rows.lexRemarksRow; simp) hL hS
  have hsz : (DataW.weightsEach Tryd.prog (Tryd.f3.params.toList ++ Rows.lexRemarksSpec.plain.varTypes Tryd.prog) (ds ++ gs)).all (· ≤ reachBytes) = true := hsz0
  have hval : ∀ (j : Nat) t v, Tryd.f3.params[j]? = some t → args[j]? = some v → Value.okWide Tryd.prog W .any base t v := hval0
  have hW' := hW
  obtain ⟨p, q, hA0, hV, rfl, hfz, hnd⟩ := hW
  have hA : DataW.TrodAll enc Tryd.prog W 0 (fun _ => true) true Tryd.f3.params.toList args.toList ds p := hA0
  rw [Tryd.params3] at hA hval hsz
  obtain ⟨v0, vs0, d0, ds0, p0, q0, hargs, rfl, rfl, h0, r0⟩ := trodAll_cons hA
  obtain ⟨rfl, rfl, rfl⟩ := trodAll_nil r0
  obtain rfl : args = #[v0] := by cases args; simp_all
  obtain ⟨rfl, rfl⟩ := trodVars_none hV
  obtain ⟨a0, rfl, rfl, rfl, y0⟩ := open_string Tryd.underlying9 (hval 0 9 v0 rfl rfl) h0
  have w0 : a0.size ≤ 140737488351232 := by
    have z := sized_string hsz (j := 0) (t := 9) rfl rfl
    rw [Array.length_toList] at z
    exact z
  clear hA0 hval0 hsz0 hsz
  refine (Lx.umlautlaw17_LexRemarks.walk (fun a h => ⟨_, Lp.pure_remarks a h⟩) a0 W hgw w0).mono fun e W' ⟨he, bel⟩ => ?_
  subst he
  exact ⟨_, rfl, _, _, _, [], _, [], hW', trodAll_mk1 (shut_bool Tryd.underlying4 _), (trodAll_cons_mk (shut_string Tryd.underlying9 y0) trodAll_mk0), rfl, bel.frame _, fun h => by cases h⟩
theorem said : Rows.LexRemarksSaid :=
  OpenClaim.holds_of_cond 3 Tryd.f3 rfl rfl rfl rfl rfl rfl rfl ⟨rfl, rfl, rfl, rfl, rfl⟩ rfl rfl rfl rfl rfl (by kernel_rfl) Tryd.func3 (by kernel_rfl)
    (of_decide_eq_true (by kernel_rfl)) (by unfold Func.isWrapper; first | (rw [if_pos (by decide +kernel)]; kernel_rfl) | (rw [if_neg (by decide +kernel)]; exact ⟨rfl, rfl⟩))
    (fun os started H enc _ F => by rw [OpenClaim.pre_eq_preRow]; exact lifted os started H enc F)
theorem plain (f : FuncId) (fn : Func) (hf : Tryd.pinned.checked.prog.funcNamed "umlaut/umlautlaw17.LexRemarks" = some f) (hfn : Tryd.pinned.checked.prog.funcs[f]? = some fn) :
    true = Tryd.pinned.checked.prog.looks [] ∧ ∀ (j : Nat) t, fn.params[j]? = some t → Tryd.pinned.checked.prog.wantsStandIn t = false := by
  obtain rfl : f = 3 := Option.some.inj ((show Tryd.prog.funcNamed "umlaut/umlautlaw17.LexRemarks" = some 3 by kernel_rfl).symm.trans hf) |>.symm
  obtain rfl : fn = Tryd.f3 := (Option.some.inj (Tryd.func3.symm.trans hfn)).symm
  refine ⟨by kernel_rfl, fun j t ht => ?_⟩
  rw [Tryd.params3] at ht
  have hm : t ∈ [9] := by simpa using Array.mem_of_getElem? ht
  have hall : ([9].all fun u => !Tryd.prog.wantsStandIn u) = true := by kernel_rfl
  exact (show Tryd.prog.wantsStandIn t = false by simpa using List.all_eq_true.1 hall t hm)
theorem card : Rows.LexRemarksCardSaid :=
  Claim7.holds_tied_plain_at .later [] _ _ _ _ said (fun _ h => by cases h) (by kernel_rfl) (fun _ h => by cases h) lexRemarks_row_tie rfl ⟨rfl, rfl⟩ (by kernel_rfl) rfl plain (by kernel_rfl)
#print axioms card
end Go.Proofs.YtobhcpfdgfkeiaaDoor.lexRemarks
namespace Go.Proofs.YtobhcpfdgfkeiaaDoor
/-- The card, under a short name, for the claim. -/
theorem lexRemarks_card : Rows.LexRemarksCardSaid := lexRemarks.card
end Go.Proofs.YtobhcpfdgfkeiaaDoor
