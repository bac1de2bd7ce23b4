/-
  Texts of this claim, joined: part 4.
-/
import Derived.Test.YtobhcpfdgfkeiaaDoorJC0
import Derived.Test.YtobhcpfdgfkeiaaDoorJC1
import Derived.Test.YtobhcpfdgfkeiaaDoorJC2
import Derived.Test.YtobhcpfdgfkeiaaDoorCards
import Derived.Test.YtobhcpfdgfkeiaaDoorTie
import Derived.WalkKit
import Derived.ProofKit
import Derived.OpenShut
import Derived.ShutString
import Derived.ChangeOld
import Derived.Below
import Derived.SizedLaws
import Derived.Deep.DeepHandedRow
import Derived.Lay
namespace Go.Proofs.YtobhcpfdgfkeiaaDoor.Lx
open Go.RowKit Go.Proofs.YtobhcpfdgfkeiaaDoorW.PrintWords Go.Proofs.YtobhcpfdgfkeiaaDoorW.PrintLast Go.Proofs.YtobhcpfdgfkeiaaDoorW.PrintMore Go.Proofs.YtobhcpfdgfkeiaaDoor.Lf Go.Proofs.YtobhcpfdgfkeiaaDoor.Ext
attribute [local go_sem] max2_int min2_int max_two min_two max_three min_three max_four min_four   -- for this text's walks alone
set_option linter.unusedVariables false
set_option linter.unusedSimpArgs false

/-! ### umlautref1_Text: function 14 -/
mutual
def umlautref1_Text.l0 : Nat → Int → ByteArray → Option (ByteArray)
  | 0, _, _ => none
  | k + 1, x0, x3 => if x0 > 9 then (if 0 ≤ (Int.tmod x0 10) then (if (Int.tmod x0 10) ≤ (wrap64 ((Int.tmod x0 10) + 1)) then (if (wrap64 ((Int.tmod x0 10) + 1)) ≤ 10 then (if ((⟨#[48, 49, 50, 51, 52, 53, 54, 55, 56, 57]⟩ : ByteArray).extract ((Int.tmod x0 10) : Int).toNat ((wrap64 ((Int.tmod x0 10) + 1)) : Int).toNat).size + x3.size ≤ 9223372036854775807 then (umlautref1_Text.l0 k (wrap64 (Int.tdiv x0 10)) (((⟨#[48, 49, 50, 51, 52, 53, 54, 55, 56, 57]⟩ : ByteArray).extract ((Int.tmod x0 10) : Int).toNat ((wrap64 ((Int.tmod x0 10) + 1)) : Int).toNat) ++ x3)) else (none)) else (none)) else (none)) else (none)) else (if 0 ≤ x0 then (if x0 ≤ (wrap64 (x0 + 1)) then (if (wrap64 (x0 + 1)) ≤ 10 then (if ((⟨#[48, 49, 50, 51, 52, 53, 54, 55, 56, 57]⟩ : ByteArray).extract (x0 : Int).toNat ((wrap64 (x0 + 1)) : Int).toNat).size + x3.size ≤ 9223372036854775807 then (some (((⟨#[48, 49, 50, 51, 52, 53, 54, 55, 56, 57]⟩ : ByteArray).extract (x0 : Int).toNat ((wrap64 (x0 + 1)) : Int).toNat) ++ x3)) else (none)) else (none)) else (none)) else (none))
def umlautref1_Text.f : Nat → Int → Option (ByteArray)
  | 0, _ => none
  | k + 1, a0 => if a0 = (-9223372036854775808) then (some (⟨#[45, 57, 50, 50, 51, 51, 55, 50, 48, 51, 54, 56, 53, 52, 55, 55, 53, 56, 48, 56]⟩ : ByteArray)) else (if a0 < 0 then ((umlautref1_Text.f k (wrap64 (-a0))).bind fun t280 => (if 1 + t280.size ≤ 9223372036854775807 then (some ((⟨#[45]⟩ : ByteArray) ++ t280)) else (none))) else (umlautref1_Text.l0 k a0 (⟨#[]⟩ : ByteArray)))
end
theorem umlautref1_Text.mono_l : ∀ k, (∀ y0, LeO (umlautref1_Text.f k y0) (umlautref1_Text.f (k + 1) y0)) ∧ (∀ y0 y1, LeO (umlautref1_Text.l0 k y0 y1) (umlautref1_Text.l0 (k + 1) y0 y1))
  | 0 => ⟨fun _ r h => by simp [umlautref1_Text.f] at h, fun _ _ r h => by simp [umlautref1_Text.l0] at h⟩
  | k + 1 => by
    obtain ⟨ih0, ih1⟩ := umlautref1_Text.mono_l k
    refine ⟨?_, ?_⟩
    · intro y0
      unfold umlautref1_Text.f
      repeat' first
      | (with_reducible exact ih0 _)
      | (with_reducible exact ih1 _ _)
      | (with_reducible exact LeO.refl _)
      | (with_reducible exact LeO.none _)
      | (with_reducible refine LeO.ite ?_ ?_)
      | (with_reducible refine LeO.bind ?_ (fun _ => ?_))
      | exact ih0 _
      | exact ih1 _ _
      | exact LeO.none _
      | refine LeO.ite ?_ ?_
      | refine LeO.bind ?_ (fun _ => ?_)
    · intro y0 y1
      unfold umlautref1_Text.l0
      repeat' first
      | (with_reducible exact ih0 _)
      | (with_reducible exact ih1 _ _)
      | (with_reducible exact LeO.refl _)
      | (with_reducible exact LeO.none _)
      | (with_reducible refine LeO.ite ?_ ?_)
      | (with_reducible refine LeO.bind ?_ (fun _ => ?_))
      | exact ih0 _
      | exact ih1 _ _
      | exact LeO.none _
      | refine LeO.ite ?_ ?_
      | refine LeO.bind ?_ (fun _ => ?_)
theorem umlautref1_Text.mono : ∀ a0 k, LeO (umlautref1_Text.f k a0) (umlautref1_Text.f (k + 1) a0) := by
  intro a0 k
  obtain ⟨ih0, ih1⟩ := umlautref1_Text.mono_l k
  exact ih0 a0
set_option maxHeartbeats 8000000 in
set_option maxRecDepth 100000 in
theorem umlautref1_Text.calls (k : Nat) : ∀ (a0 : Int) (r : ByteArray) (w : World) (h : umlautref1_Text.f k a0 = some r),
    Calls Tryd.prog 14 #[.int .i64 a0] w fun e w' => e = .returned (.string r) ∧ Drawn0 w w' := by
  induction k using Nat.strongRecOn with
  | _ k ih =>
  intro a0 r w h
  cases k with
  | zero => exact absurd h (by simp [umlautref1_Text.f])
  | succ k =>
  simp only [umlautref1_Text.f] at h
  have H : (if a0 = (-9223372036854775808) then (some (⟨#[45, 57, 50, 50, 51, 51, 55, 50, 48, 51, 54, 56, 53, 52, 55, 55, 53, 56, 48, 56]⟩ : ByteArray)) else (if a0 < 0 then ((umlautref1_Text.f k (wrap64 (-a0))).bind fun t280 => (if 1 + t280.size ≤ 9223372036854775807 then (some ((⟨#[45]⟩ : ByteArray) ++ t280)) else (none))) else (umlautref1_Text.l0 k a0 (⟨#[]⟩ : ByteArray)))) = some r := h
  clear h
  by_cases c2 : a0 = (-9223372036854775808)
  · rw [if_pos c2] at H
    have c2b0 : (a0 == (-9223372036854775808)) = true := beq_iff_eq.mpr c2
    have c2b1 : (a0 != (-9223372036854775808)) = false := bne_eq_false_iff_eq.mpr c2
    clear c2
    obtain rfl := Option.some.inj H
    go_enter Tryd.func14, Tryd.ntmps14
    go_wp2
    go_ret
    exact ⟨by first | rfl | (simp; done) | (simp [*]; done), by repeat (first | exact Drawn0.refl _ | apply Drawn0.step)⟩
  · rw [if_neg c2] at H
    have c2b0 : (a0 == (-9223372036854775808)) = false := beq_eq_false_iff_ne.mpr c2
    have c2b1 : (a0 != (-9223372036854775808)) = true := bne_iff_ne.mpr c2
    by_cases c3 : a0 < 0
    · rw [if_pos c3] at H
      have c3b0 : decide (a0 < 0) = true := decide_eq_true c3
      clear c3
      replace H := Option.bind_eq_some_iff.mp H
      obtain ⟨t280, A40, H⟩ := H
      replace H : (if 1 + t280.size ≤ 9223372036854775807 then (some ((⟨#[45]⟩ : ByteArray) ++ t280)) else (none)) = some r := H
      have A4 := Aside0.mk A40
      clear A40
      by_cases c5 : 1 + t280.size ≤ 9223372036854775807
      · rw [if_pos c5] at H
        have c5b0 := eq_true c5
        have c5b1 : decide (1 + t280.size ≤ 9223372036854775807) = true := decide_eq_true c5
        try have c5b2 : (9223372036854775807 < 1 + t280.size) = False := eq_false (Nat.not_lt.2 c5)
        obtain rfl := Option.some.inj H
        go_enter Tryd.func14, Tryd.ntmps14
        go_wp2_with (first | ((with_reducible refine gate_callee (f := 14) rfl ?_); refine goesL_ (some 12) rfl rfl Tryd.func14 (by kernel_rfl) rfl #[.int .i64 (wrap64 (-a0))] rfl (by (try simp only [List.map_toArray, List.map_cons, List.map_nil]); first | done | rfl | (simp only [List.length_drop, List.length_take]; rfl)) ?_; (with_reducible refine (ih k (by omega) (wrap64 (-a0)) t280 _ A4.out).mono ?_); rintro e w' ⟨rfl, ⟨nd, rfl⟩⟩; refine ⟨_, rfl, ?_⟩))
        go_ret
        exact ⟨by first | rfl | (simp; done) | (simp [*]; done), by repeat (first | exact Drawn0.refl _ | apply Drawn0.step)⟩
      · rw [if_neg c5] at H
        exact absurd H (by simp)
    · rw [if_neg c3] at H
      have c3b0 : decide (a0 < 0) = false := decide_eq_false c3
      clear c3
      have H' := Aside0.mk H
      clear H
      go_enter Tryd.func14, Tryd.ntmps14
      go_wp2
      go_loopg [0, 3] k (fun kq v0 v3 w' => ∃ (x0_1 : Int) (x3_1 : ByteArray), v0 = .int .i64 x0_1 ∧ v3 = .string x3_1 ∧ Aside0 (umlautref1_Text.l0 kq x0_1 x3_1 = some r) ∧ Aside0 (kq ≤ k) ∧ Drawn0 w w')
      case atStart => exact ⟨(a0), ((⟨#[]⟩ : ByteArray)), (by first | rfl | (simp; done) | (simp [*]; done)), (by first | rfl | (simp; done) | (simp [*]; done)), H', ⟨Nat.le_refl _⟩, by repeat (first | exact Drawn0.refl _ | apply Drawn0.step)⟩
      case round =>
        clear H'
        try clear c1
        try clear c2
        try clear c2b0
        try clear c2b1
        try clear p2
        try clear c3
        try clear c3b0
        try clear c5
        try clear c5b0
        try clear c5b1
        try clear c5b2
        obtain ⟨x0_1, x3_1, rfl, rfl, HA, HK1, ⟨m1, rfl⟩⟩ := hrel
        cases gk with
        | zero => exact absurd HA.out (by simp [umlautref1_Text.l0])
        | succ k1 =>
          have H := HA.out
          clear HA
          simp only [umlautref1_Text.l0] at H
          by_cases c6 : x0_1 > 9
          · rw [if_pos c6] at H
            have c6b0 : decide (9 < x0_1) = true := decide_eq_true c6
            clear c6
            obtain ⟨ji7, hji7⟩ : ∃ j_ : Int, (Int.tmod x0_1 10) = j_ := ⟨_, rfl⟩
            replace H : (if 0 ≤ (ji7) then (if (ji7) ≤ (wrap64 ((ji7) + 1)) then (if (wrap64 ((ji7) + 1)) ≤ 10 then (if ((⟨#[48, 49, 50, 51, 52, 53, 54, 55, 56, 57]⟩ : ByteArray).extract ((ji7) : Int).toNat ((wrap64 ((ji7) + 1)) : Int).toNat).size + x3_1.size ≤ 9223372036854775807 then (umlautref1_Text.l0 k1 (wrap64 (Int.tdiv x0_1 10)) (((⟨#[48, 49, 50, 51, 52, 53, 54, 55, 56, 57]⟩ : ByteArray).extract ((ji7) : Int).toNat ((wrap64 ((ji7) + 1)) : Int).toNat) ++ x3_1)) else (none)) else (none)) else (none)) else (none)) = some r := by first | (rw [hji7] at H; exact H) | (simp only [hji7] at H ⊢; exact H)
            by_cases c8 : 0 ≤ (ji7)
            · rw [if_pos c8] at H
              have c8b0 := eq_true c8
              have c8b1 : decide (0 ≤ (ji7)) = true := decide_eq_true c8
              clear c8
              by_cases c9 : (ji7) ≤ (wrap64 ((ji7) + 1))
              · rw [if_pos c9] at H
                have c9b0 := eq_true c9
                have c9b1 : decide ((ji7) ≤ (wrap64 ((ji7) + 1))) = true := decide_eq_true c9
                by_cases c10 : (wrap64 ((ji7) + 1)) ≤ 10
                · rw [if_pos c10] at H
                  have c10b0 := eq_true c10
                  have c10b1 : decide ((wrap64 ((ji7) + 1)) ≤ 10) = true := decide_eq_true c10
                  by_cases c11 : ((⟨#[48, 49, 50, 51, 52, 53, 54, 55, 56, 57]⟩ : ByteArray).extract ((ji7) : Int).toNat ((wrap64 ((ji7) + 1)) : Int).toNat).size + x3_1.size ≤ 9223372036854775807
                  · rw [if_pos c11] at H
                    have c11b0 := eq_true c11
                    have c11b1 : decide (((⟨#[48, 49, 50, 51, 52, 53, 54, 55, 56, 57]⟩ : ByteArray).extract ((ji7) : Int).toNat ((wrap64 ((ji7) + 1)) : Int).toNat).size + x3_1.size ≤ 9223372036854775807) = true := decide_eq_true c11
                    try have c11b2 : (9223372036854775807 < ((⟨#[48, 49, 50, 51, 52, 53, 54, 55, 56, 57]⟩ : ByteArray).extract ((ji7) : Int).toNat ((wrap64 ((ji7) + 1)) : Int).toNat).size + x3_1.size) = False := eq_false (Nat.not_lt.2 c11)
                    have H' := Aside0.mk H
                    clear H
                    go_wp2
                    go_roundg k1
                    case measure => have := HK1.out; omega
                    case rel => exact ⟨(wrap64 (Int.tdiv x0_1 10)), (((⟨#[48, 49, 50, 51, 52, 53, 54, 55, 56, 57]⟩ : ByteArray).extract ((ji7) : Int).toNat ((wrap64 ((ji7) + 1)) : Int).toNat) ++ x3_1), (by first | rfl | (simp; done) | (simp [*]; done)), (by first | rfl | (simp; done) | (simp only [← hji7] <;> (first | rfl | simp)) | (simp [*]; done)), H', ⟨by have := HK1.out; omega⟩, by repeat (first | exact Drawn0.refl _ | apply Drawn0.step)⟩
                  · rw [if_neg c11] at H
                    exact absurd H (by simp)
                · rw [if_neg c10] at H
                  exact absurd H (by simp)
              · rw [if_neg c9] at H
                exact absurd H (by simp)
            · rw [if_neg c8] at H
              exact absurd H (by simp)
          · rw [if_neg c6] at H
            have c6b0 : decide (9 < x0_1) = false := decide_eq_false c6
            clear c6
            by_cases c12 : 0 ≤ x0_1
            · rw [if_pos c12] at H
              have c12b0 := eq_true c12
              have c12b1 : decide (0 ≤ x0_1) = true := decide_eq_true c12
              clear c12
              by_cases c13 : x0_1 ≤ (wrap64 (x0_1 + 1))
              · rw [if_pos c13] at H
                have c13b0 := eq_true c13
                have c13b1 : decide (x0_1 ≤ (wrap64 (x0_1 + 1))) = true := decide_eq_true c13
                by_cases c14 : (wrap64 (x0_1 + 1)) ≤ 10
                · rw [if_pos c14] at H
                  have c14b0 := eq_true c14
                  have c14b1 : decide ((wrap64 (x0_1 + 1)) ≤ 10) = true := decide_eq_true c14
                  by_cases c15 : ((⟨#[48, 49, 50, 51, 52, 53, 54, 55, 56, 57]⟩ : ByteArray).extract (x0_1 : Int).toNat ((wrap64 (x0_1 + 1)) : Int).toNat).size + x3_1.size ≤ 9223372036854775807
                  · rw [if_pos c15] at H
                    have c15b0 := eq_true c15
                    have c15b1 : decide (((⟨#[48, 49, 50, 51, 52, 53, 54, 55, 56, 57]⟩ : ByteArray).extract (x0_1 : Int).toNat ((wrap64 (x0_1 + 1)) : Int).toNat).size + x3_1.size ≤ 9223372036854775807) = true := decide_eq_true c15
                    try have c15b2 : (9223372036854775807 < ((⟨#[48, 49, 50, 51, 52, 53, 54, 55, 56, 57]⟩ : ByteArray).extract (x0_1 : Int).toNat ((wrap64 (x0_1 + 1)) : Int).toNat).size + x3_1.size) = False := eq_false (Nat.not_lt.2 c15)
                    obtain rfl := Option.some.inj H
                    go_wp2
                    go_ret
                    exact ⟨by first | rfl | (simp; done) | (simp [*]; done), by repeat (first | exact Drawn0.refl _ | apply Drawn0.step)⟩
                  · rw [if_neg c15] at H
                    exact absurd H (by simp)
                · rw [if_neg c14] at H
                  exact absurd H (by simp)
              · rw [if_neg c13] at H
                exact absurd H (by simp)
            · rw [if_neg c12] at H
              exact absurd H (by simp)

end Go.Proofs.YtobhcpfdgfkeiaaDoor.Lx

namespace Go.Proofs.YtobhcpfdgfkeiaaDoor.Lx
open Go.RowKit Go.Proofs.YtobhcpfdgfkeiaaDoorW.PrintWords Go.Proofs.YtobhcpfdgfkeiaaDoorW.PrintLast Go.Proofs.YtobhcpfdgfkeiaaDoorW.PrintMore Go.Proofs.YtobhcpfdgfkeiaaDoor.Lf Go.Proofs.YtobhcpfdgfkeiaaDoor.Ext
attribute [local go_sem] max2_int min2_int max_two min_two max_three min_three max_four min_four   -- for this text's walks alone
set_option linter.unusedVariables false
set_option linter.unusedSimpArgs false

/-! ### umlautlaw17_LexInts: function 8 -/
mutual
def umlautlaw17_LexInts.j0 : Nat → Int → Int → Int → Option (Bool)
  | 0, _, _, _ => none
  | k + 1, x0, x1, x2 => (umlautref1_Text.f k x0).bind fun t281 => (umlautlaw17_LexInts.l0 k x0 x1 x2 t281 0)
def umlautlaw17_LexInts.l0 : Nat → Int → Int → Int → ByteArray → Int → Option (Bool)
  | 0, _, _, _, _, _ => none
  | k + 1, x0, x1, x2, x7, x8 => if x8 < (Go.bits .and .i64 x1 7) then (if 1 + x7.size ≤ 9223372036854775807 then (umlautlaw17_LexInts.l0 k x0 x1 x2 ((⟨#[48]⟩ : ByteArray) ++ x7) (wrap64 (x8 + 1))) else (none)) else ((lex_Tokens.f k x7).bind fun bt282 => ((some (([(48 + ((wrap64 (Int.tmod x2 10)) % 256)) % 256] : List Int) : List Int)).bind fun y287 => (if x7.size + (strOfNums y287).size ≤ 9223372036854775807 then ((lex_Tokens.f k (x7 ++ (strOfNums y287))).bind fun bt290 => (if bt282.2.2 = 0 then (if (bt282.1.length : Int) = 1 then (if 0 < (bt282.1.length : Int) then (if ((rd_T28 bt282.1 0).f0) = 3 then (umlautlaw17_LexInts.j2 k x0 (wrap64 (Int.tmod x2 10)) bt290.1 bt290.2.1 bt290.2.2 (((rd_T28 bt282.1 0).f2) != x0)) else (umlautlaw17_LexInts.j2 k x0 (wrap64 (Int.tmod x2 10)) bt290.1 bt290.2.1 bt290.2.2 true)) else (none)) else (umlautlaw17_LexInts.j2 k x0 (wrap64 (Int.tmod x2 10)) bt290.1 bt290.2.1 bt290.2.2 true)) else (umlautlaw17_LexInts.j2 k x0 (wrap64 (Int.tmod x2 10)) bt290.1 bt290.2.1 bt290.2.2 true))) else (none))))
def umlautlaw17_LexInts.j2 : Nat → Int → Int → List (S28) → Int → Int → Bool → Option (Bool)
  | 0, _, _, _, _, _, _ => none
  | k + 1, x0, x12, x14, x15, x16, x79 => if x79 = true then (some false) else ((umlautref1_Mul.f k x0 10).bind fun bt297 => ((umlautref1_Add.f bt297.1 x12).bind fun bt299 => (if bt297.2 = 0 then (umlautlaw17_LexInts.j3 k x14 x15 x16 bt299.1 (bt299.2 != 0)) else (umlautlaw17_LexInts.j3 k x14 x15 x16 bt299.1 true))))
def umlautlaw17_LexInts.j3 : Nat → List (S28) → Int → Int → Int → Bool → Option (Bool)
  | 0, _, _, _, _, _ => none
  | k + 1, x14, x15, x16, x19, x96 => if x96 = true then (if x16 = 10 then (if x15 = 0 then (if (x14.length : Int) = 0 then ((umlautlaw17_awake.f k).bind fun t301 => (some t301)) else (some false)) else (some false)) else (some false)) else (if x16 = 0 then (if (x14.length : Int) = 1 then (if 0 < (x14.length : Int) then (if ((rd_T28 x14 0).f2) = x19 then ((umlautlaw17_awake.f k).bind fun t303 => (some t303)) else (some false)) else (none)) else (some false)) else (some false))
end
def umlautlaw17_LexInts.f (k : Nat) (a0 : Int) (a1 : Int) (a2 : Int) : Option (Bool) := if a0 < 0 then (umlautlaw17_LexInts.j0 k (wrap64 (-(wrap64 (a0 + 1)))) a1 a2) else (umlautlaw17_LexInts.j0 k a0 a1 a2)
theorem umlautlaw17_LexInts.mono_l : ∀ k, (∀ y0 y1 y2, LeO (umlautlaw17_LexInts.j0 k y0 y1 y2) (umlautlaw17_LexInts.j0 (k + 1) y0 y1 y2)) ∧ (∀ y0 y1 y2 y3 y4, LeO (umlautlaw17_LexInts.l0 k y0 y1 y2 y3 y4) (umlautlaw17_LexInts.l0 (k + 1) y0 y1 y2 y3 y4)) ∧ (∀ y0 y1 y2 y3 y4 y5, LeO (umlautlaw17_LexInts.j2 k y0 y1 y2 y3 y4 y5) (umlautlaw17_LexInts.j2 (k + 1) y0 y1 y2 y3 y4 y5)) ∧ (∀ y0 y1 y2 y3 y4, LeO (umlautlaw17_LexInts.j3 k y0 y1 y2 y3 y4) (umlautlaw17_LexInts.j3 (k + 1) y0 y1 y2 y3 y4))
  | 0 => ⟨fun _ _ _ r h => by simp [umlautlaw17_LexInts.j0] at h, fun _ _ _ _ _ r h => by simp [umlautlaw17_LexInts.l0] at h, fun _ _ _ _ _ _ r h => by simp [umlautlaw17_LexInts.j2] at h, fun _ _ _ _ _ r h => by simp [umlautlaw17_LexInts.j3] at h⟩
  | k + 1 => by
    obtain ⟨ih0, ih1, ih2, ih3⟩ := umlautlaw17_LexInts.mono_l k
    refine ⟨?_, ?_, ?_, ?_⟩
    · intro y0 y1 y2
      unfold umlautlaw17_LexInts.j0
      repeat' first
      | (with_reducible exact ih0 _ _ _)
      | (with_reducible exact ih1 _ _ _ _ _)
      | (with_reducible exact ih2 _ _ _ _ _ _)
      | (with_reducible exact ih3 _ _ _ _ _)
      | (with_reducible exact lex_Tokens.mono _ _)
      | (with_reducible exact umlautlaw17_awake.mono _)
      | (with_reducible exact umlautref1_Mul.mono _ _ _)
      | (with_reducible exact umlautref1_Text.mono _ _)
      | (with_reducible exact LeO.refl _)
      | (with_reducible exact LeO.none _)
      | (with_reducible refine LeO.ite ?_ ?_)
      | (with_reducible refine LeO.bind ?_ (fun _ => ?_))
      | exact ih0 _ _ _
      | exact ih1 _ _ _ _ _
      | exact ih2 _ _ _ _ _ _
      | exact ih3 _ _ _ _ _
      | exact lex_Tokens.mono _ _
      | exact umlautlaw17_awake.mono _
      | exact umlautref1_Mul.mono _ _ _
      | exact umlautref1_Text.mono _ _
      | exact LeO.none _
      | refine LeO.ite ?_ ?_
      | refine LeO.bind ?_ (fun _ => ?_)
    · intro y0 y1 y2 y3 y4
      unfold umlautlaw17_LexInts.l0
      repeat' first
      | (with_reducible exact ih0 _ _ _)
      | (with_reducible exact ih1 _ _ _ _ _)
      | (with_reducible exact ih2 _ _ _ _ _ _)
      | (with_reducible exact ih3 _ _ _ _ _)
      | (with_reducible exact lex_Tokens.mono _ _)
      | (with_reducible exact umlautlaw17_awake.mono _)
      | (with_reducible exact umlautref1_Mul.mono _ _ _)
      | (with_reducible exact umlautref1_Text.mono _ _)
      | (with_reducible exact LeO.refl _)
      | (with_reducible exact LeO.none _)
      | (with_reducible refine LeO.ite ?_ ?_)
      | (with_reducible refine LeO.bind ?_ (fun _ => ?_))
      | exact ih0 _ _ _
      | exact ih1 _ _ _ _ _
      | exact ih2 _ _ _ _ _ _
      | exact ih3 _ _ _ _ _
      | exact lex_Tokens.mono _ _
      | exact umlautlaw17_awake.mono _
      | exact umlautref1_Mul.mono _ _ _
      | exact umlautref1_Text.mono _ _
      | exact LeO.none _
      | refine LeO.ite ?_ ?_
      | refine LeO.bind ?_ (fun _ => ?_)
    · intro y0 y1 y2 y3 y4 y5
      unfold umlautlaw17_LexInts.j2
      repeat' first
      | (with_reducible exact ih0 _ _ _)
      | (with_reducible exact ih1 _ _ _ _ _)
      | (with_reducible exact ih2 _ _ _ _ _ _)
      | (with_reducible exact ih3 _ _ _ _ _)
      | (with_reducible exact lex_Tokens.mono _ _)
      | (with_reducible exact umlautlaw17_awake.mono _)
      | (with_reducible exact umlautref1_Mul.mono _ _ _)
      | (with_reducible exact umlautref1_Text.mono _ _)
      | (with_reducible exact LeO.refl _)
      | (with_reducible exact LeO.none _)
      | (with_reducible refine LeO.ite ?_ ?_)
      | (with_reducible refine LeO.bind ?_ (fun _ => ?_))
      | exact ih0 _ _ _
      | exact ih1 _ _ _ _ _
      | exact ih2 _ _ _ _ _ _
      | exact ih3 _ _ _ _ _
      | exact lex_Tokens.mono _ _
      | exact umlautlaw17_awake.mono _
      | exact umlautref1_Mul.mono _ _ _
      | exact umlautref1_Text.mono _ _
      | exact LeO.none _
      | refine LeO.ite ?_ ?_
      | refine LeO.bind ?_ (fun _ => ?_)
    · intro y0 y1 y2 y3 y4
      unfold umlautlaw17_LexInts.j3
      repeat' first
      | (with_reducible exact ih0 _ _ _)
      | (with_reducible exact ih1 _ _ _ _ _)
      | (with_reducible exact ih2 _ _ _ _ _ _)
      | (with_reducible exact ih3 _ _ _ _ _)
      | (with_reducible exact lex_Tokens.mono _ _)
      | (with_reducible exact umlautlaw17_awake.mono _)
      | (with_reducible exact umlautref1_Mul.mono _ _ _)
      | (with_reducible exact umlautref1_Text.mono _ _)
      | (with_reducible exact LeO.refl _)
      | (with_reducible exact LeO.none _)
      | (with_reducible refine LeO.ite ?_ ?_)
      | (with_reducible refine LeO.bind ?_ (fun _ => ?_))
      | exact ih0 _ _ _
      | exact ih1 _ _ _ _ _
      | exact ih2 _ _ _ _ _ _
      | exact ih3 _ _ _ _ _
      | exact lex_Tokens.mono _ _
      | exact umlautlaw17_awake.mono _
      | exact umlautref1_Mul.mono _ _ _
      | exact umlautref1_Text.mono _ _
      | exact LeO.none _
      | refine LeO.ite ?_ ?_
      | refine LeO.bind ?_ (fun _ => ?_)
theorem umlautlaw17_LexInts.mono : ∀ a0 a1 a2 k, LeO (umlautlaw17_LexInts.f k a0 a1 a2) (umlautlaw17_LexInts.f (k + 1) a0 a1 a2) := by
  intro a0 a1 a2 k
  obtain ⟨ih0, ih1, ih2, ih3⟩ := umlautlaw17_LexInts.mono_l k
  unfold umlautlaw17_LexInts.f
  repeat' first
      | (with_reducible exact ih0 _ _ _)
      | (with_reducible exact ih1 _ _ _ _ _)
      | (with_reducible exact ih2 _ _ _ _ _ _)
      | (with_reducible exact ih3 _ _ _ _ _)
      | (with_reducible exact lex_Tokens.mono _ _)
      | (with_reducible exact umlautlaw17_awake.mono _)
      | (with_reducible exact umlautref1_Mul.mono _ _ _)
      | (with_reducible exact umlautref1_Text.mono _ _)
      | (with_reducible exact LeO.refl _)
      | (with_reducible exact LeO.none _)
      | (with_reducible refine LeO.ite ?_ ?_)
      | (with_reducible refine LeO.bind ?_ (fun _ => ?_))
      | exact ih0 _ _ _
      | exact ih1 _ _ _ _ _
      | exact ih2 _ _ _ _ _ _
      | exact ih3 _ _ _ _ _
      | exact lex_Tokens.mono _ _
      | exact umlautlaw17_awake.mono _
      | exact umlautref1_Mul.mono _ _ _
      | exact umlautref1_Text.mono _ _
      | exact LeO.none _
      | refine LeO.ite ?_ ?_
      | refine LeO.bind ?_ (fun _ => ?_)
end Go.Proofs.YtobhcpfdgfkeiaaDoor.Lx

namespace Go.Proofs.YtobhcpfdgfkeiaaDoor.Lx
open Go.RowKit Go.Proofs.YtobhcpfdgfkeiaaDoorW.PrintWords Go.Proofs.YtobhcpfdgfkeiaaDoorW.PrintLast Go.Proofs.YtobhcpfdgfkeiaaDoorW.PrintMore Go.Proofs.YtobhcpfdgfkeiaaDoor.Lf Go.Proofs.YtobhcpfdgfkeiaaDoor.Ext
attribute [local go_sem] max2_int min2_int max_two min_two max_three min_three max_four min_four   -- for this text's walks alone
set_option linter.unusedVariables false
set_option linter.unusedSimpArgs false

set_option maxHeartbeats 8000000 in
set_option maxRecDepth 100000 in
theorem umlautlaw17_LexInts.calls (k : Nat) (a0 : Int) (a1 : Int) (a2 : Int) (r : Bool) (w : World) (hgw : Wd w) (h : umlautlaw17_LexInts.f k a0 a1 a2 = some r) :
    Calls Tryd.prog 8 #[.int .i64 a0, .int .i64 a1, .int .u8 a2] w fun e w' => e = .returned (.bool r) ∧ Below w.heap.size w w' := by
  have HB := Aside0.mk (Below.refl w.heap.size w)
  have H : (if a0 < 0 then (umlautlaw17_LexInts.j0 k (wrap64 (-(wrap64 (a0 + 1)))) a1 a2) else (umlautlaw17_LexInts.j0 k a0 a1 a2)) = some r := h
  clear h
  have HC4 := Aside0.mk H
  clear H
  go_enter Tryd.func8, Tryd.ntmps8
  go_upto_if 22 with (fail)
  go_cut [0] (fun v0 wc => ∃ (kq : Nat) (x0_3 : Int), v0 = .int .i64 x0_3 ∧ Aside0 (umlautlaw17_LexInts.j0 kq x0_3 a1 a2 = some r) ∧ Aside0 (kq ≤ k) ∧ Aside0 (Below w.heap.size w wc))
  case first =>
    have H := HC4.out
    clear HC4
    by_cases c5 : a0 < 0
    · rw [if_pos c5] at H
      have c5b0 : decide (a0 < 0) = true := decide_eq_true c5
      clear c5
      (first | rw [c5b0] | (simp only [i64_w, i32_w]; rw [c5b0]) | skip)
      have H' := Aside0.mk H
      clear H
      go_wp2
      go_meet
      case rel => exact ⟨_, (wrap64 (-(wrap64 (a0 + 1)))), (by first | rfl | (simp; done) | (simp [*]; done)), H', ⟨by first | omega | exact Nat.le_refl _⟩, ⟨by repeat (first | (with_reducible first | exact HB.out | apply below_alloc | apply pw_below_drewN | apply below_drew1) | exact HB.out)⟩⟩
    · rw [if_neg c5] at H
      have c5b0 : decide (a0 < 0) = false := decide_eq_false c5
      clear c5
      (first | rw [c5b0] | (simp only [i64_w, i32_w]; rw [c5b0]) | skip)
      have H' := Aside0.mk H
      clear H
      go_wp2
      go_meet
      case rel => exact ⟨_, (a0), (by first | rfl | (simp; done) | (simp [*]; done)), H', ⟨by first | omega | exact Nat.le_refl _⟩, ⟨by repeat (first | (with_reducible first | exact HB.out | apply below_alloc | apply pw_below_drewN | apply below_drew1) | exact HB.out)⟩⟩
  case rest =>
    clear HC4
    try clear p2
    try clear c5
    try clear c5b0
    obtain ⟨kq, x0_3, rfl, HA, HJ3, HB⟩ := hcut
    cases kq with
    | zero => exact absurd HA.out (by simp [umlautlaw17_LexInts.j0])
    | succ kj3 =>
      have H := HA.out
      clear HA
      simp only [umlautlaw17_LexInts.j0] at H
      replace H := Option.bind_eq_some_iff.mp H
      obtain ⟨t281, A60, H⟩ := H
      replace H : (umlautlaw17_LexInts.l0 kj3 x0_3 a1 a2 t281 0) = some r := H
      have A6 := Aside0.mk A60
      clear A60
      have H' := Aside0.mk H
      clear H
      go_wp2_with (first | ((with_reducible refine gate_callee (f := 14) rfl ?_); refine goesL_ (some 27) rfl rfl Tryd.func14 (by kernel_rfl) rfl #[.int .i64 x0_3] rfl (by (try simp only [List.map_toArray, List.map_cons, List.map_nil]); first | done | rfl | (simp only [List.length_drop, List.length_take]; rfl)) ?_; (with_reducible refine (umlautref1_Text.calls kj3 x0_3 t281 _ A6.out).mono ?_); rintro e w' ⟨rfl, ⟨nd, rfl⟩⟩; refine ⟨_, rfl, ?_⟩))
      go_loopg [7, 8] kj3 (fun kq v7 v8 w' => ∃ (x7_2 : ByteArray) (x8_2 : Int), v7 = .string x7_2 ∧ v8 = .int .i64 x8_2 ∧ Aside0 (umlautlaw17_LexInts.l0 kq x0_3 a1 a2 x7_2 x8_2 = some r) ∧ Aside0 (kq ≤ kj3) ∧ Aside0 (Below w.heap.size w w'))
      case atStart => exact ⟨(t281), (0), (by first | rfl | (simp; done) | (simp [*]; done)), (by first | rfl | (simp; done) | (simp [*]; done)), H', ⟨Nat.le_refl _⟩, ⟨by repeat (first | (with_reducible first | exact HB.out | apply below_alloc | apply pw_below_drewN | apply below_drew1) | exact HB.out)⟩⟩
      case round =>
        clear H'
        try clear c1
        try clear p2
        try clear c5
        try clear c5b0
        try clear p6
        try clear p2
        obtain ⟨x7_2, x8_2, rfl, rfl, HA, HK2, HB⟩ := hrel
        cases gk with
        | zero => exact absurd HA.out (by simp [umlautlaw17_LexInts.l0])
        | succ k2 =>
          have H := HA.out
          clear HA
          simp only [umlautlaw17_LexInts.l0] at H
          by_cases c7 : x8_2 < (Go.bits .and .i64 a1 7)
          · rw [if_pos c7] at H
            have c7b0 : decide (x8_2 < (Go.bits .and .i64 a1 7)) = true := decide_eq_true c7
            clear c7
            by_cases c8 : 1 + x7_2.size ≤ 9223372036854775807
            · rw [if_pos c8] at H
              have c8b0 := eq_true c8
              have c8b1 : decide (1 + x7_2.size ≤ 9223372036854775807) = true := decide_eq_true c8
              try have c8b2 : (9223372036854775807 < 1 + x7_2.size) = False := eq_false (Nat.not_lt.2 c8)
              have H' := Aside0.mk H
              clear H
              go_wp2
              go_roundg k2
              case measure => have := HJ3.out; have := HK2.out; omega
              case rel => exact ⟨((⟨#[48]⟩ : ByteArray) ++ x7_2), (wrap64 (x8_2 + 1)), (by first | rfl | (simp; done) | (simp [*]; done)), (by first | rfl | (simp; done) | (simp [*]; done)), H', ⟨by have := HJ3.out; have := HK2.out; omega⟩, ⟨by repeat (first | (with_reducible first | exact HB.out | apply below_alloc | apply pw_below_drewN | apply below_drew1) | exact HB.out)⟩⟩
            · rw [if_neg c8] at H
              exact absurd H (by simp)
          · rw [if_neg c7] at H
            have c7b0 : decide (x8_2 < (Go.bits .and .i64 a1 7)) = false := decide_eq_false c7
            clear c7
            replace H := Option.bind_eq_some_iff.mp H
            obtain ⟨⟨t282, t283, t284⟩, A90, H⟩ := H
            replace H : ((some (([(48 + ((wrap64 (Int.tmod a2 10)) % 256)) % 256] : List Int) : List Int)).bind fun y287 => (if x7_2.size + (strOfNums y287).size ≤ 9223372036854775807 then ((lex_Tokens.f k2 (x7_2 ++ (strOfNums y287))).bind fun bt290 => (if t284 = 0 then (if (t282.length : Int) = 1 then (if 0 < (t282.length : Int) then (if ((rd_T28 t282 0).f0) = 3 then (umlautlaw17_LexInts.j2 k2 x0_3 (wrap64 (Int.tmod a2 10)) bt290.1 bt290.2.1 bt290.2.2 (((rd_T28 t282 0).f2) != x0_3)) else (umlautlaw17_LexInts.j2 k2 x0_3 (wrap64 (Int.tmod a2 10)) bt290.1 bt290.2.1 bt290.2.2 true)) else (none)) else (umlautlaw17_LexInts.j2 k2 x0_3 (wrap64 (Int.tmod a2 10)) bt290.1 bt290.2.1 bt290.2.2 true)) else (umlautlaw17_LexInts.j2 k2 x0_3 (wrap64 (Int.tmod a2 10)) bt290.1 bt290.2.1 bt290.2.2 true))) else (none))) = some r := H
            have A9 := Aside0.mk A90
            clear A90
            obtain ⟨y287, hy287⟩ : ∃ y_ : List Int, y_ = (([(48 + ((wrap64 (Int.tmod a2 10)) % 256)) % 256] : List Int)) := ⟨_, rfl⟩
            replace H : (if x7_2.size + (strOfNums y287).size ≤ 9223372036854775807 then ((lex_Tokens.f k2 (x7_2 ++ (strOfNums y287))).bind fun bt290 => (if t284 = 0 then (if (t282.length : Int) = 1 then (if 0 < (t282.length : Int) then (if ((rd_T28 t282 0).f0) = 3 then (umlautlaw17_LexInts.j2 k2 x0_3 (wrap64 (Int.tmod a2 10)) bt290.1 bt290.2.1 bt290.2.2 (((rd_T28 t282 0).f2) != x0_3)) else (umlautlaw17_LexInts.j2 k2 x0_3 (wrap64 (Int.tmod a2 10)) bt290.1 bt290.2.1 bt290.2.2 true)) else (none)) else (umlautlaw17_LexInts.j2 k2 x0_3 (wrap64 (Int.tmod a2 10)) bt290.1 bt290.2.1 bt290.2.2 true)) else (umlautlaw17_LexInts.j2 k2 x0_3 (wrap64 (Int.tmod a2 10)) bt290.1 bt290.2.1 bt290.2.2 true))) else (none)) = some r := by first | (rw [hy287]; with_reducible exact H) | (have H2_ := (Option.bind_some _ _).symm.trans H; rw [hy287]; with_reducible exact H2_) | (have H2_ := (Option.bind_some _ _).symm.trans H; with_reducible exact H2_) | with_reducible exact H | (rw [hy287]; exact H) | exact H
            have Ny287 := Aside0.mk hy287
            clear hy287
            by_cases c10 : x7_2.size + (strOfNums y287).size ≤ 9223372036854775807
            · rw [if_pos c10] at H
              have c10b0 := eq_true c10
              have c10b1 : decide (x7_2.size + (strOfNums y287).size ≤ 9223372036854775807) = true := decide_eq_true c10
              try have c10b2 : (9223372036854775807 < x7_2.size + (strOfNums y287).size) = False := eq_false (Nat.not_lt.2 c10)
              replace H := Option.bind_eq_some_iff.mp H
              obtain ⟨⟨t290, t291, t292⟩, A110, H⟩ := H
              replace H : (if t284 = 0 then (if (t282.length : Int) = 1 then (if 0 < (t282.length : Int) then (if ((rd_T28 t282 0).f0) = 3 then (umlautlaw17_LexInts.j2 k2 x0_3 (wrap64 (Int.tmod a2 10)) t290 t291 t292 (((rd_T28 t282 0).f2) != x0_3)) else (umlautlaw17_LexInts.j2 k2 x0_3 (wrap64 (Int.tmod a2 10)) t290 t291 t292 true)) else (none)) else (umlautlaw17_LexInts.j2 k2 x0_3 (wrap64 (Int.tmod a2 10)) t290 t291 t292 true)) else (umlautlaw17_LexInts.j2 k2 x0_3 (wrap64 (Int.tmod a2 10)) t290 t291 t292 true)) = some r := H
              have A11 := Aside0.mk A110
              clear A110
              have HC12 := Aside0.mk H
              clear H
              go_upto_region 12 with (first | ((with_reducible refine gate_callee (f := 10) rfl ?_); refine goesL_ (some 38) rfl rfl Tryd.func10 (by kernel_rfl) rfl #[.string x7_2] rfl (by (try simp only [List.map_toArray, List.map_cons, List.map_nil]); first | done | rfl | (simp only [List.length_drop, List.length_take]; rfl)) ?_; (with_reducible refine (lex_Tokens.calls k2 x7_2 t282 t283 t284 _ ?hwd44 A9.out).mono ?_); (case hwd44 => exact Wd.below hgw (by repeat (first | (with_reducible first | exact HB.out | apply below_alloc | apply pw_below_drewN | apply below_drew1) | exact HB.out))); rintro e w13 ⟨v285, rfl, ho0, hb⟩; refine ⟨_, rfl, ?_⟩; have n0_ := Aside0.mk (Kd.R_lower ho0 (below_size (by repeat (first | (with_reducible first | exact HB.out | apply below_alloc | apply pw_below_drewN | apply below_drew1) | exact HB.out)))); have n1_ := Aside0.mk (below_step (by repeat (first | (with_reducible first | exact HB.out | apply below_alloc | apply pw_below_drewN | apply below_drew1) | exact HB.out)) hb); clear HB; have HO286 := n0_; have HB := n1_; clear n0_ n1_; (try clear hb); (try clear hb2); (try clear hk); (try clear hi); (try clear ho0)) | ((with_reducible refine gate_dst (N := 49) rfl ?_); (try (refine gate_guard (by rfl) ?_; dsimp only)); refine Kd.R_lit (Kd.int .u8) _ 5 ?hg (N := 49) ?hd (xs := ([(48 + ((wrap64 (Int.tmod a2 10)) % 256)) % 256] : List Int)) (inner := [.int .u8 ((48 + ((wrap64 (Int.tmod a2 10)) % 256)) % 256)]) (ok := fun _ => True) (okp := fun _ => True) ?hr ?hp (fun _ hk => hk) trivial (Below.refl _ _) (Nat.le_refl _) (by simp) ?_; (case hd => rfl); (case hg => rfl); (case hr => first | (go_simp; done) | (go_simp; rfl)); (case hp => exact (Reps.one (show Kd.M (Kd.int .u8) _ _ _ ((48 + ((wrap64 (Int.tmod a2 10)) % 256)) % 256) [.int .u8 ((48 + ((wrap64 (Int.tmod a2 10)) % 256)) % 256)] from rfl) (Reps.none _ _))); intro v288 w14 ho15 hb hg_ hnew_; clear hg_ hnew_; (first | rw [← Ny287.out] at ho15 | (simp only [Int.reduceToNat] at ho15; rw [← Ny287.out] at ho15)); have n0_ := Aside0.mk (Kd.R_below (by (with_reducible repeat (first | apply Kd.R_alloc | apply Kd.R_drewN | apply Kd.R_drew)); exact HO286.out) hb); have n1_ := Aside0.mk (Kd.R_lower ho15 (below_size (by repeat (first | (with_reducible first | exact HB.out | apply below_alloc | apply pw_below_drewN | apply below_drew1) | exact HB.out)))); have n2_ := Aside0.mk (below_step (by repeat (first | (with_reducible first | exact HB.out | apply below_alloc | apply pw_below_drewN | apply below_drew1) | exact HB.out)) hb); clear HO286; clear HB; have HO286 := n0_; have HO289 := n1_; have HB := n2_; clear n0_ n1_ n2_; clear hb ho15; have hcv16 := own_string (P := Tryd.prog) Tryd.underlying39 Tryd.underlying5 Tryd.underlying9 (Kd.own_of_R HO289.out)) | ((with_reducible refine gate_callee (f := 10) rfl ?_); refine goesL_ (some 54) rfl rfl Tryd.func10 (by kernel_rfl) rfl #[.string (x7_2 ++ (strOfNums y287))] rfl (by (try simp only [List.map_toArray, List.map_cons, List.map_nil]); first | done | rfl | (simp only [List.length_drop, List.length_take]; rfl)) ?_; (with_reducible refine (lex_Tokens.calls k2 (x7_2 ++ (strOfNums y287)) t290 t291 t292 _ ?hwd45 A11.out).mono ?_); (case hwd45 => exact Wd.below hgw (by repeat (first | (with_reducible first | exact HB.out | apply below_alloc | apply pw_below_drewN | apply below_drew1) | exact HB.out))); rintro e w17 ⟨v293, rfl, ho0, hb⟩; refine ⟨_, rfl, ?_⟩; have n0_ := Aside0.mk (Kd.R_elder' (by (with_reducible repeat (first | apply Kd.R_alloc | apply Kd.R_drewN | apply Kd.R_drew)); exact HO286.out) (Kd.R_base ho0) hb); have n1_ := Aside0.mk (Kd.R_below (by (with_reducible repeat (first | apply Kd.R_alloc | apply Kd.R_drewN | apply Kd.R_drew)); exact HO289.out) hb); have n2_ := Aside0.mk (Kd.R_lower (Kd.R_new' ho0 (Kd.R_lt (by (with_reducible repeat (first | apply Kd.R_alloc | apply Kd.R_drewN | apply Kd.R_drew)); exact HO286.out))) (below_size (by repeat (first | (with_reducible first | exact HB.out | apply below_alloc | apply pw_below_drewN | apply below_drew1) | exact HB.out)))); have n3_ := Aside0.mk (below_step (by repeat (first | (with_reducible first | exact HB.out | apply below_alloc | apply pw_below_drewN | apply below_drew1) | exact HB.out)) hb); clear HO286; clear HO289; clear HB; have HO286 := n0_; have HO289 := n1_; have HO294 := n2_; have HB := n3_; clear n0_ n1_ n2_ n3_; (try clear hb); (try clear hb2); (try clear hk); (try clear hi); (try clear ho0)))
              (try simp only [Act.put, List.setIfInBounds_toArray, List.set_cons_zero, List.set_cons_succ])
              go_cut [79] (fun v79 wc => ∃ (kq : Nat) (x79_11 : Bool), v79 = .bool x79_11 ∧ Aside0 (umlautlaw17_LexInts.j2 kq x0_3 (wrap64 (Int.tmod a2 10)) t290 t291 t292 x79_11 = some r) ∧ Aside0 (kq ≤ k2) ∧ Aside0 (Kd.R k28 28 wc w.heap.size (fun _ => True) v293 t290) ∧ Aside0 (Below w.heap.size w wc))
              case first =>
                have H := HC12.out
                clear HC12
                by_cases c18 : t284 = 0
                · rw [if_pos c18] at H
                  have c18b0 : (t284 == 0) = true := beq_iff_eq.mpr c18
                  have c18b1 : (t284 != 0) = false := bne_eq_false_iff_eq.mpr c18
                  clear c18
                  (first | rw [c18b0] | (simp only [i64_w, i32_w]; rw [c18b0]) | skip)
                  by_cases c19 : (t282.length : Int) = 1
                  · rw [if_pos c19] at H
                    have c19b0 : ((t282.length : Int) == 1) = true := beq_iff_eq.mpr c19
                    have c19b1 : ((t282.length : Int) != 1) = false := bne_eq_false_iff_eq.mpr c19
                    clear c19
                    by_cases c20 : 0 < (t282.length : Int)
                    · rw [if_pos c20] at H
                      have c20b0 : decide (0 < (t282.length : Int)) = true := decide_eq_true c20
                      have c20b1 : decide (0 < t282.length) = true := decide_eq_true (by omega)
                      clear c20
                      by_cases c21 : ((rd_T28 t282 0).f0) = 3
                      · rw [if_pos c21] at H
                        have c21b0 : (((rd_T28 t282 0).f0) == 3) = true := beq_iff_eq.mpr c21
                        have c21b1 : (((rd_T28 t282 0).f0) != 3) = false := bne_eq_false_iff_eq.mpr c21
                        clear c21
                        have H' := Aside0.mk H
                        clear H
                        obtain ⟨Ao22, co22, eo22⟩ := Kd.R_slice HO286.out
                        subst eo22
                        have p295 : 0 ≤ (0 : Int) := (by omega)
                        have q295 : 0 < (t282.length : Int) := of_decide_eq_true (by first | (with_reducible assumption) | assumption)
                        obtain ⟨ad295, e295, hx295_0, hx295_1, hx295_2, hx295_3⟩ := at_T28 (Kd.R_reads' HO286.out).2.2 0 p295 q295
                        cases e295
                        have qi295 : (0 < t282.length) = True := eq_true (by omega)
                        (try rw [show ((0 : Int)).toNat = 0 from rfl] at hx295_0)
                        (try rw [show 0 * 4 = 0 from rfl] at hx295_0)
                        (try rw [Addr.add_zero'] at hx295_0)
                        (try rw [show ((0 : Int)).toNat = 0 from rfl] at hx295_1)
                        (try rw [show 0 * 4 = 0 from rfl] at hx295_1)
                        (try rw [Addr.add_zero'] at hx295_1)
                        (try rw [show ((0 : Int)).toNat = 0 from rfl] at hx295_2)
                        (try rw [show 0 * 4 = 0 from rfl] at hx295_2)
                        (try rw [Addr.add_zero'] at hx295_2)
                        (try rw [show ((0 : Int)).toNat = 0 from rfl] at hx295_3)
                        (try rw [show 0 * 4 = 0 from rfl] at hx295_3)
                        (try rw [Addr.add_zero'] at hx295_3)
                        replace p295 := eq_true p295
                        replace q295 := eq_true q295
                        have p296 : 0 ≤ (0 : Int) := (by omega)
                        have q296 : 0 < (t282.length : Int) := of_decide_eq_true (by first | (with_reducible assumption) | assumption)
                        obtain ⟨ad296, e296, hx296_0, hx296_1, hx296_2, hx296_3⟩ := at_T28 (Kd.R_reads' HO286.out).2.2 0 p296 q296
                        obtain rfl : ad295 = ad296 := (by injection e296)
                        have qi296 : (0 < t282.length) = True := eq_true (by omega)
                        (try rw [show ((0 : Int)).toNat = 0 from rfl] at hx296_0)
                        (try rw [show 0 * 4 = 0 from rfl] at hx296_0)
                        (try rw [Addr.add_zero'] at hx296_0)
                        (try rw [show ((0 : Int)).toNat = 0 from rfl] at hx296_1)
                        (try rw [show 0 * 4 = 0 from rfl] at hx296_1)
                        (try rw [Addr.add_zero'] at hx296_1)
                        (try rw [show ((0 : Int)).toNat = 0 from rfl] at hx296_2)
                        (try rw [show 0 * 4 = 0 from rfl] at hx296_2)
                        (try rw [Addr.add_zero'] at hx296_2)
                        (try rw [show ((0 : Int)).toNat = 0 from rfl] at hx296_3)
                        (try rw [show 0 * 4 = 0 from rfl] at hx296_3)
                        (try rw [Addr.add_zero'] at hx296_3)
                        replace p296 := eq_true p296
                        replace q296 := eq_true q296
                        go_wp2
                        go_meet
                        case rel => exact ⟨_, ((((rd_T28 t282 0).f2) != x0_3)), (by first | rfl | (simp; done) | (simp [*]; done)), H', ⟨by have := HJ3.out; have := HK2.out; first | omega | exact Nat.le_refl _⟩, ⟨by (with_reducible repeat (first | apply Kd.R_alloc | apply Kd.R_drewN | apply Kd.R_drew)); exact Kd.R_mono HO294.out (fun _ hk => trivial)⟩, ⟨by repeat (first | (with_reducible first | exact HB.out | apply below_alloc | apply pw_below_drewN | apply below_drew1) | exact HB.out)⟩⟩
                      · rw [if_neg c21] at H
                        have c21b0 : (((rd_T28 t282 0).f0) == 3) = false := beq_eq_false_iff_ne.mpr c21
                        have c21b1 : (((rd_T28 t282 0).f0) != 3) = true := bne_iff_ne.mpr c21
                        have H' := Aside0.mk H
                        clear H
                        obtain ⟨Ao23, co23, eo23⟩ := Kd.R_slice HO286.out
                        subst eo23
                        have p295 : 0 ≤ (0 : Int) := (by omega)
                        have q295 : 0 < (t282.length : Int) := of_decide_eq_true (by first | (with_reducible assumption) | assumption)
                        obtain ⟨ad295, e295, hx295_0, hx295_1, hx295_2, hx295_3⟩ := at_T28 (Kd.R_reads' HO286.out).2.2 0 p295 q295
                        cases e295
                        have qi295 : (0 < t282.length) = True := eq_true (by omega)
                        (try rw [show ((0 : Int)).toNat = 0 from rfl] at hx295_0)
                        (try rw [show 0 * 4 = 0 from rfl] at hx295_0)
                        (try rw [Addr.add_zero'] at hx295_0)
                        (try rw [show ((0 : Int)).toNat = 0 from rfl] at hx295_1)
                        (try rw [show 0 * 4 = 0 from rfl] at hx295_1)
                        (try rw [Addr.add_zero'] at hx295_1)
                        (try rw [show ((0 : Int)).toNat = 0 from rfl] at hx295_2)
                        (try rw [show 0 * 4 = 0 from rfl] at hx295_2)
                        (try rw [Addr.add_zero'] at hx295_2)
                        (try rw [show ((0 : Int)).toNat = 0 from rfl] at hx295_3)
                        (try rw [show 0 * 4 = 0 from rfl] at hx295_3)
                        (try rw [Addr.add_zero'] at hx295_3)
                        replace p295 := eq_true p295
                        replace q295 := eq_true q295
                        go_wp2
                        go_meet
                        case rel => exact ⟨_, (true), (by first | rfl | (simp; done) | (simp [*]; done)), H', ⟨by have := HJ3.out; have := HK2.out; first | omega | exact Nat.le_refl _⟩, ⟨by (with_reducible repeat (first | apply Kd.R_alloc | apply Kd.R_drewN | apply Kd.R_drew)); exact Kd.R_mono HO294.out (fun _ hk => trivial)⟩, ⟨by repeat (first | (with_reducible first | exact HB.out | apply below_alloc | apply pw_below_drewN | apply below_drew1) | exact HB.out)⟩⟩
                    · rw [if_neg c20] at H
                      exact absurd H (by simp)
                  · rw [if_neg c19] at H
                    have c19b0 : ((t282.length : Int) == 1) = false := beq_eq_false_iff_ne.mpr c19
                    have c19b1 : ((t282.length : Int) != 1) = true := bne_iff_ne.mpr c19
                    have H' := Aside0.mk H
                    clear H
                    obtain ⟨Ao24, co24, eo24⟩ := Kd.R_slice HO286.out
                    subst eo24
                    go_wp2
                    go_meet
                    case rel => exact ⟨_, (true), (by first | rfl | (simp; done) | (simp [*]; done)), H', ⟨by have := HJ3.out; have := HK2.out; first | omega | exact Nat.le_refl _⟩, ⟨by (with_reducible repeat (first | apply Kd.R_alloc | apply Kd.R_drewN | apply Kd.R_drew)); exact Kd.R_mono HO294.out (fun _ hk => trivial)⟩, ⟨by repeat (first | (with_reducible first | exact HB.out | apply below_alloc | apply pw_below_drewN | apply below_drew1) | exact HB.out)⟩⟩
                · rw [if_neg c18] at H
                  have c18b0 : (t284 == 0) = false := beq_eq_false_iff_ne.mpr c18
                  have c18b1 : (t284 != 0) = true := bne_iff_ne.mpr c18
                  (first | rw [c18b0] | (simp only [i64_w, i32_w]; rw [c18b0]) | skip)
                  have H' := Aside0.mk H
                  clear H
                  go_wp2
                  go_meet
                  case rel => exact ⟨_, (true), (by first | rfl | (simp; done) | (simp [*]; done)), H', ⟨by have := HJ3.out; have := HK2.out; first | omega | exact Nat.le_refl _⟩, ⟨by (with_reducible repeat (first | apply Kd.R_alloc | apply Kd.R_drewN | apply Kd.R_drew)); exact Kd.R_mono HO294.out (fun _ hk => trivial)⟩, ⟨by repeat (first | (with_reducible first | exact HB.out | apply below_alloc | apply pw_below_drewN | apply below_drew1) | exact HB.out)⟩⟩
              case rest =>
                clear HC12
                try clear c1
                try clear hcv1
                try clear c2
                try clear p2
                try clear q2
                try clear hx2
                try clear qi2
                try clear c5
                try clear c5b0
                try clear p6
                try clear c7
                try clear c7b0
                try clear c8
                try clear c8b0
                try clear c8b1
                try clear c8b2
                try clear c10
                try clear c10b0
                try clear c10b1
                try clear c10b2
                try clear c14
                try clear hcv16
                try clear c18
                try clear c18b0
                try clear c18b1
                try clear c19
                try clear c19b0
                try clear c19b1
                try clear c20
                try clear c20b0
                try clear c20b1
                try clear c21
                try clear c21b0
                try clear c21b1
                try clear hx295_0
                try clear hx295_1
                try clear hx295_2
                try clear hx295_3
                try clear hx296_0
                try clear hx296_1
                try clear hx296_2
                try clear hx296_3
                try clear p2
                try clear p295
                try clear p296
                try clear p6
                try clear q295
                try clear q296
                obtain ⟨kq, x79_11, rfl, HA, HJ11, HO_14, HB⟩ := hcut
                cases kq with
                | zero => exact absurd HA.out (by simp [umlautlaw17_LexInts.j2])
                | succ kj11 =>
                  have H := HA.out
                  clear HA
                  simp only [umlautlaw17_LexInts.j2] at H
                  by_cases c25 : x79_11 = true
                  · subst c25
                    have H1 : (some false) = some r := by rw [if_pos rfl] at H; exact H
                    clear H
                    have H := H1
                    clear H1
                    obtain rfl := Option.some.inj H
                    go_wp2
                    go_ret
                    exact ⟨by first | rfl | (simp [errW_none, errW_some] <;> rfl) | (simp [*, errW_none, errW_some] <;> rfl), by repeat (first | (with_reducible first | exact HB.out | apply below_alloc | apply pw_below_drewN | apply below_drew1) | exact HB.out)⟩
                  · replace c25 := Bool.eq_false_iff.mpr c25
                    subst c25
                    have H1 : ((umlautref1_Mul.f kj11 x0_3 10).bind fun bt297 => ((umlautref1_Add.f bt297.1 (wrap64 (Int.tmod a2 10))).bind fun bt299 => (if bt297.2 = 0 then (umlautlaw17_LexInts.j3 kj11 t290 t291 t292 bt299.1 (bt299.2 != 0)) else (umlautlaw17_LexInts.j3 kj11 t290 t291 t292 bt299.1 true)))) = some r := by rw [if_neg (show ¬ (false = true) by decide)] at H; exact H
                    clear H
                    have H := H1
                    clear H1
                    replace H := Option.bind_eq_some_iff.mp H
                    obtain ⟨⟨t297, t298⟩, A260, H⟩ := H
                    replace H : ((umlautref1_Add.f t297 (wrap64 (Int.tmod a2 10))).bind fun bt299 => (if t298 = 0 then (umlautlaw17_LexInts.j3 kj11 t290 t291 t292 bt299.1 (bt299.2 != 0)) else (umlautlaw17_LexInts.j3 kj11 t290 t291 t292 bt299.1 true))) = some r := H
                    have A26 := Aside0.mk A260
                    clear A260
                    replace H := Option.bind_eq_some_iff.mp H
                    obtain ⟨⟨t299, t300⟩, A270, H⟩ := H
                    replace H : (if t298 = 0 then (umlautlaw17_LexInts.j3 kj11 t290 t291 t292 t299 (t300 != 0)) else (umlautlaw17_LexInts.j3 kj11 t290 t291 t292 t299 true)) = some r := H
                    have A27 := Aside0.mk A270
                    clear A270
                    have HC28 := Aside0.mk H
                    clear H
                    go_upto_region 16 with (first | ((with_reducible refine gate_callee (f := 15) rfl ?_); refine goesL_ (some 82) rfl rfl Tryd.func15 (by kernel_rfl) rfl #[.int .i64 x0_3, .int .i64 10] rfl (by (try simp only [List.map_toArray, List.map_cons, List.map_nil]); first | done | rfl | (simp only [List.length_drop, List.length_take]; rfl)) ?_; (with_reducible refine (umlautref1_Mul.calls kj11 x0_3 10 t297 t298 _ A26.out).mono ?_); rintro e w' ⟨rfl, ⟨nd, rfl⟩⟩; refine ⟨_, rfl, ?_⟩) | ((with_reducible refine gate_callee (f := 16) rfl ?_); refine goesL_ (some 88) rfl rfl Tryd.func16 (by kernel_rfl) rfl #[.int .i64 t297, .int .i64 (wrap64 (Int.tmod a2 10))] rfl (by (try simp only [List.map_toArray, List.map_cons, List.map_nil]); first | done | rfl | (simp only [List.length_drop, List.length_take]; rfl)) ?_; (with_reducible refine (umlautref1_Add.calls t297 (wrap64 (Int.tmod a2 10)) t299 t300 _ A27.out).mono ?_); rintro e w' ⟨rfl, ⟨nd, rfl⟩⟩; refine ⟨_, rfl, ?_⟩))
                    (try simp only [Act.put, List.setIfInBounds_toArray, List.set_cons_zero, List.set_cons_succ])
                    go_cut [96] (fun v96 wc => ∃ (kq : Nat) (x96_27 : Bool), v96 = .bool x96_27 ∧ Aside0 (umlautlaw17_LexInts.j3 kq t290 t291 t292 t299 x96_27 = some r) ∧ Aside0 (kq ≤ kj11) ∧ Aside0 (Kd.R k28 28 wc w.heap.size (fun _ => True) v293 t290) ∧ Aside0 (Below w.heap.size w wc))
                    case first =>
                      have H := HC28.out
                      clear HC28
                      by_cases c29 : t298 = 0
                      · rw [if_pos c29] at H
                        have c29b0 : (t298 == 0) = true := beq_iff_eq.mpr c29
                        have c29b1 : (t298 != 0) = false := bne_eq_false_iff_eq.mpr c29
                        clear c29
                        (first | rw [c29b0] | (simp only [i64_w, i32_w]; rw [c29b0]) | skip)
                        have H' := Aside0.mk H
                        clear H
                        go_wp2
                        go_meet
                        case rel => exact ⟨_, ((t300 != 0)), (by first | rfl | (simp; done) | (simp [*]; done)), H', ⟨by have := HJ3.out; have := HK2.out; have := HJ11.out; first | omega | exact Nat.le_refl _⟩, ⟨by (with_reducible repeat (first | apply Kd.R_alloc | apply Kd.R_drewN | apply Kd.R_drew)); exact HO_14.out⟩, ⟨by repeat (first | (with_reducible first | exact HB.out | apply below_alloc | apply pw_below_drewN | apply below_drew1) | exact HB.out)⟩⟩
                      · rw [if_neg c29] at H
                        have c29b0 : (t298 == 0) = false := beq_eq_false_iff_ne.mpr c29
                        have c29b1 : (t298 != 0) = true := bne_iff_ne.mpr c29
                        (first | rw [c29b0] | (simp only [i64_w, i32_w]; rw [c29b0]) | skip)
                        have H' := Aside0.mk H
                        clear H
                        go_wp2
                        go_meet
                        case rel => exact ⟨_, (true), (by first | rfl | (simp; done) | (simp [*]; done)), H', ⟨by have := HJ3.out; have := HK2.out; have := HJ11.out; first | omega | exact Nat.le_refl _⟩, ⟨by (with_reducible repeat (first | apply Kd.R_alloc | apply Kd.R_drewN | apply Kd.R_drew)); exact HO_14.out⟩, ⟨by repeat (first | (with_reducible first | exact HB.out | apply below_alloc | apply pw_below_drewN | apply below_drew1) | exact HB.out)⟩⟩
                    case rest =>
                      clear HC28
                      try clear c1
                      try clear hcv1
                      try clear c2
                      try clear p2
                      try clear q2
                      try clear hx2
                      try clear qi2
                      try clear c5
                      try clear c5b0
                      try clear p6
                      try clear c7
                      try clear c7b0
                      try clear c8
                      try clear c8b0
                      try clear c8b1
                      try clear c8b2
                      try clear c10
                      try clear c10b0
                      try clear c10b1
                      try clear c10b2
                      try clear c14
                      try clear c15
                      try clear c16
                      try clear hcv16
                      try clear c18
                      try clear c18b0
                      try clear c18b1
                      try clear c19
                      try clear c19b0
                      try clear c19b1
                      try clear c20
                      try clear c20b0
                      try clear c20b1
                      try clear c21
                      try clear c21b0
                      try clear c21b1
                      try clear c25
                      try clear c29
                      try clear c29b0
                      try clear c29b1
                      try clear p29
                      try clear q29
                      try clear hx29
                      try clear qi29
                      try clear hx295_0
                      try clear hx295_1
                      try clear hx295_2
                      try clear hx295_3
                      try clear hx296_0
                      try clear hx296_1
                      try clear hx296_2
                      try clear hx296_3
                      try clear p2
                      try clear p295
                      try clear p296
                      try clear p6
                      try clear q2
                      try clear q295
                      try clear q296
                      obtain ⟨kq, x96_27, rfl, HA, HJ27, HO_14, HB⟩ := hcut
                      cases kq with
                      | zero => exact absurd HA.out (by simp [umlautlaw17_LexInts.j3])
                      | succ kj27 =>
                        have H := HA.out
                        clear HA
                        simp only [umlautlaw17_LexInts.j3] at H
                        by_cases c30 : x96_27 = true
                        · subst c30
                          have H1 : (if t292 = 10 then (if t291 = 0 then (if (t290.length : Int) = 0 then ((umlautlaw17_awake.f kj27).bind fun t301 => (some t301)) else (some false)) else (some false)) else (some false)) = some r := by rw [if_pos rfl] at H; exact H
                          clear H
                          have H := H1
                          clear H1
                          by_cases c31 : t292 = 10
                          · rw [if_pos c31] at H
                            have c31b0 : (t292 == 10) = true := beq_iff_eq.mpr c31
                            have c31b1 : (t292 != 10) = false := bne_eq_false_iff_eq.mpr c31
                            clear c31
                            by_cases c32 : t291 = 0
                            · rw [if_pos c32] at H
                              have c32b0 : (t291 == 0) = true := beq_iff_eq.mpr c32
                              have c32b1 : (t291 != 0) = false := bne_eq_false_iff_eq.mpr c32
                              clear c32
                              by_cases c33 : (t290.length : Int) = 0
                              · rw [if_pos c33] at H
                                have c33b0 : ((t290.length : Int) == 0) = true := beq_iff_eq.mpr c33
                                have c33b1 : ((t290.length : Int) != 0) = false := bne_eq_false_iff_eq.mpr c33
                                clear c33
                                replace H := Option.bind_eq_some_iff.mp H
                                obtain ⟨t301, A340, H⟩ := H
                                replace H : (some t301) = some r := H
                                have A34 := Aside0.mk A340
                                clear A340
                                obtain rfl := Option.some.inj H
                                obtain ⟨Ao35, co35, eo35⟩ := Kd.R_slice HO_14.out
                                subst eo35
                                go_wp2_with (first | (go_at_call 9; (with_reducible refine (umlautlaw17_awake.calls kj27  t301 _ ?hwd42 A34.out).mono ?_); (case hwd42 => exact Wd.below hgw (by repeat (first | (with_reducible first | exact HB.out | apply below_alloc | apply pw_below_drewN | apply below_drew1) | exact HB.out))); rintro e w36 ⟨rfl, hb⟩; have n0_ := Aside0.mk (Kd.R_below (by (with_reducible repeat (first | apply Kd.R_alloc | apply Kd.R_drewN | apply Kd.R_drew)); exact HO_14.out) hb); have n1_ := Aside0.mk (below_step (by repeat (first | (with_reducible first | exact HB.out | apply below_alloc | apply pw_below_drewN | apply below_drew1) | exact HB.out)) hb); clear HO_14; clear HB; have HO_14 := n0_; have HB := n1_; clear n0_ n1_; (try clear hb); (try clear hb2); (try clear hk); (try clear hi)))
                                go_ret
                                exact ⟨by first | rfl | (simp [errW_none, errW_some] <;> rfl) | (simp [*, errW_none, errW_some] <;> rfl), by repeat (first | (with_reducible first | exact HB.out | apply below_alloc | apply pw_below_drewN | apply below_drew1) | exact HB.out)⟩
                              · rw [if_neg c33] at H
                                have c33b0 : ((t290.length : Int) == 0) = false := beq_eq_false_iff_ne.mpr c33
                                have c33b1 : ((t290.length : Int) != 0) = true := bne_iff_ne.mpr c33
                                have c33b2 : ¬ (t290 = []) := fun h_ => c33 (by rw [h_]; rfl)
                                obtain rfl := Option.some.inj H
                                obtain ⟨Ao37, co37, eo37⟩ := Kd.R_slice HO_14.out
                                subst eo37
                                go_wp2
                                go_ret
                                exact ⟨by first | rfl | (simp [errW_none, errW_some] <;> rfl) | (simp [*, errW_none, errW_some] <;> rfl), by repeat (first | (with_reducible first | exact HB.out | apply below_alloc | apply pw_below_drewN | apply below_drew1) | exact HB.out)⟩
                            · rw [if_neg c32] at H
                              have c32b0 : (t291 == 0) = false := beq_eq_false_iff_ne.mpr c32
                              have c32b1 : (t291 != 0) = true := bne_iff_ne.mpr c32
                              obtain rfl := Option.some.inj H
                              go_wp2
                              go_ret
                              exact ⟨by first | rfl | (simp [errW_none, errW_some] <;> rfl) | (simp [*, errW_none, errW_some] <;> rfl), by repeat (first | (with_reducible first | exact HB.out | apply below_alloc | apply pw_below_drewN | apply below_drew1) | exact HB.out)⟩
                          · rw [if_neg c31] at H
                            have c31b0 : (t292 == 10) = false := beq_eq_false_iff_ne.mpr c31
                            have c31b1 : (t292 != 10) = true := bne_iff_ne.mpr c31
                            obtain rfl := Option.some.inj H
                            go_wp2
                            go_ret
                            exact ⟨by first | rfl | (simp [errW_none, errW_some] <;> rfl) | (simp [*, errW_none, errW_some] <;> rfl), by repeat (first | (with_reducible first | exact HB.out | apply below_alloc | apply pw_below_drewN | apply below_drew1) | exact HB.out)⟩
                        · replace c30 := Bool.eq_false_iff.mpr c30
                          subst c30
                          have H1 : (if t292 = 0 then (if (t290.length : Int) = 1 then (if 0 < (t290.length : Int) then (if ((rd_T28 t290 0).f2) = t299 then ((umlautlaw17_awake.f kj27).bind fun t303 => (some t303)) else (some false)) else (none)) else (some false)) else (some false)) = some r := by rw [if_neg (show ¬ (false = true) by decide)] at H; exact H
                          clear H
                          have H := H1
                          clear H1
                          by_cases c38 : t292 = 0
                          · rw [if_pos c38] at H
                            have c38b0 : (t292 == 0) = true := beq_iff_eq.mpr c38
                            have c38b1 : (t292 != 0) = false := bne_eq_false_iff_eq.mpr c38
                            clear c38
                            by_cases c39 : (t290.length : Int) = 1
                            · rw [if_pos c39] at H
                              have c39b0 : ((t290.length : Int) == 1) = true := beq_iff_eq.mpr c39
                              have c39b1 : ((t290.length : Int) != 1) = false := bne_eq_false_iff_eq.mpr c39
                              clear c39
                              by_cases c40 : 0 < (t290.length : Int)
                              · rw [if_pos c40] at H
                                have c40b0 : decide (0 < (t290.length : Int)) = true := decide_eq_true c40
                                have c40b1 : decide (0 < t290.length) = true := decide_eq_true (by omega)
                                clear c40
                                by_cases c41 : ((rd_T28 t290 0).f2) = t299
                                · rw [if_pos c41] at H
                                  have c41b0 : (((rd_T28 t290 0).f2) == t299) = true := beq_iff_eq.mpr c41
                                  have c41b1 : (((rd_T28 t290 0).f2) != t299) = false := bne_eq_false_iff_eq.mpr c41
                                  clear c41
                                  replace H := Option.bind_eq_some_iff.mp H
                                  obtain ⟨t303, A420, H⟩ := H
                                  replace H : (some t303) = some r := H
                                  have A42 := Aside0.mk A420
                                  clear A420
                                  obtain rfl := Option.some.inj H
                                  obtain ⟨Ao43, co43, eo43⟩ := Kd.R_slice HO_14.out
                                  subst eo43
                                  have p302 : 0 ≤ (0 : Int) := (by omega)
                                  have q302 : 0 < (t290.length : Int) := of_decide_eq_true (by first | (with_reducible assumption) | assumption)
                                  obtain ⟨ad302, e302, hx302_0, hx302_1, hx302_2, hx302_3⟩ := at_T28 (Kd.R_reads' HO_14.out).2.2 0 p302 q302
                                  cases e302
                                  have qi302 : (0 < t290.length) = True := eq_true (by omega)
                                  (try rw [show ((0 : Int)).toNat = 0 from rfl] at hx302_0)
                                  (try rw [show 0 * 4 = 0 from rfl] at hx302_0)
                                  (try rw [Addr.add_zero'] at hx302_0)
                                  (try rw [show ((0 : Int)).toNat = 0 from rfl] at hx302_1)
                                  (try rw [show 0 * 4 = 0 from rfl] at hx302_1)
                                  (try rw [Addr.add_zero'] at hx302_1)
                                  (try rw [show ((0 : Int)).toNat = 0 from rfl] at hx302_2)
                                  (try rw [show 0 * 4 = 0 from rfl] at hx302_2)
                                  (try rw [Addr.add_zero'] at hx302_2)
                                  (try rw [show ((0 : Int)).toNat = 0 from rfl] at hx302_3)
                                  (try rw [show 0 * 4 = 0 from rfl] at hx302_3)
                                  (try rw [Addr.add_zero'] at hx302_3)
                                  replace p302 := eq_true p302
                                  replace q302 := eq_true q302
                                  go_wp2_with (first | (go_at_call 9; (with_reducible refine (umlautlaw17_awake.calls kj27  t303 _ ?hwd43 A42.out).mono ?_); (case hwd43 => exact Wd.below hgw (by repeat (first | (with_reducible first | exact HB.out | apply below_alloc | apply pw_below_drewN | apply below_drew1) | exact HB.out))); rintro e w44 ⟨rfl, hb⟩; have n0_ := Aside0.mk (Kd.R_below (by (with_reducible repeat (first | apply Kd.R_alloc | apply Kd.R_drewN | apply Kd.R_drew)); exact HO_14.out) hb); have n1_ := Aside0.mk (below_step (by repeat (first | (with_reducible first | exact HB.out | apply below_alloc | apply pw_below_drewN | apply below_drew1) | exact HB.out)) hb); clear HO_14; clear HB; have HO_14 := n0_; have HB := n1_; clear n0_ n1_; (try clear hb); (try clear hb2); (try clear hk); (try clear hi)))
                                  go_ret
                                  exact ⟨by first | rfl | (simp [errW_none, errW_some] <;> rfl) | (simp [*, errW_none, errW_some] <;> rfl), by repeat (first | (with_reducible first | exact HB.out | apply below_alloc | apply pw_below_drewN | apply below_drew1) | exact HB.out)⟩
                                · rw [if_neg c41] at H
                                  have c41b0 : (((rd_T28 t290 0).f2) == t299) = false := beq_eq_false_iff_ne.mpr c41
                                  have c41b1 : (((rd_T28 t290 0).f2) != t299) = true := bne_iff_ne.mpr c41
                                  obtain rfl := Option.some.inj H
                                  obtain ⟨Ao45, co45, eo45⟩ := Kd.R_slice HO_14.out
                                  subst eo45
                                  have p302 : 0 ≤ (0 : Int) := (by omega)
                                  have q302 : 0 < (t290.length : Int) := of_decide_eq_true (by first | (with_reducible assumption) | assumption)
                                  obtain ⟨ad302, e302, hx302_0, hx302_1, hx302_2, hx302_3⟩ := at_T28 (Kd.R_reads' HO_14.out).2.2 0 p302 q302
                                  cases e302
                                  have qi302 : (0 < t290.length) = True := eq_true (by omega)
                                  (try rw [show ((0 : Int)).toNat = 0 from rfl] at hx302_0)
                                  (try rw [show 0 * 4 = 0 from rfl] at hx302_0)
                                  (try rw [Addr.add_zero'] at hx302_0)
                                  (try rw [show ((0 : Int)).toNat = 0 from rfl] at hx302_1)
                                  (try rw [show 0 * 4 = 0 from rfl] at hx302_1)
                                  (try rw [Addr.add_zero'] at hx302_1)
                                  (try rw [show ((0 : Int)).toNat = 0 from rfl] at hx302_2)
                                  (try rw [show 0 * 4 = 0 from rfl] at hx302_2)
                                  (try rw [Addr.add_zero'] at hx302_2)
                                  (try rw [show ((0 : Int)).toNat = 0 from rfl] at hx302_3)
                                  (try rw [show 0 * 4 = 0 from rfl] at hx302_3)
                                  (try rw [Addr.add_zero'] at hx302_3)
                                  replace p302 := eq_true p302
                                  replace q302 := eq_true q302
                                  go_wp2
                                  go_ret
                                  exact ⟨by first | rfl | (simp [errW_none, errW_some] <;> rfl) | (simp [*, errW_none, errW_some] <;> rfl), by repeat (first | (with_reducible first | exact HB.out | apply below_alloc | apply pw_below_drewN | apply below_drew1) | exact HB.out)⟩
                              · rw [if_neg c40] at H
                                exact absurd H (by simp)
                            · rw [if_neg c39] at H
                              have c39b0 : ((t290.length : Int) == 1) = false := beq_eq_false_iff_ne.mpr c39
                              have c39b1 : ((t290.length : Int) != 1) = true := bne_iff_ne.mpr c39
                              obtain rfl := Option.some.inj H
                              obtain ⟨Ao46, co46, eo46⟩ := Kd.R_slice HO_14.out
                              subst eo46
                              go_wp2
                              go_ret
                              exact ⟨by first | rfl | (simp [errW_none, errW_some] <;> rfl) | (simp [*, errW_none, errW_some] <;> rfl), by repeat (first | (with_reducible first | exact HB.out | apply below_alloc | apply pw_below_drewN | apply below_drew1) | exact HB.out)⟩
                          · rw [if_neg c38] at H
                            have c38b0 : (t292 == 0) = false := beq_eq_false_iff_ne.mpr c38
                            have c38b1 : (t292 != 0) = true := bne_iff_ne.mpr c38
                            obtain rfl := Option.some.inj H
                            go_wp2
                            go_ret
                            exact ⟨by first | rfl | (simp [errW_none, errW_some] <;> rfl) | (simp [*, errW_none, errW_some] <;> rfl), by repeat (first | (with_reducible first | exact HB.out | apply below_alloc | apply pw_below_drewN | apply below_drew1) | exact HB.out)⟩
            · rw [if_neg c10] at H
              exact absurd H (by simp)

/-- THE ONE PURE STATEMENT of umlautlaw17_LexInts: yours. -/
def umlautlaw17_LexInts.Pure : Prop := ∀ (a0 : Int) (a1 : Int) (a2 : Int), (Lit.int .i64 a0).wf = true → (Lit.int .i64 a1).wf = true → (Lit.int .u8 a2).wf = true → ∃ k, umlautlaw17_LexInts.f k a0 a1 a2 = some true
theorem umlautlaw17_LexInts.walk (P : umlautlaw17_LexInts.Pure) (a0 : Int) (a1 : Int) (a2 : Int) (w : World) (hgw : Wd w) (w0 : (Lit.int .i64 a0).wf = true) (w1 : (Lit.int .i64 a1).wf = true) (w2 : (Lit.int .u8 a2).wf = true) :
    Calls Tryd.prog 8 #[.int .i64 a0, .int .i64 a1, .int .u8 a2] w fun e w' => e = .returned (.bool true) ∧ Below w.heap.size w w' := by
  obtain ⟨k, h⟩ := P a0 a1 a2 w0 w1 w2
  refine (umlautlaw17_LexInts.calls k a0 a1 a2 true w hgw h).mono ?_
  rintro e w' ⟨rfl, hd⟩
  exact ⟨rfl, hd⟩

end Go.Proofs.YtobhcpfdgfkeiaaDoor.Lx

namespace Go.Proofs.YtobhcpfdgfkeiaaDoor.Lp
open Go.RowKit Go.Proofs.YtobhcpfdgfkeiaaDoorW.PrintWords Go.Proofs.YtobhcpfdgfkeiaaDoor.Ext Go.Proofs.YtobhcpfdgfkeiaaDoor.Lx Go.Proofs.YtobhcpfdgfkeiaaDoor.Lf
set_option linter.unusedVariables false

theorem size_lst (s : ByteArray) : s.size = s.data.toList.length := (len_size s).symm
theorem isRem_dig {c : UInt8} (h : (c == 45) = false) (l : Bytes) : isRem (c :: l) = false := by
  cases l with
  | nil => rfl
  | cons d l => simp only [isRem]; rw [h, Bool.false_and]
theorem and7 (x : Int) : Go.bits .and .i64 x 7 ≤ 7 := by
  have h : ((BitVec.ofInt 64 x) &&& (BitVec.ofInt 64 7)).toNat ≤ 7 := by
    rw [BitVec.toNat_and]; exact Nat.and_le_right
  have e : Go.bits .and .i64 x 7 = IntKind.wrap .i64 (((BitVec.ofInt 64 x) &&& (BitVec.ofInt 64 7)).toNat : Int) := rfl
  rw [e]
  generalize ((BitVec.ofInt 64 x) &&& (BitVec.ofInt 64 7)).toNat = m at h
  have hm : ∀ m : Fin 8, IntKind.wrap .i64 ((m.val : Nat) : Int) ≤ 7 := by decide +kernel
  exact hm ⟨m, by omega⟩

def dig1 (d : Nat) : UInt8 := UInt8.ofNat (48 + d)
theorem dig1_nat {d : Nat} (h : d < 10) : (dig1 d).toNat = 48 + d := by
  unfold dig1; rw [UInt8.toNat_ofNat']; omega
theorem dig1_dig {d : Nat} (h : d < 10) : isDig (dig1 d) = true := by
  unfold isDig; rw [dig1_nat h]; simp; omega
theorem digs_fin : ∀ d : Fin 10, ((⟨#[48, 49, 50, 51, 52, 53, 54, 55, 56, 57]⟩ : ByteArray).extract d.val (d.val + 1)).data.toList = [dig1 d.val] := by decide +kernel
theorem digs_ext {d : Nat} (h : d < 10) : (⟨#[48, 49, 50, 51, 52, 53, 54, 55, 56, 57]⟩ : ByteArray).extract d (d + 1) = ⟨([dig1 d] : Bytes).toArray⟩ := by
  apply WideShapes.bytes_inj; exact digs_fin ⟨d, h⟩
theorem valOf_app (acc : Nat) (x y : Bytes) : valOf acc (x ++ y) = valOf (valOf acc x) y := List.foldl_append

theorem text_loop : ∀ (d k n : Nat) (acc : ByteArray), n < 10 ^ (d + 1) → n ≤ 9223372036854775807 → d < k → acc.size ≤ 100 - d → d ≤ 20 → ∃ t : ByteArray, umlautref1_Text.l0 k (n : Int) acc = some (t ++ acc) ∧ 0 < t.size ∧ t.size ≤ d + 1 ∧ (∀ c, c ∈ t.data.toList → isDig c = true) ∧ valOf 0 t.data.toList = n := by
  have last : ∀ (k n : Nat) (acc : ByteArray), n < 10 → acc.size ≤ 100 → 0 < k → ∃ t : ByteArray, umlautref1_Text.l0 k (n : Int) acc = some (t ++ acc) ∧ 0 < t.size ∧ t.size ≤ 1 ∧ (∀ c, c ∈ t.data.toList → isDig c = true) ∧ valOf 0 t.data.toList = n := by
    intro k n acc hn ha hk
    obtain ⟨k, rfl⟩ : ∃ m, k = m + 1 := ⟨k - 1, by omega⟩
    refine ⟨⟨([dig1 n] : Bytes).toArray⟩, ?_, ?_, ?_, ?_, ?_⟩
    · simp only [umlautref1_Text.l0]
      rw [if_neg (by omega), if_pos (by omega), wrap_add1 _ (by omega), if_pos (by omega), if_pos (by omega), Int.toNat_natCast, Int.toNat_natCast, digs_ext hn]
      rw [if_pos (by show 1 + acc.size ≤ _; omega)]
    · show 0 < 1; omega
    · show 1 ≤ 1; omega
    · intro c hc
      simp only [List.mem_singleton] at hc
      rw [hc]; exact dig1_dig hn
    · show valOf 0 [dig1 n] = n
      rw [valOf_cons, valOf_nil, dig1_nat hn]; omega
  intro d
  induction d with
  | zero =>
    intro k n acc hn hm hk ha _
    exact last k n acc (by simpa using hn) (by omega) hk
  | succ d ih =>
    intro k n acc hn hm hk ha hd20
    by_cases h9 : n > 9
    · obtain ⟨k, rfl⟩ : ∃ m, k = m + 1 := ⟨k - 1, by omega⟩
      have e1 : Int.tmod (n : Int) 10 = ((n % 10 : Nat) : Int) := by rw [Int.tmod_eq_emod_of_nonneg (by omega)]; omega
      have e2 : Int.tdiv (n : Int) 10 = ((n / 10 : Nat) : Int) := by rw [Int.tdiv_eq_ediv_of_nonneg (by omega)]; omega
      have hr : n % 10 < 10 := Nat.mod_lt _ (by decide)
      have hsz : ((⟨([dig1 (n % 10)] : Bytes).toArray⟩ : ByteArray) ++ acc).size = 1 + acc.size := by rw [ByteArray.size_append]; rfl
      obtain ⟨t, ht, h0, h1, h2, h3⟩ := ih k (n / 10) (⟨([dig1 (n % 10)] : Bytes).toArray⟩ ++ acc) (by rw [Nat.pow_succ] at hn; omega) (by omega) (by omega) (by rw [hsz]; omega) (by omega)
      refine ⟨t ++ ⟨([dig1 (n % 10)] : Bytes).toArray⟩, ?_, ?_, ?_, ?_, ?_⟩
      · simp only [umlautref1_Text.l0]
        rw [if_pos (by omega), e1, if_pos (by omega), wrap_add1 _ (by omega), if_pos (by omega), if_pos (by omega), Int.toNat_natCast, Int.toNat_natCast, digs_ext hr]
        rw [if_pos (by show 1 + acc.size ≤ _; omega), e2, wrap_nat _ (by omega), ht]
        congr 1
        apply WideShapes.bytes_inj
        rw [ByteArray.data_append, ByteArray.data_append, ByteArray.data_append, ByteArray.data_append]
        simp
      · rw [ByteArray.size_append]; omega
      · rw [ByteArray.size_append]; show t.size + 1 ≤ _; omega
      · intro c hc
        rw [ByteArray.data_append] at hc
        simp only [Array.toList_append, List.mem_append, List.mem_singleton] at hc
        rcases hc with hc | hc
        · exact h2 c hc
        · rw [hc]; exact dig1_dig hr
      · rw [ByteArray.data_append, Array.toList_append, valOf_app, h3]
        show valOf (n / 10) [dig1 (n % 10)] = n
        rw [valOf_cons, valOf_nil, dig1_nat hr]; omega
    · obtain ⟨t, h, h0, h1, h2, h3⟩ := last k n acc (by omega) (by omega) (by omega)
      exact ⟨t, h, h0, by omega, h2, h3⟩
theorem text_eq (k n : Nat) (hn : n ≤ 9223372036854775807) (hk : 30 ≤ k) : ∃ t : ByteArray, umlautref1_Text.f k (n : Int) = some t ∧ 0 < t.size ∧ t.size ≤ 20 ∧ (∀ c, c ∈ t.data.toList → isDig c = true) ∧ valOf 0 t.data.toList = n := by
  obtain ⟨k, rfl⟩ : ∃ m, k = m + 1 := ⟨k - 1, by omega⟩
  obtain ⟨t, h, h0, h1, h2, h3⟩ := text_loop 19 k n ⟨#[]⟩ (by omega) hn (by omega) (by decide) (by decide)
  refine ⟨t, ?_, h0, h1, h2, h3⟩
  simp only [umlautref1_Text.f]
  rw [if_neg (by omega), if_neg (by omega), h]
  congr 1
  apply WideShapes.bytes_inj
  rw [ByteArray.data_append]; simp

theorem dig_ne {c : UInt8} (h : isDig c = true) : isBlank c = false ∧ (c == 45) = false := by
  have hf : ∀ n : Fin 256, isDig (UInt8.ofNat n.val) = true → isBlank (UInt8.ofNat n.val) = false ∧ (UInt8.ofNat n.val == 45) = false := by decide +kernel
  have := hf ⟨c.toNat, c.toNat_lt⟩
  simp only [UInt8.ofNat_toNat] at this
  exact this h
theorem span_all (l : Bytes) (h : ∀ c, c ∈ l → isDig c = true) : spanOf isDig l = l.length := by
  induction l with
  | nil => rfl
  | cons c l ih => rw [spanOf_cons_yes (h c (List.mem_cons_self ..)), ih (fun d hd => h d (List.mem_cons_of_mem _ hd)), List.length_cons]
theorem num_all (l : Bytes) (h0 : l ≠ []) (h : ∀ c, c ∈ l → isDig c = true) : numOf l = if valOf 0 l ≤ 9223372036854775807 then some (((valOf 0 l : Nat) : Int), l.length) else none := by
  unfold numOf
  rw [span_all l h, List.take_length, parse_dig l h0 h, List.drop_length]
  by_cases hm : valOf 0 l ≤ 9223372036854775807
  · rw [if_pos hm, if_pos hm]; rfl
  · rw [if_neg hm, if_neg hm]
theorem lex_dig (l : Bytes) (h0 : l ≠ []) (hs : l.length ≤ 4000) (h : ∀ c, c ∈ l → isDig c = true) : lexL mkT l = if valOf 0 l ≤ 9223372036854775807 then ([(3, ⟨#[]⟩, ((valOf 0 l : Nat) : Int), 0)], 0, 0) else ([], 0, 10) := by
  rw [lexL_from, if_neg (by omega)]
  cases l with
  | nil => exact absurd rfl h0
  | cons c r =>
    have hc := h c (List.mem_cons_self ..)
    have hne := dig_ne hc
    rw [fromAt_tok mkT [] 0 hne.1 (isRem_dig hne.2 r), tokL_cons, let_not_dig hc, if_neg (by decide), if_pos hc, num_all _ h0 h]
    by_cases hm : valOf 0 (c :: r) ≤ 9223372036854775807
    · rw [if_pos hm, if_pos hm]
      simp only [Option.map_some]
      rw [List.drop_length]; rfl
    · rw [if_neg hm, if_neg hm]; rfl

theorem ints_end (k n d : Nat) (hn : n ≤ 9223372036854775807) (hd : d < 10) (hk : 20000 ≤ k) (B : List Tup × Int × Int) (hB : B = if n * 10 + d ≤ 9223372036854775807 then ([(3, ⟨#[]⟩, ((n * 10 + d : Nat) : Int), 0)], 0, 0) else ([], 0, 10)) :
    umlautlaw17_LexInts.j2 k (n : Int) (d : Int) (B.1.map t28) B.2.1 B.2.2 false = some true := by
  obtain ⟨k, rfl⟩ : ∃ m, k = m + 2 := ⟨k - 2, by omega⟩
  simp only [umlautlaw17_LexInts.j2]
  rw [if_neg (by decide), mul_ten (n : Int) (by omega) (by omega) (k + 1) (by omega)]
  simp only [Option.bind_some]
  have hj : ∀ (x : Int) (b : Bool), (b = false → n * 10 + d ≤ 9223372036854775807 ∧ x = ((n * 10 + d : Nat) : Int)) → (b = true → ¬ n * 10 + d ≤ 9223372036854775807) → umlautlaw17_LexInts.j3 (k + 1) (B.1.map t28) B.2.1 B.2.2 x b = some true := by
    intro x b h1 h2
    simp only [umlautlaw17_LexInts.j3]
    cases b with
    | true =>
      rw [if_neg (h2 rfl)] at hB
      rw [hB, awake_eq k (by omega)]; rfl
    | false =>
      obtain ⟨h3, rfl⟩ := h1 rfl
      rw [if_pos h3] at hB
      rw [hB, awake_eq k (by omega)]
      simp [rd_T28, t28]
  by_cases hm : (n : Int) * 10 ≤ 9223372036854775807
  · rw [if_pos hm, add_dig _ _ (by omega) hm (by omega) (by omega)]
    simp only [Option.bind_some]
    rw [if_pos True.intro]
    by_cases hm2 : (n : Int) * 10 + (d : Int) ≤ 9223372036854775807
    · rw [if_pos hm2]
      exact hj _ _ (fun _ => ⟨by omega, by simp only; omega⟩) (fun h => by simp at h)
    · rw [if_neg hm2]
      exact hj _ _ (fun h => by simp at h) (fun _ => by omega)
  · rw [if_neg hm, add_dig 0 _ (by omega) (by omega) (by omega) (by omega)]
    simp only [Option.bind_some]
    rw [if_neg (by decide)]
    exact hj _ _ (fun h => by simp at h) (fun _ => by omega)

theorem str_one (n : Nat) (h : n < 256) : (strOfNums [(n : Int)]).data.toList = [UInt8.ofNat n] := by
  have hf : ∀ n : Fin 256, (strOfNums [((n.val : Nat) : Int)]).data.toList = [UInt8.ofNat n.val] := by decide +kernel
  exact hf ⟨n, h⟩

theorem ints_loop (n d : Nat) (hn : n ≤ 9223372036854775807) (x1 x2 : Int) (hd : d < 10) (hx2 : Int.tmod x2 10 = (d : Int)) : ∀ (f k j : Nat) (u : ByteArray), (Go.bits .and .i64 x1 7) - (j : Int) ≤ (f : Int) → j ≤ 7 → f + 30000 < k → 0 < u.size → u.size ≤ 20 + j → (∀ c, c ∈ u.data.toList → isDig c = true) → valOf 0 u.data.toList = n →
    umlautlaw17_LexInts.l0 k (n : Int) x1 x2 u (j : Int) = some true := by
  have h7 := and7 x1
  intro f
  induction f with
  | zero =>
    intro k j u hf hj hk h0 hs hu hv
    obtain ⟨k, rfl⟩ : ∃ m, k = m + 1 := ⟨k - 1, by omega⟩
    simp only [umlautlaw17_LexInts.l0]
    have hne : u.data.toList ≠ [] := by intro e; have := len_size u; rw [e] at this; simp at this; omega
    have hls := len_size u
    have hw : wrap64 (Int.tmod x2 10) = (d : Int) := by rw [hx2]; exact wrap_nat _ (by omega)
    rw [if_neg (by omega), hw, show (48 + (d : Int) % 256) % 256 = ((48 + d : Nat) : Int) by omega]
    have hso := str_one (48 + d) (by omega)
    have hssz : (strOfNums [((48 + d : Nat) : Int)]).size = 1 := by rw [size_lst, hso]; rfl
    rw [lex_tok _ k (by omega)]
    simp only [Option.bind_some]
    rw [if_pos (by rw [hssz]; omega), lex_tok _ k (by omega)]
    simp only [Option.bind_some]
    have hdd : isDig (UInt8.ofNat (48 + d)) = true := dig1_dig hd
    have e2 : (u ++ strOfNums [((48 + d : Nat) : Int)]).data.toList = u.data.toList ++ [UInt8.ofNat (48 + d)] := by rw [ByteArray.data_append, Array.toList_append, hso]
    have hall2 : ∀ c, c ∈ u.data.toList ++ [UInt8.ofNat (48 + d)] → isDig c = true := by
      intro c hc
      simp only [List.mem_append, List.mem_singleton] at hc
      rcases hc with hc | hc
      · exact hu c hc
      · rw [hc]; exact hdd
    have hv2 : valOf 0 (u.data.toList ++ [UInt8.ofNat (48 + d)]) = n * 10 + d := by
      rw [valOf_app, hv, valOf_cons, valOf_nil, show (UInt8.ofNat (48 + d)).toNat = 48 + d from dig1_nat hd]; omega
    rw [e2, lex_dig _ hne (by omega) hu, hv, if_pos hn, lex_dig _ (by simp) (by simp; omega) hall2, hv2]
    simp only [if_true]
    rw [if_pos (by rfl), if_pos (by simp), if_pos (by rfl)]
    rw [show ((rd_T28 (List.map t28 [((3 : Int), (⟨#[]⟩ : ByteArray), (n : Int), (0 : Int))]) 0).f2 != (n : Int)) = false from by simp [rd_T28, t28]]
    exact ints_end k n d hn hd (by omega) _ rfl
  | succ f ih =>
    intro k j u hf hj hk h0 hs hu hv
    by_cases hlt : (j : Int) < Go.bits .and .i64 x1 7
    · obtain ⟨k, rfl⟩ : ∃ m, k = m + 1 := ⟨k - 1, by omega⟩
      simp only [umlautlaw17_LexInts.l0]
      rw [if_pos hlt, if_pos (by omega), wrap_add1 _ (by omega)]
      have e : ((⟨#[48]⟩ : ByteArray) ++ u).data.toList = 48 :: u.data.toList := by rw [ByteArray.data_append]; simp
      have hz : ((⟨#[48]⟩ : ByteArray) ++ u).size = 1 + u.size := by rw [ByteArray.size_append]; rfl
      refine ih k (j + 1) _ (by omega) (by omega) (by omega) (by omega) (by omega) ?_ ?_
      · intro c hc
        rw [e] at hc
        rcases List.mem_cons.mp hc with hc | hc
        · rw [hc]; decide
        · exact hu c hc
      · rw [e, valOf_cons]; exact hv
    · exact ih k j u (by omega) hj (by omega) h0 hs hu hv
theorem pure_ints (k : Nat) (hk : 49999 ≤ k) (a0 a1 a2 : Int) (h0 : (Lit.int .i64 a0).wf = true) (h2 : (Lit.int .u8 a2).wf = true) : umlautlaw17_LexInts.f (k + 1) a0 a1 a2 = some true := by
  have hx0 : -9223372036854775808 ≤ a0 ∧ a0 ≤ 9223372036854775807 := by simpa [Lit.wf, IntKind.min, IntKind.max, IntKind.signed, IntKind.bits] using h0
  have hx2 : 0 ≤ a2 ∧ a2 ≤ 255 := by simpa [Lit.wf, IntKind.min, IntKind.max, IntKind.signed, IntKind.bits] using h2
  have go : ∀ n : Nat, n ≤ 9223372036854775807 → umlautlaw17_LexInts.j0 (k + 1) (n : Int) a1 a2 = some true := by
    intro n hn
    obtain ⟨t, ht, ht0, hts, hd, hv⟩ := text_eq k n hn (by omega)
    simp only [umlautlaw17_LexInts.j0]
    rw [ht]
    simp only [Option.bind_some]
    have h7 := and7 a1
    exact ints_loop n (a2.toNat % 10) hn a1 a2 (Nat.mod_lt _ (by decide)) (by rw [Int.tmod_eq_emod_of_nonneg hx2.1]; omega) 7 k 0 t (by omega) (by omega) (by omega) ht0 (by omega) hd hv
  unfold umlautlaw17_LexInts.f
  by_cases hneg : a0 < 0
  · rw [if_pos hneg]
    have e : wrap64 (-(wrap64 (a0 + 1))) = (((-(a0 + 1)).toNat : Nat) : Int) := by unfold wrap64; omega
    rw [e]
    exact go _ (by omega)
  · rw [if_neg hneg]
    obtain ⟨n, rfl⟩ := Int.eq_ofNat_of_zero_le (show 0 ≤ a0 by omega)
    exact go n (by omega)
end Go.Proofs.YtobhcpfdgfkeiaaDoor.Lp

namespace Go.Proofs.YtobhcpfdgfkeiaaDoor.lexInts
open Go.ChangeShapes Go.WideShapes Go.ChangeAt Go.RowKit
open Go.ChangeMaps (open_string shut_string)
set_option linter.unusedVariables false
theorem own : ownKnob Tryd.prog.godebug = none := by kernel_rfl
theorem laid_met (os : Os) : laidMet Tryd.prog Rows.lexIntsRow.laid ((World.laidAll Tryd.prog os Rows.lexIntsRow.laid).forCall (fun _ _ => 0) ⟨#[], #[.int .i64 0, .int .i64 0, .int .u8 0], []⟩).memory :=
  laidMet_laidAll _ (by kernel_rfl) (by kernel_rfl)
set_option maxRecDepth 100000 in
theorem lifted (os : Os) (started : os.Started) (H : Type) (enc : TypeId × Value → H) (F : Stop.Interp) :
    ReturnsInHanded {} Tryd.checked os 8 .any ((OpenSpec.ofChange Rows.lexIntsSpec).preRow enc Tryd.prog Tryd.f8 Rows.lexIntsRow.domain false Rows.lexIntsRow.laid) (((OpenSpec.ofChange Rows.lexIntsSpec).at F).post enc Tryd.prog Tryd.f8 false true false false) := by
  refine returnsInHanded_of_row (C := Tryd.checked) (s := OpenSpec.ofChange Rows.lexIntsSpec) own started (by kernel_rfl) Tryd.func8
    (ChangeSpec.witness_shaped (enc := enc) (C := Tryd.checked) (os := os) (X := fun w _ => laidMetH Tryd.prog Rows.lexIntsRow.laid w) false (World.laidAll Tryd.prog os Rows.lexIntsRow.laid) #[.int .i64 0, .int .i64 0, .int .u8 0] 8 (World.laidAll_os _ _ _)
      (World.shaped_of_ZipB (by kernel_rfl) (by kernel_rfl)) (by kernel_rfl) (by kernel_rfl) (by kernel_rfl)
      (by rw [MakeChecks.laidMetH_plain _ _ _ (by kernel_rfl)]; exact laid_met os)) ?_
  intro W base args ds gs before hval0 hW hcnd _ hsz0 hL hS _
  have hgw : Ext.Wd W := by
    rw [MakeChecks.laidMetH_plain _ _ _ (by kernel_rfl)] at hL
    exact Rw.wd_of (by unfold Rows.lexIntsRow; simp) (by unfold Rows.lexIntsRow; simp) hL hS
  have hsz : (DataW.weightsEach Tryd.prog (Tryd.f8.params.toList ++ Rows.lexIntsSpec.plain.varTypes Tryd.prog) (ds ++ gs)).all (· ≤ reachBytes) = true := hsz0
  have hval : ∀ (j : Nat) t v, Tryd.f8.params[j]? = some t → args[j]? = some v → Value.okWide Tryd.prog W .any base t v := hval0
  have hW' := hW
  obtain ⟨p, q, hA0, hV, rfl, hfz, hnd⟩ := hW
  have hA : DataW.TrodAll enc Tryd.prog W 0 (fun _ => true) true Tryd.f8.params.toList args.toList ds p := hA0
  rw [Tryd.params8] at hA hval hsz
  obtain ⟨v0, vs0, d0, ds0, p0, q0, hargs, rfl, rfl, h0, r0⟩ := trodAll_cons hA
  obtain ⟨v1, vs1, d1, ds1, p1, q1, rfl, rfl, rfl, h1, r1⟩ := trodAll_cons r0
  obtain ⟨v2, vs2, d2, ds2, p2, q2, rfl, rfl, rfl, h2, r2⟩ := trodAll_cons r1
  obtain ⟨rfl, rfl, rfl⟩ := trodAll_nil r2
  obtain rfl : args = #[v0, v1, v2] := by cases args; simp_all
  obtain ⟨rfl, rfl⟩ := trodVars_none hV
  obtain ⟨a0, rfl, rfl, rfl, w0⟩ := open_int Tryd.underlying2 (hval 0 2 v0 rfl rfl) h0
  obtain ⟨a1, rfl, rfl, rfl, w1⟩ := open_int Tryd.underlying3 (hval 1 3 v1 rfl rfl) h1
  obtain ⟨a2, rfl, rfl, rfl, w2⟩ := open_int Tryd.underlying5 (hval 2 5 v2 rfl rfl) h2
  clear hA0 hval0 hsz0 hsz
  refine (Lx.umlautlaw17_LexInts.walk (fun a b c h0 h1 h2 => ⟨_, Lp.pure_ints 49999 (Nat.le_refl _) a b c h0 h2⟩) a0 a1 a2 W hgw w0 w1 w2).mono fun e W' ⟨he, bel⟩ => ?_
  subst he
  exact ⟨_, rfl, _, _, _, [], _, [], hW', trodAll_mk1 (shut_bool Tryd.underlying4 _), (trodAll_cons_mk (shut_int Tryd.underlying2 w0) (trodAll_cons_mk (shut_int Tryd.underlying3 w1) (trodAll_cons_mk (shut_int Tryd.underlying5 w2) trodAll_mk0))), rfl, bel.frame _, fun h => by cases h⟩
theorem said : Rows.LexIntsSaid :=
  OpenClaim.holds_of_cond 8 Tryd.f8 rfl rfl rfl rfl rfl rfl rfl ⟨rfl, rfl, rfl, rfl, rfl⟩ rfl rfl rfl rfl rfl (by kernel_rfl) Tryd.func8 (by kernel_rfl)
    (of_decide_eq_true (by kernel_rfl)) (by unfold Func.isWrapper; first | (rw [if_pos (by decide +kernel)]; kernel_rfl) | (rw [if_neg (by decide +kernel)]; exact ⟨rfl, rfl⟩))
    (fun os started H enc _ F => by rw [OpenClaim.pre_eq_preRow]; exact lifted os started H enc F)
theorem plain (f : FuncId) (fn : Func) (hf : Tryd.pinned.checked.prog.funcNamed "umlaut/umlautlaw17.LexInts" = some f) (hfn : Tryd.pinned.checked.prog.funcs[f]? = some fn) :
    true = Tryd.pinned.checked.prog.looks [] ∧ ∀ (j : Nat) t, fn.params[j]? = some t → Tryd.pinned.checked.prog.wantsStandIn t = false := by
  obtain rfl : f = 8 := Option.some.inj ((show Tryd.prog.funcNamed "umlaut/umlautlaw17.LexInts" = some 8 by kernel_rfl).symm.trans hf) |>.symm
  obtain rfl : fn = Tryd.f8 := (Option.some.inj (Tryd.func8.symm.trans hfn)).symm
  refine ⟨by kernel_rfl, fun j t ht => ?_⟩
  rw [Tryd.params8] at ht
  have hm : t ∈ [2, 3, 5] := by
    have := Array.mem_of_getElem? ht
    simp at this ⊢
    omega
  have hall : ([2, 3, 5].all fun u => !Tryd.prog.wantsStandIn u) = true := by kernel_rfl
  exact (show Tryd.prog.wantsStandIn t = false by simpa using List.all_eq_true.1 hall t hm)
theorem card : Rows.LexIntsCardSaid :=
  Claim7.holds_tied_plain_at .later [] _ _ _ _ said (fun _ h => by cases h) (by kernel_rfl) (fun _ h => by cases h) lexInts_row_tie rfl ⟨rfl, rfl⟩ (by kernel_rfl) rfl plain (by kernel_rfl)
#print axioms card
end Go.Proofs.YtobhcpfdgfkeiaaDoor.lexInts
namespace Go.Proofs.YtobhcpfdgfkeiaaDoor
/-- The card, under a short name, for the claim. -/
theorem lexInts_card : Rows.LexIntsCardSaid := lexInts.card
end Go.Proofs.YtobhcpfdgfkeiaaDoor
