/-
  Texts of this claim, joined: part 4.
-/
import Derived.Test.YtobhcpfdgfkeiaaDoorJC0
import Derived.Test.YtobhcpfdgfkeiaaDoorJC1
namespace Go.Proofs.YtobhcpfdgfkeiaaDoor.Lx
open Go.RowKit Go.Proofs.YtobhcpfdgfkeiaaDoorW.PrintWords Go.Proofs.YtobhcpfdgfkeiaaDoorW.PrintLast Go.Proofs.YtobhcpfdgfkeiaaDoorW.PrintMore Go.Proofs.YtobhcpfdgfkeiaaDoor.Lf Go.Proofs.YtobhcpfdgfkeiaaDoor.Ext
attribute [local go_sem] max2_int min2_int max_two min_two max_three min_three max_four min_four   -- for this text's walks alone
set_option linter.unusedVariables false
set_option linter.unusedSimpArgs false

/-! ### umlautlaw17_LexOps: function 4 -/
mutual
def umlautlaw17_LexOps.l0 : Nat → List Int → Bool → List ByteArray → ByteArray → List ByteArray → Int → Option (Bool)
  | 0, _, _, _, _, _, _ => none
  | k + 1, x0, x1, x5, x6, x7, x8 => if x8 < (x0.length : Int) then (umlautlaw17_LexOps.j1 k x0 x1 x5 x6 x7 x8 (decide (x8 < 20))) else (umlautlaw17_LexOps.j1 k x0 x1 x5 x6 x7 x8 false)
def umlautlaw17_LexOps.j1 : Nat → List Int → Bool → List ByteArray → ByteArray → List ByteArray → Int → Bool → Option (Bool)
  | 0, _, _, _, _, _, _, _ => none
  | k + 1, x0, x1, x5, x6, x7, x8, x22 => if x22 = true then (if 0 ≤ x8 then (if x8 < (x0.length : Int) then (if (x5.length : Int) = 0 then (none) else (if x1 = true then (umlautlaw17_LexOps.j2 k x0 x1 x5 x6 x7 x8 (Int.tmod (Go.bits .and .i64 (rd x0 x8) 65535) (x5.length : Int)) (decide ((Int.tmod (Go.bits .and .i64 (rd x0 x8) 65535) (x5.length : Int)) ≥ 18))) else (umlautlaw17_LexOps.j2 k x0 x1 x5 x6 x7 x8 (Int.tmod (Go.bits .and .i64 (rd x0 x8) 65535) (x5.length : Int)) false))) else (none)) else (none)) else ((lex_Tokens.f k x6).bind fun bt441 => (if bt441.2.2 = 0 then (umlautlaw17_LexOps.j5 k x7 bt441.1 ((bt441.1.length : Int) != (x7.length : Int))) else (umlautlaw17_LexOps.j5 k x7 bt441.1 true)))
def umlautlaw17_LexOps.j2 : Nat → List Int → Bool → List ByteArray → ByteArray → List ByteArray → Int → Int → Bool → Option (Bool)
  | 0, _, _, _, _, _, _, _, _ => none
  | k + 1, x0, x1, x5, x6, x7, x8, x9, x37 => if x37 = true then (umlautlaw17_LexOps.j3 k x0 x1 x5 x6 x7 x8 0) else (umlautlaw17_LexOps.j3 k x0 x1 x5 x6 x7 x8 x9)
def umlautlaw17_LexOps.j3 : Nat → List Int → Bool → List ByteArray → ByteArray → List ByteArray → Int → Int → Option (Bool)
  | 0, _, _, _, _, _, _, _ => none
  | k + 1, x0, x1, x5, x6, x7, x8, x9 => if x1 = true then (umlautlaw17_LexOps.j4 k x0 x1 x5 x6 x7 x8 x9 false) else (umlautlaw17_LexOps.j4 k x0 x1 x5 x6 x7 x8 x9 (decide (x8 > 0)))
def umlautlaw17_LexOps.j4 : Nat → List Int → Bool → List ByteArray → ByteArray → List ByteArray → Int → Int → Bool → Option (Bool)
  | 0, _, _, _, _, _, _, _, _ => none
  | k + 1, x0, x1, x5, x6, x7, x8, x9, x43 => if x43 = true then (if x6.size + 1 ≤ 9223372036854775807 then (if x1 = true then (none) else (if 0 ≤ x9 then (if x9 < (x5.length : Int) then (if (x6 ++ (⟨#[32]⟩ : ByteArray)).size + (rdOf ByteArray.empty x5 x9).size ≤ 9223372036854775807 then (if x7.length < 8796093022208 then (umlautlaw17_LexOps.l0 k x0 x1 x5 ((x6 ++ (⟨#[32]⟩ : ByteArray)) ++ (rdOf ByteArray.empty x5 x9)) (x7 ++ [rdOf ByteArray.empty x5 x9]) (wrap64 (x8 + 1))) else (none)) else (none)) else (none)) else (none))) else (none)) else (if x1 = true then (if (x7.length : Int) > 0 then (if 0 ≤ (wrap64 ((x7.length : Int) - 1)) then (if (wrap64 ((x7.length : Int) - 1)) < (x7.length : Int) then (if (rdOf ByteArray.empty x7 (wrap64 ((x7.length : Int) - 1))).toList = ([60, 62] : List UInt8) then (if x9 ≥ 6 then (if 1 < (x5.length : Int) then (if x6.size + (rdOf ByteArray.empty x5 1).size ≤ 9223372036854775807 then (if x7.length < 8796093022208 then (umlautlaw17_LexOps.l0 k x0 x1 x5 (x6 ++ (rdOf ByteArray.empty x5 1)) (x7 ++ [rdOf ByteArray.empty x5 1]) (wrap64 (x8 + 1))) else (none)) else (none)) else (none)) else (if 0 ≤ x9 then (if x9 < (x5.length : Int) then (if x6.size + (rdOf ByteArray.empty x5 x9).size ≤ 9223372036854775807 then (if x7.length < 8796093022208 then (umlautlaw17_LexOps.l0 k x0 x1 x5 (x6 ++ (rdOf ByteArray.empty x5 x9)) (x7 ++ [rdOf ByteArray.empty x5 x9]) (wrap64 (x8 + 1))) else (none)) else (none)) else (none)) else (none))) else (if (rdOf ByteArray.empty x7 (wrap64 ((x7.length : Int) - 1))).toList = ([60, 60] : List UInt8) then (if x9 ≥ 6 then (if 1 < (x5.length : Int) then (if x6.size + (rdOf ByteArray.empty x5 1).size ≤ 9223372036854775807 then (if x7.length < 8796093022208 then (umlautlaw17_LexOps.l0 k x0 x1 x5 (x6 ++ (rdOf ByteArray.empty x5 1)) (x7 ++ [rdOf ByteArray.empty x5 1]) (wrap64 (x8 + 1))) else (none)) else (none)) else (none)) else (if 0 ≤ x9 then (if x9 < (x5.length : Int) then (if x6.size + (rdOf ByteArray.empty x5 x9).size ≤ 9223372036854775807 then (if x7.length < 8796093022208 then (umlautlaw17_LexOps.l0 k x0 x1 x5 (x6 ++ (rdOf ByteArray.empty x5 x9)) (x7 ++ [rdOf ByteArray.empty x5 x9]) (wrap64 (x8 + 1))) else (none)) else (none)) else (none)) else (none))) else (if (rdOf ByteArray.empty x7 (wrap64 ((x7.length : Int) - 1))).toList = ([60, 61] : List UInt8) then (if x9 ≥ 6 then (if 1 < (x5.length : Int) then (if x6.size + (rdOf ByteArray.empty x5 1).size ≤ 9223372036854775807 then (if x7.length < 8796093022208 then (umlautlaw17_LexOps.l0 k x0 x1 x5 (x6 ++ (rdOf ByteArray.empty x5 1)) (x7 ++ [rdOf ByteArray.empty x5 1]) (wrap64 (x8 + 1))) else (none)) else (none)) else (none)) else (if 0 ≤ x9 then (if x9 < (x5.length : Int) then (if x6.size + (rdOf ByteArray.empty x5 x9).size ≤ 9223372036854775807 then (if x7.length < 8796093022208 then (umlautlaw17_LexOps.l0 k x0 x1 x5 (x6 ++ (rdOf ByteArray.empty x5 x9)) (x7 ++ [rdOf ByteArray.empty x5 x9]) (wrap64 (x8 + 1))) else (none)) else (none)) else (none)) else (none))) else (if (rdOf ByteArray.empty x7 (wrap64 ((x7.length : Int) - 1))).toList = ([124, 124] : List UInt8) then (if x9 ≥ 6 then (if 1 < (x5.length : Int) then (if x6.size + (rdOf ByteArray.empty x5 1).size ≤ 9223372036854775807 then (if x7.length < 8796093022208 then (umlautlaw17_LexOps.l0 k x0 x1 x5 (x6 ++ (rdOf ByteArray.empty x5 1)) (x7 ++ [rdOf ByteArray.empty x5 1]) (wrap64 (x8 + 1))) else (none)) else (none)) else (none)) else (if 0 ≤ x9 then (if x9 < (x5.length : Int) then (if x6.size + (rdOf ByteArray.empty x5 x9).size ≤ 9223372036854775807 then (if x7.length < 8796093022208 then (umlautlaw17_LexOps.l0 k x0 x1 x5 (x6 ++ (rdOf ByteArray.empty x5 x9)) (x7 ++ [rdOf ByteArray.empty x5 x9]) (wrap64 (x8 + 1))) else (none)) else (none)) else (none)) else (none))) else (if 0 ≤ x9 then (if x9 < (x5.length : Int) then (if x6.size + (rdOf ByteArray.empty x5 x9).size ≤ 9223372036854775807 then (if x7.length < 8796093022208 then (umlautlaw17_LexOps.l0 k x0 x1 x5 (x6 ++ (rdOf ByteArray.empty x5 x9)) (x7 ++ [rdOf ByteArray.empty x5 x9]) (wrap64 (x8 + 1))) else (none)) else (none)) else (none)) else (none)))))) else (none)) else (none)) else (if 0 ≤ x9 then (if x9 < (x5.length : Int) then (if x6.size + (rdOf ByteArray.empty x5 x9).size ≤ 9223372036854775807 then (if x7.length < 8796093022208 then (umlautlaw17_LexOps.l0 k x0 x1 x5 (x6 ++ (rdOf ByteArray.empty x5 x9)) (x7 ++ [rdOf ByteArray.empty x5 x9]) (wrap64 (x8 + 1))) else (none)) else (none)) else (none)) else (none))) else (if 0 ≤ x9 then (if x9 < (x5.length : Int) then (if x6.size + (rdOf ByteArray.empty x5 x9).size ≤ 9223372036854775807 then (if x7.length < 8796093022208 then (umlautlaw17_LexOps.l0 k x0 x1 x5 (x6 ++ (rdOf ByteArray.empty x5 x9)) (x7 ++ [rdOf ByteArray.empty x5 x9]) (wrap64 (x8 + 1))) else (none)) else (none)) else (none)) else (none)))
def umlautlaw17_LexOps.j5 : Nat → List ByteArray → List (S28) → Bool → Option (Bool)
  | 0, _, _, _ => none
  | k + 1, x7, x10, x119 => if x119 = true then (some false) else (umlautlaw17_LexOps.l1 k x7 x10 0)
def umlautlaw17_LexOps.l1 : Nat → List ByteArray → List (S28) → Int → Option (Bool)
  | 0, _, _, _ => none
  | k + 1, x7, x10, x13 => if x13 < (x10.length : Int) then (if 0 ≤ x13 then (if ((rd_T28 x10 x13).f0) = 5 then (if x13 < (x7.length : Int) then (if ((rd_T28 x10 x13).f1).toList = (rdOf ByteArray.empty x7 x13).toList then (umlautlaw17_LexOps.l1 k x7 x10 (wrap64 (x13 + 1))) else (some false)) else (none)) else (some false)) else (none)) else ((umlautlaw17_awake.f k).bind fun t449 => (some t449))
end
def umlautlaw17_LexOps.f (k : Nat) (l0 : List Int) (a1 : Bool) : Option (Bool) := umlautlaw17_LexOps.l0 k l0 a1 (([(⟨#[40]⟩ : ByteArray), (⟨#[41]⟩ : ByteArray), (⟨#[44]⟩ : ByteArray), (⟨#[46]⟩ : ByteArray), (⟨#[59]⟩ : ByteArray), (⟨#[42]⟩ : ByteArray), (⟨#[61]⟩ : ByteArray), (⟨#[43]⟩ : ByteArray), (⟨#[47]⟩ : ByteArray), (⟨#[37]⟩ : ByteArray), (⟨#[38]⟩ : ByteArray), (⟨#[94]⟩ : ByteArray), (⟨#[60, 62]⟩ : ByteArray), (⟨#[60, 61]⟩ : ByteArray), (⟨#[62, 61]⟩ : ByteArray), (⟨#[60, 60]⟩ : ByteArray), (⟨#[62, 62]⟩ : ByteArray), (⟨#[124, 124]⟩ : ByteArray), (⟨#[60]⟩ : ByteArray), (⟨#[62]⟩ : ByteArray), (⟨#[124]⟩ : ByteArray), (⟨#[45]⟩ : ByteArray)] : List ByteArray)) (⟨#[]⟩ : ByteArray) ([] : List ByteArray) 0
theorem umlautlaw17_LexOps.mono_l : ∀ k, (∀ y0 y1 y2 y3 y4 y5, LeO (umlautlaw17_LexOps.l0 k y0 y1 y2 y3 y4 y5) (umlautlaw17_LexOps.l0 (k + 1) y0 y1 y2 y3 y4 y5)) ∧ (∀ y0 y1 y2 y3 y4 y5 y6, LeO (umlautlaw17_LexOps.j1 k y0 y1 y2 y3 y4 y5 y6) (umlautlaw17_LexOps.j1 (k + 1) y0 y1 y2 y3 y4 y5 y6)) ∧ (∀ y0 y1 y2 y3 y4 y5 y6 y7, LeO (umlautlaw17_LexOps.j2 k y0 y1 y2 y3 y4 y5 y6 y7) (umlautlaw17_LexOps.j2 (k + 1) y0 y1 y2 y3 y4 y5 y6 y7)) ∧ (∀ y0 y1 y2 y3 y4 y5 y6, LeO (umlautlaw17_LexOps.j3 k y0 y1 y2 y3 y4 y5 y6) (umlautlaw17_LexOps.j3 (k + 1) y0 y1 y2 y3 y4 y5 y6)) ∧ (∀ y0 y1 y2 y3 y4 y5 y6 y7, LeO (umlautlaw17_LexOps.j4 k y0 y1 y2 y3 y4 y5 y6 y7) (umlautlaw17_LexOps.j4 (k + 1) y0 y1 y2 y3 y4 y5 y6 y7)) ∧ (∀ y0 y1 y2, LeO (umlautlaw17_LexOps.j5 k y0 y1 y2) (umlautlaw17_LexOps.j5 (k + 1) y0 y1 y2)) ∧ (∀ y0 y1 y2, LeO (umlautlaw17_LexOps.l1 k y0 y1 y2) (umlautlaw17_LexOps.l1 (k + 1) y0 y1 y2))
  | 0 => ⟨fun _ _ _ _ _ _ r h => by simp [umlautlaw17_LexOps.l0] at h, fun _ _ _ _ _ _ _ r h => by simp [umlautlaw17_LexOps.j1] at h, fun _ _ _ _ _ _ _ _ r h => by simp [umlautlaw17_LexOps.j2] at h, fun _ _ _ _ _ _ _ r h => by simp [umlautlaw17_LexOps.j3] at h, fun _ _ _ _ _ _ _ _ r h => by simp [umlautlaw17_LexOps.j4] at h, fun _ _ _ r h => by simp [umlautlaw17_LexOps.j5] at h, fun _ _ _ r h => by simp [umlautlaw17_LexOps.l1] at h⟩
  | k + 1 => by
    obtain ⟨ih0, ih1, ih2, ih3, ih4, ih5, ih6⟩ := umlautlaw17_LexOps.mono_l k
    refine ⟨?_, ?_, ?_, ?_, ?_, ?_, ?_⟩
    · intro y0 y1 y2 y3 y4 y5
      unfold umlautlaw17_LexOps.l0
      repeat' first
      | (with_reducible exact ih0 _ _ _ _ _ _)
      | (with_reducible exact ih1 _ _ _ _ _ _ _)
      | (with_reducible exact ih2 _ _ _ _ _ _ _ _)
      | (with_reducible exact ih3 _ _ _ _ _ _ _)
      | (with_reducible exact ih4 _ _ _ _ _ _ _ _)
      | (with_reducible exact ih5 _ _ _)
      | (with_reducible exact ih6 _ _ _)
      | (with_reducible exact lex_Tokens.mono _ _)
      | (with_reducible exact umlautlaw17_awake.mono _)
      | (with_reducible exact LeO.refl _)
      | (with_reducible exact LeO.none _)
      | (with_reducible refine LeO.ite ?_ ?_)
      | (with_reducible refine LeO.bind ?_ (fun _ => ?_))
      | exact ih0 _ _ _ _ _ _
      | exact ih1 _ _ _ _ _ _ _
      | exact ih2 _ _ _ _ _ _ _ _
      | exact ih3 _ _ _ _ _ _ _
      | exact ih4 _ _ _ _ _ _ _ _
      | exact ih5 _ _ _
      | exact ih6 _ _ _
      | exact lex_Tokens.mono _ _
      | exact umlautlaw17_awake.mono _
      | exact LeO.none _
      | refine LeO.ite ?_ ?_
      | refine LeO.bind ?_ (fun _ => ?_)
    · intro y0 y1 y2 y3 y4 y5 y6
      unfold umlautlaw17_LexOps.j1
      repeat' first
      | (with_reducible exact ih0 _ _ _ _ _ _)
      | (with_reducible exact ih1 _ _ _ _ _ _ _)
      | (with_reducible exact ih2 _ _ _ _ _ _ _ _)
      | (with_reducible exact ih3 _ _ _ _ _ _ _)
      | (with_reducible exact ih4 _ _ _ _ _ _ _ _)
      | (with_reducible exact ih5 _ _ _)
      | (with_reducible exact ih6 _ _ _)
      | (with_reducible exact lex_Tokens.mono _ _)
      | (with_reducible exact umlautlaw17_awake.mono _)
      | (with_reducible exact LeO.refl _)
      | (with_reducible exact LeO.none _)
      | (with_reducible refine LeO.ite ?_ ?_)
      | (with_reducible refine LeO.bind ?_ (fun _ => ?_))
      | exact ih0 _ _ _ _ _ _
      | exact ih1 _ _ _ _ _ _ _
      | exact ih2 _ _ _ _ _ _ _ _
      | exact ih3 _ _ _ _ _ _ _
      | exact ih4 _ _ _ _ _ _ _ _
      | exact ih5 _ _ _
      | exact ih6 _ _ _
      | exact lex_Tokens.mono _ _
      | exact umlautlaw17_awake.mono _
      | exact LeO.none _
      | refine LeO.ite ?_ ?_
      | refine LeO.bind ?_ (fun _ => ?_)
    · intro y0 y1 y2 y3 y4 y5 y6 y7
      unfold umlautlaw17_LexOps.j2
      repeat' first
      | (with_reducible exact ih0 _ _ _ _ _ _)
      | (with_reducible exact ih1 _ _ _ _ _ _ _)
      | (with_reducible exact ih2 _ _ _ _ _ _ _ _)
      | (with_reducible exact ih3 _ _ _ _ _ _ _)
      | (with_reducible exact ih4 _ _ _ _ _ _ _ _)
      | (with_reducible exact ih5 _ _ _)
      | (with_reducible exact ih6 _ _ _)
      | (with_reducible exact lex_Tokens.mono _ _)
      | (with_reducible exact umlautlaw17_awake.mono _)
      | (with_reducible exact LeO.refl _)
      | (with_reducible exact LeO.none _)
      | (with_reducible refine LeO.ite ?_ ?_)
      | (with_reducible refine LeO.bind ?_ (fun _ => ?_))
      | exact ih0 _ _ _ _ _ _
      | exact ih1 _ _ _ _ _ _ _
      | exact ih2 _ _ _ _ _ _ _ _
      | exact ih3 _ _ _ _ _ _ _
      | exact ih4 _ _ _ _ _ _ _ _
      | exact ih5 _ _ _
      | exact ih6 _ _ _
      | exact lex_Tokens.mono _ _
      | exact umlautlaw17_awake.mono _
      | exact LeO.none _
      | refine LeO.ite ?_ ?_
      | refine LeO.bind ?_ (fun _ => ?_)
    · intro y0 y1 y2 y3 y4 y5 y6
      unfold umlautlaw17_LexOps.j3
      repeat' first
      | (with_reducible exact ih0 _ _ _ _ _ _)
      | (with_reducible exact ih1 _ _ _ _ _ _ _)
      | (with_reducible exact ih2 _ _ _ _ _ _ _ _)
      | (with_reducible exact ih3 _ _ _ _ _ _ _)
      | (with_reducible exact ih4 _ _ _ _ _ _ _ _)
      | (with_reducible exact ih5 _ _ _)
      | (with_reducible exact ih6 _ _ _)
      | (with_reducible exact lex_Tokens.mono _ _)
      | (with_reducible exact umlautlaw17_awake.mono _)
      | (with_reducible exact LeO.refl _)
      | (with_reducible exact LeO.none _)
      | (with_reducible refine LeO.ite ?_ ?_)
      | (with_reducible refine LeO.bind ?_ (fun _ => ?_))
      | exact ih0 _ _ _ _ _ _
      | exact ih1 _ _ _ _ _ _ _
      | exact ih2 _ _ _ _ _ _ _ _
      | exact ih3 _ _ _ _ _ _ _
      | exact ih4 _ _ _ _ _ _ _ _
      | exact ih5 _ _ _
      | exact ih6 _ _ _
      | exact lex_Tokens.mono _ _
      | exact umlautlaw17_awake.mono _
      | exact LeO.none _
      | refine LeO.ite ?_ ?_
      | refine LeO.bind ?_ (fun _ => ?_)
    · intro y0 y1 y2 y3 y4 y5 y6 y7
      unfold umlautlaw17_LexOps.j4
      repeat' first
      | (with_reducible exact ih0 _ _ _ _ _ _)
      | (with_reducible exact ih1 _ _ _ _ _ _ _)
      | (with_reducible exact ih2 _ _ _ _ _ _ _ _)
      | (with_reducible exact ih3 _ _ _ _ _ _ _)
      | (with_reducible exact ih4 _ _ _ _ _ _ _ _)
      | (with_reducible exact ih5 _ _ _)
      | (with_reducible exact ih6 _ _ _)
      | (with_reducible exact lex_Tokens.mono _ _)
      | (with_reducible exact umlautlaw17_awake.mono _)
      | (with_reducible exact LeO.refl _)
      | (with_reducible exact LeO.none _)
      | (with_reducible refine LeO.ite ?_ ?_)
      | (with_reducible refine LeO.bind ?_ (fun _ => ?_))
      | exact ih0 _ _ _ _ _ _
      | exact ih1 _ _ _ _ _ _ _
      | exact ih2 _ _ _ _ _ _ _ _
      | exact ih3 _ _ _ _ _ _ _
      | exact ih4 _ _ _ _ _ _ _ _
      | exact ih5 _ _ _
      | exact ih6 _ _ _
      | exact lex_Tokens.mono _ _
      | exact umlautlaw17_awake.mono _
      | exact LeO.none _
      | refine LeO.ite ?_ ?_
      | refine LeO.bind ?_ (fun _ => ?_)
    · intro y0 y1 y2
      unfold umlautlaw17_LexOps.j5
      repeat' first
      | (with_reducible exact ih0 _ _ _ _ _ _)
      | (with_reducible exact ih1 _ _ _ _ _ _ _)
      | (with_reducible exact ih2 _ _ _ _ _ _ _ _)
      | (with_reducible exact ih3 _ _ _ _ _ _ _)
      | (with_reducible exact ih4 _ _ _ _ _ _ _ _)
      | (with_reducible exact ih5 _ _ _)
      | (with_reducible exact ih6 _ _ _)
      | (with_reducible exact lex_Tokens.mono _ _)
      | (with_reducible exact umlautlaw17_awake.mono _)
      | (with_reducible exact LeO.refl _)
      | (with_reducible exact LeO.none _)
      | (with_reducible refine LeO.ite ?_ ?_)
      | (with_reducible refine LeO.bind ?_ (fun _ => ?_))
      | exact ih0 _ _ _ _ _ _
      | exact ih1 _ _ _ _ _ _ _
      | exact ih2 _ _ _ _ _ _ _ _
      | exact ih3 _ _ _ _ _ _ _
      | exact ih4 _ _ _ _ _ _ _ _
      | exact ih5 _ _ _
      | exact ih6 _ _ _
      | exact lex_Tokens.mono _ _
      | exact umlautlaw17_awake.mono _
      | exact LeO.none _
      | refine LeO.ite ?_ ?_
      | refine LeO.bind ?_ (fun _ => ?_)
    · intro y0 y1 y2
      unfold umlautlaw17_LexOps.l1
      repeat' first
      | (with_reducible exact ih0 _ _ _ _ _ _)
      | (with_reducible exact ih1 _ _ _ _ _ _ _)
      | (with_reducible exact ih2 _ _ _ _ _ _ _ _)
      | (with_reducible exact ih3 _ _ _ _ _ _ _)
      | (with_reducible exact ih4 _ _ _ _ _ _ _ _)
      | (with_reducible exact ih5 _ _ _)
      | (with_reducible exact ih6 _ _ _)
      | (with_reducible exact lex_Tokens.mono _ _)
      | (with_reducible exact umlautlaw17_awake.mono _)
      | (with_reducible exact LeO.refl _)
      | (with_reducible exact LeO.none _)
      | (with_reducible refine LeO.ite ?_ ?_)
      | (with_reducible refine LeO.bind ?_ (fun _ => ?_))
      | exact ih0 _ _ _ _ _ _
      | exact ih1 _ _ _ _ _ _ _
      | exact ih2 _ _ _ _ _ _ _ _
      | exact ih3 _ _ _ _ _ _ _
      | exact ih4 _ _ _ _ _ _ _ _
      | exact ih5 _ _ _
      | exact ih6 _ _ _
      | exact lex_Tokens.mono _ _
      | exact umlautlaw17_awake.mono _
      | exact LeO.none _
      | refine LeO.ite ?_ ?_
      | refine LeO.bind ?_ (fun _ => ?_)
theorem umlautlaw17_LexOps.mono : ∀ a0 a1 k, LeO (umlautlaw17_LexOps.f k a0 a1) (umlautlaw17_LexOps.f (k + 1) a0 a1) := by
  intro a0 a1 k
  obtain ⟨ih0, ih1, ih2, ih3, ih4, ih5, ih6⟩ := umlautlaw17_LexOps.mono_l k
  unfold umlautlaw17_LexOps.f
  repeat' first
      | (with_reducible exact ih0 _ _ _ _ _ _)
      | (with_reducible exact ih1 _ _ _ _ _ _ _)
      | (with_reducible exact ih2 _ _ _ _ _ _ _ _)
      | (with_reducible exact ih3 _ _ _ _ _ _ _)
      | (with_reducible exact ih4 _ _ _ _ _ _ _ _)
      | (with_reducible exact ih5 _ _ _)
      | (with_reducible exact ih6 _ _ _)
      | (with_reducible exact lex_Tokens.mono _ _)
      | (with_reducible exact umlautlaw17_awake.mono _)
      | (with_reducible exact LeO.refl _)
      | (with_reducible exact LeO.none _)
      | (with_reducible refine LeO.ite ?_ ?_)
      | (with_reducible refine LeO.bind ?_ (fun _ => ?_))
      | exact ih0 _ _ _ _ _ _
      | exact ih1 _ _ _ _ _ _ _
      | exact ih2 _ _ _ _ _ _ _ _
      | exact ih3 _ _ _ _ _ _ _
      | exact ih4 _ _ _ _ _ _ _ _
      | exact ih5 _ _ _
      | exact ih6 _ _ _
      | exact lex_Tokens.mono _ _
      | exact umlautlaw17_awake.mono _
      | exact LeO.none _
      | refine LeO.ite ?_ ?_
      | refine LeO.bind ?_ (fun _ => ?_)
end Go.Proofs.YtobhcpfdgfkeiaaDoor.Lx
