/-
  Texts of this claim, joined: part 1.
-/
import Derived.Test.YtobhcpfdgfkeiaaDoorProg
import Derived.Below
import Derived.Deep.Draws
import Derived.Deep.AppendLies
import Derived.Maps.AppendAt
import Derived.OwnWalk
import Derived.Laws.BytesArg
import Derived.Laws.MakeOwn
import Derived.Laws.OwnMore
import Derived.Deep.OwnRows
import Derived.Tactics
import Derived.Lib.ConvBytes
import Derived.Laws.Slices
import Derived.WalkKit
import Derived.KernelRfl
import Derived.RowKit3
import Derived.Deep.LoopGhost
import Derived.Deep.QuietTactic
import Derived.BigQuiet
import Derived.WideLaws
import Derived.Deep.DeepCutAuto
import Derived.Deep.CutBlock
import Derived.Deep.RegionHeld3
import Derived.Laws.Rows
import Derived.Lib.AppendStr
import Derived.ArgAppend
import Derived.Laws.IdiomCopy
import Derived.OrdersHeld
import Derived.Laws.BitsLemmas
import Derived.RowKit
import Derived.Test.YtobhcpfdgfkeiaaDoorWWords
import Derived.Test.YtobhcpfdgfkeiaaDoorWLast
import Derived.Test.YtobhcpfdgfkeiaaDoorWTab
import Derived.Test.YtobhcpfdgfkeiaaDoorWFour
import Derived.Test.YtobhcpfdgfkeiaaDoorWQPut
import Derived.Test.YtobhcpfdgfkeiaaDoorWApart
import Derived.Test.YtobhcpfdgfkeiaaDoorWArr
import Derived.Test.YtobhcpfdgfkeiaaDoorWZeros
import Derived.Test.YtobhcpfdgfkeiaaDoorWFoot
import Derived.Test.YtobhcpfdgfkeiaaDoorWKept
import Derived.Test.YtobhcpfdgfkeiaaDoorWShare
import Derived.Test.YtobhcpfdgfkeiaaDoorWN
import Derived.Test.YtobhcpfdgfkeiaaDoorWFootNe
import Derived.Test.YtobhcpfdgfkeiaaDoorWAt
import Derived.Test.YtobhcpfdgfkeiaaDoorWEqStruct
import Derived.Test.YtobhcpfdgfkeiaaDoorWRepsOne
import Derived.Test.YtobhcpfdgfkeiaaDoorWInv
import Derived.Test.YtobhcpfdgfkeiaaDoorWInvWords
import Derived.Test.YtobhcpfdgfkeiaaDoorWGuard
import Derived.Test.YtobhcpfdgfkeiaaDoorWNEv
import Derived.Test.YtobhcpfdgfkeiaaDoorWMore
import Derived.Shelf.Strings.Builder1
import Derived.Shelf.Strings.Builder2
import Derived.Shelf.Strings.OnBuilder
import Derived.Shelf.Small.Utf8
import Derived.Shelf.Small.Strs
import Derived.Shelf.Strings.BuilderF
import Derived.Shelf.Strings.BuilderK
import Derived.Shelf.Strings.BuilderRune
import Derived.Shelf.Strconv.Itoa0
import Derived.Shelf.Strconv.ParseIntEmpty
import Derived.Shelf.LaysM
import Derived.Shelf.Strconv.Clone
import Derived.Shelf.Strconv.SyntaxError
import Derived.Shelf.LaysC
import Derived.Shelf.Strconv.ToError
import Derived.Shelf.Strconv.Lower
import Derived.Shelf.Strconv.ParseUint10
import Derived.Shelf.Strconv.ParseUint10Empty
import Derived.Shelf.Strconv.ParseUint10Any
import Derived.Shelf.Strconv.ParseInt10
import Derived.Shelf.Strconv.RangeError
import Derived.Shelf.Strconv.ToErrorRange
import Derived.Shelf.Strconv.ParseUintEmpty
import Derived.Shelf.Strconv.ParseUint10b64
import Derived.Shelf.Strconv.ParseUint10b32
import Derived.Shelf.Strconv.ParseUint10b16
import Derived.Shelf.Strconv.ParseUint10b8
import Derived.Shelf.Strconv.ParseUint10At
import Derived.Shelf.Strconv.ParseInt10At64
import Derived.Shelf.Strconv.ParseInt10At32
import Derived.Shelf.Strconv.ParseInt10At16
import Derived.Shelf.Strconv.ParseInt10At8
import Derived.Shelf.Strconv.ParseInt10All
import Derived.Shelf.Strconv.ParseIntPublic10
import Derived.Shelf.Strconv.ErrVarParseInt
import Derived.Shelf.Strings.Search1
import Derived.Shelf.Strings.Search2
import Derived.Shelf.Strings.Search3
import Derived.Shelf.Strings.Shaped
import Derived.Shelf.Strings.Prefix
import Derived.Shelf.Unicode.Latin
import Derived.Shelf.Unicode.DecodeSlow
import Derived.Shelf.Unicode.DecodeAny
import Derived.Shelf.Unicode.CaseLookup
import Derived.Shelf.Unicode.CaseConvert
import Derived.Shelf.Unicode.CaseTo
import Derived.Shelf.Unicode.CaseLaid
import Derived.Shelf.Strings.MapAny
import Derived.Shelf.Strings.CaseAny
import Derived.WalkSpells
import Derived.Outline
import Derived.Test.YtobhcpfdgfkeiaaDoorRows
import Derived.Lib.LaidU8
import Derived.LaidLaws
import Derived.MakeChecks
import Derived.Shelf.Vars
import Derived.Handy
import Derived.Lib.IndexAny
namespace Go.Proofs.YtobhcpfdgfkeiaaDoor.Lf
open Go.RowKit Go.Proofs.YtobhcpfdgfkeiaaDoorW.PrintWords Go.Proofs.YtobhcpfdgfkeiaaDoorW.PrintLast Go.Proofs.YtobhcpfdgfkeiaaDoorW.PrintMore
attribute [local go_sem] max2_int min2_int max_two min_two max_three min_three max_four min_four   -- for this text's walks alone
set_option linter.unusedVariables false
set_option linter.unusedSimpArgs false



def errW : Option Int → Value
  | none => .nilIface
  | some c => .iface 0 (.int .i64 c)
theorem errW_none : errW none = .nilIface := rfl
theorem errW_some (c : Int) : errW (some c) = .iface 0 (.int .i64 c) := rfl

-- the values' own types

end Go.Proofs.YtobhcpfdgfkeiaaDoor.Lf

namespace Go.Proofs.YtobhcpfdgfkeiaaDoor.Lf
open Go.RowKit Go.Proofs.YtobhcpfdgfkeiaaDoorW.PrintWords Go.Proofs.YtobhcpfdgfkeiaaDoorW.PrintLast Go.Proofs.YtobhcpfdgfkeiaaDoorW.PrintMore
attribute [local go_sem] max2_int min2_int max_two min_two max_three min_three max_four min_four   -- for this text's walks alone
set_option linter.unusedVariables false
set_option linter.unusedSimpArgs false

/-! ### lex_letter: function 33 -/
def lex_letter.f (a0 : Int) : Option (Bool) := if a0 ≥ 64 then (if a0 < 128 then (if 0 ≤ (Go.bits .and .u8 a0 31) then (if (Go.bits .and .i64 (shr .i64 134217726 (Go.bits .and .u8 a0 31)) 1) = 1 then (some true) else (some (a0 == 95))) else (none)) else (some false)) else (some false)
set_option maxHeartbeats 8000000 in
set_option maxRecDepth 100000 in
theorem lex_letter.calls (a0 : Int) (r : Bool) (w : World) (h : lex_letter.f a0 = some r) :
    Calls Tryd.prog 33 #[.int .u8 a0] w fun e w' => e = .returned (.bool r) ∧ Drawn0 w w' := by
  have H : (if a0 ≥ 64 then (if a0 < 128 then (if 0 ≤ (Go.bits .and .u8 a0 31) then (if (Go.bits .and .i64 (shr .i64 134217726 (Go.bits .and .u8 a0 31)) 1) = 1 then (some true) else (some (a0 == 95))) else (none)) else (some false)) else (some false)) = some r := h
  clear h
  by_cases c2 : a0 ≥ 64
  · rw [if_pos c2] at H
    have c2b0 : decide (64 ≤ a0) = true := decide_eq_true c2
    clear c2
    by_cases c3 : a0 < 128
    · rw [if_pos c3] at H
      have c3b0 : decide (a0 < 128) = true := decide_eq_true c3
      clear c3
      by_cases c4 : 0 ≤ (Go.bits .and .u8 a0 31)
      · rw [if_pos c4] at H
        have c4b0 := eq_true c4
        have c4b1 : decide (0 ≤ (Go.bits .and .u8 a0 31)) = true := decide_eq_true c4
        clear c4
        obtain ⟨ji5, hji5⟩ : ∃ j_ : Int, (shr .i64 134217726 (Go.bits .and .u8 a0 31)) = j_ := ⟨_, rfl⟩
        replace H : (if (Go.bits .and .i64 (ji5) 1) = 1 then (some true) else (some (a0 == 95))) = some r := by first | (rw [hji5] at H; exact H) | (simp only [hji5] at H ⊢; exact H)
        have hji5_ : (134217726 / 2 ^ min (Go.bits .and .u8 a0 31).toNat 64) = ji5 := hji5
        have hji5z : (Go.bits .and .u8 a0 31) ≤ 64 → (134217726 / 2 ^ (Go.bits .and .u8 a0 31).toNat) = ji5 := shr_small hji5
        by_cases c6 : (Go.bits .and .i64 (ji5) 1) = 1
        · rw [if_pos c6] at H
          have c6b0 : ((Go.bits .and .i64 (ji5) 1) == 1) = true := beq_iff_eq.mpr c6
          have c6b1 : ((Go.bits .and .i64 (ji5) 1) != 1) = false := bne_eq_false_iff_eq.mpr c6
          clear c6
          obtain rfl := Option.some.inj H
          go_enter Tryd.func33, Tryd.ntmps33
          go_wp2
          go_ret
          exact ⟨by first | rfl | (simp; done) | (simp only [← hji5] <;> (first | rfl | simp)) | (simp [*]; done), by repeat (first | exact Drawn0.refl _ | apply Drawn0.step)⟩
        · rw [if_neg c6] at H
          have c6b0 : ((Go.bits .and .i64 (ji5) 1) == 1) = false := beq_eq_false_iff_ne.mpr c6
          have c6b1 : ((Go.bits .and .i64 (ji5) 1) != 1) = true := bne_iff_ne.mpr c6
          obtain rfl := Option.some.inj H
          go_enter Tryd.func33, Tryd.ntmps33
          go_wp2
          go_ret
          exact ⟨by first | rfl | (simp; done) | (simp only [← hji5] <;> (first | rfl | simp)) | (simp [*]; done), by repeat (first | exact Drawn0.refl _ | apply Drawn0.step)⟩
      · rw [if_neg c4] at H
        exact absurd H (by simp)
    · rw [if_neg c3] at H
      have c3b0 : decide (a0 < 128) = false := decide_eq_false c3
      clear c3
      obtain rfl := Option.some.inj H
      go_enter Tryd.func33, Tryd.ntmps33
      go_wp2
      go_ret
      exact ⟨by first | rfl | (simp; done) | (simp [*]; done), by repeat (first | exact Drawn0.refl _ | apply Drawn0.step)⟩
  · rw [if_neg c2] at H
    have c2b0 : decide (64 ≤ a0) = false := decide_eq_false c2
    clear c2
    obtain rfl := Option.some.inj H
    go_enter Tryd.func33, Tryd.ntmps33
    go_wp2
    go_ret
    exact ⟨by first | rfl | (simp; done) | (simp [*]; done), by repeat (first | exact Drawn0.refl _ | apply Drawn0.step)⟩

/-- THE ONE PURE STATEMENT of lex_letter: yours. -/
def lex_letter.Pure : Prop := ∀ (a0 : Int), (Lit.int .u8 a0).wf = true → lex_letter.f a0 = some true
theorem lex_letter.walk (P : lex_letter.Pure) (a0 : Int) (w : World) (w0 : (Lit.int .u8 a0).wf = true) :
    Calls Tryd.prog 33 #[.int .u8 a0] w fun e w' => e = .returned (.bool true) ∧ Below w.heap.size w w' := by
  have h := P a0 w0
  refine (lex_letter.calls a0 true w h).mono ?_
  rintro e w' ⟨rfl, hd⟩
  exact ⟨rfl, hd.below⟩

/-! ### lex_digit: function 35 -/
def lex_digit.f (a0 : Int) : Option (Bool) := if a0 ≥ 48 then (some (decide (a0 ≤ 57))) else (some false)
set_option maxHeartbeats 8000000 in
set_option maxRecDepth 100000 in
theorem lex_digit.calls (a0 : Int) (r : Bool) (w : World) (h : lex_digit.f a0 = some r) :
    Calls Tryd.prog 35 #[.int .u8 a0] w fun e w' => e = .returned (.bool r) ∧ Drawn0 w w' := by
  have H : (if a0 ≥ 48 then (some (decide (a0 ≤ 57))) else (some false)) = some r := h
  clear h
  by_cases c2 : a0 ≥ 48
  · rw [if_pos c2] at H
    have c2b0 : decide (48 ≤ a0) = true := decide_eq_true c2
    clear c2
    obtain rfl := Option.some.inj H
    go_enter Tryd.func35, Tryd.ntmps35
    go_wp2
    go_ret
    exact ⟨by first | rfl | (simp; done) | (simp [*]; done), by repeat (first | exact Drawn0.refl _ | apply Drawn0.step)⟩
  · rw [if_neg c2] at H
    have c2b0 : decide (48 ≤ a0) = false := decide_eq_false c2
    clear c2
    obtain rfl := Option.some.inj H
    go_enter Tryd.func35, Tryd.ntmps35
    go_wp2
    go_ret
    exact ⟨by first | rfl | (simp; done) | (simp [*]; done), by repeat (first | exact Drawn0.refl _ | apply Drawn0.step)⟩

/-- THE ONE PURE STATEMENT of lex_digit: yours. -/
def lex_digit.Pure : Prop := ∀ (a0 : Int), (Lit.int .u8 a0).wf = true → lex_digit.f a0 = some true
theorem lex_digit.walk (P : lex_digit.Pure) (a0 : Int) (w : World) (w0 : (Lit.int .u8 a0).wf = true) :
    Calls Tryd.prog 35 #[.int .u8 a0] w fun e w' => e = .returned (.bool true) ∧ Below w.heap.size w w' := by
  have h := P a0 w0
  refine (lex_digit.calls a0 true w h).mono ?_
  rintro e w' ⟨rfl, hd⟩
  exact ⟨rfl, hd.below⟩

end Go.Proofs.YtobhcpfdgfkeiaaDoor.Lf

namespace Go.Proofs
open Go.Shelf Go.RowKit
def Tryd.lays137_ren : Go.Shelf.Ren := ⟨fun | 137 => 29 | 217 => 41 | 266 => 50 | n => n, fun | 9 => 9 | 5 => 5 | 3 => 3 | n => n, fun | n => n⟩
theorem Tryd.lays137 : Go.Proofs.Lays.n137 Tryd.prog Tryd.lays137_ren := {
  mixed := by kernel_rfl
  f137 := Tryd.func29.trans (congrArg some (by kernel_rfl))
  f217 := Tryd.func41.trans (congrArg some (by kernel_rfl))
  f266 := Tryd.func50.trans (congrArg some (by kernel_rfl))
  t3 := Tryd.underlying3
  a3 := Tryd.isAgg3
  z3 := Tryd.sizeOf3
  v3 := Tryd.zeroValue3
  t5 := Tryd.underlying5
  a5 := Tryd.isAgg5
  z5 := Tryd.sizeOf5
  v5 := Tryd.zeroValue5
  t9 := Tryd.underlying9
  a9 := Tryd.isAgg9
  z9 := Tryd.sizeOf9
  v9 := Tryd.zeroValue9 }
theorem Tryd.strings_IndexByte (s : ByteArray) (c : Int) (w : World) :
    Calls Tryd.prog 29 #[.string s, .int .u8 c] w fun e w' => e = .returned (.int .i64 (Lib.indexByte s.data.toList c.toNat.toUInt8)) ∧ w' = w := Any.strings_IndexByte Tryd.lays137 s c w
def Tryd.lays99_ren : Go.Shelf.Ren := ⟨fun | 99 => 30 | 206 => 42 | n => n, fun | 9 => 9 | 4 => 4 | 3 => 3 | n => n, fun | n => n⟩
theorem Tryd.lays99 : Go.Proofs.Lays.n99 Tryd.prog Tryd.lays99_ren := {
  mixed := by kernel_rfl
  f99 := Tryd.func30.trans (congrArg some (by kernel_rfl))
  f206 := Tryd.func42.trans (congrArg some (by kernel_rfl))
  t3 := Tryd.underlying3
  a3 := Tryd.isAgg3
  z3 := Tryd.sizeOf3
  v3 := Tryd.zeroValue3
  t4 := Tryd.underlying4
  a4 := Tryd.isAgg4
  z4 := Tryd.sizeOf4
  v4 := Tryd.zeroValue4
  t9 := Tryd.underlying9
  a9 := Tryd.isAgg9
  z9 := Tryd.sizeOf9
  v9 := Tryd.zeroValue9 }
theorem Tryd.strings_HasPrefix (s p : ByteArray) (w : World) :
    Calls Tryd.prog 30 #[.string s, .string p] w fun e w' => e = .returned (.bool (Lib.hasPrefix s.data.toList p.data.toList)) ∧ w' = w := Any.strings_HasPrefix Tryd.lays99 s p w
def Tryd.lays144_ren : Go.Shelf.Ren := ⟨fun | 144 => 45 | 143 => 55 | 219 => 66 | 217 => 41 | 225 => 77 | 224 => 78 | 267 => 79 | 266 => 50 | 314 => 88 | n => n, fun | 9 => 9 | 4 => 4 | 3 => 3 | 5 => 5 | 46 => 84 | 146 => 109 | 51 => 105 | n => n, fun | 1 => 0 | n => n⟩
theorem Tryd.lays144 : Go.Proofs.Lays.n144 Tryd.prog Tryd.lays144_ren := {
  mixed := by kernel_rfl
  f143 := Tryd.func55.trans (congrArg some (by kernel_rfl))
  f144 := Tryd.func45.trans (congrArg some (by kernel_rfl))
  f217 := Tryd.func41.trans (congrArg some (by kernel_rfl))
  f219 := Tryd.func66.trans (congrArg some (by kernel_rfl))
  f224 := Tryd.func78.trans (congrArg some (by kernel_rfl))
  f225 := Tryd.func77.trans (congrArg some (by kernel_rfl))
  f266 := Tryd.func50.trans (congrArg some (by kernel_rfl))
  f267 := Tryd.func79.trans (congrArg some (by kernel_rfl))
  f314 := Tryd.func88.trans (congrArg some (by kernel_rfl))
  t3 := Tryd.underlying3
  a3 := Tryd.isAgg3
  z3 := Tryd.sizeOf3
  v3 := Tryd.zeroValue3
  t4 := Tryd.underlying4
  a4 := Tryd.isAgg4
  z4 := Tryd.sizeOf4
  v4 := Tryd.zeroValue4
  t5 := Tryd.underlying5
  a5 := Tryd.isAgg5
  z5 := Tryd.sizeOf5
  v5 := Tryd.zeroValue5
  t9 := Tryd.underlying9
  a9 := Tryd.isAgg9
  z9 := Tryd.sizeOf9
  v9 := Tryd.zeroValue9
  t46 := Tryd.underlying84
  a46 := Tryd.isAgg84
  z46 := Tryd.sizeOf84
  v46 := Tryd.zeroValue84
  t51 := Tryd.underlying105
  a51 := Tryd.isAgg105
  z51 := Tryd.sizeOf105
  v51 := Tryd.zeroValue105
  t146 := Tryd.underlying109
  a146 := Tryd.isAgg109
  z146 := Tryd.sizeOf109
  v146 := Tryd.zeroValue109
  g1 := by kernel_rfl }
theorem Tryd.strings_Contains (s sub : ByteArray) (m : Int) (w : World) (hs : s.size < 4294967281) (hm : w.cell? ⟨0, 0, none⟩ = some (.int .i64 m)) :
    Calls Tryd.prog 45 #[.string s, .string sub] w fun e w' => e = .returned (.bool (Lib.contains s.data.toList sub.data.toList)) ∧ w' = w := Any.strings_Contains Tryd.lays144 s sub m w hs hm
def Tryd.lays158_ren : Go.Shelf.Ren := ⟨fun | 158 => 44 | 165 => 51 | 166 => 52 | 167 => 49 | 169 => 48 | 230 => 53 | 203 => 54 | 240 => 59 | 241 => 60 | 197 => 61 | 118 => 62 | 168 => 63 | 270 => 64 | 262 => 65 | 276 => 72 | 277 => 73 | 260 => 74 | 242 => 75 | 313 => 76 | 278 => 85 | 274 => 86 | 275 => 87 | n => n, fun | 9 => 9 | 4 => 4 | 3 => 3 | 5 => 5 | 72 => 63 | 0 => 0 | 76 => 67 | 75 => 58 | 107 => 70 | 70 => 61 | 20 => 20 | 37 => 39 | 127 => 73 | 21 => 21 | 105 => 74 | 164 => 88 | 162 => 94 | 203 => 92 | 119 => 101 | 46 => 84 | 139 => 104 | 138 => 103 | 51 => 105 | 160 => 106 | 208 => 117 | 206 => 115 | 80 => 64 | n => n, fun | 13 => 1 | 3 => 4 | 4 => 5 | n => n⟩
theorem Tryd.Builder_Extra_158 : Builder.Extra Tryd.prog Tryd.lays158_ren := {
  sizeBuilder := by kernel_rfl
  liesBuilder := by kernel_rfl
  t5 := Tryd.underlying5
  a5 := Tryd.isAgg5
  z5 := Tryd.sizeOf5
  v5 := Tryd.zeroValue5
  infoByte := by kernel_rfl
  cellsByte := by kernel_rfl
  sizeByte := by kernel_rfl
  neB5 := by decide }
theorem Tryd.lays158 : Go.Proofs.Lays.n158 Tryd.prog Tryd.lays158_ren := {
  mixed := by kernel_rfl
  f118 := Tryd.func62.trans (congrArg some (by kernel_rfl))
  f158 := Tryd.func44.trans (congrArg some (by kernel_rfl))
  f165 := Tryd.func51.trans (congrArg some (by kernel_rfl))
  f166 := Tryd.func52.trans (congrArg some (by kernel_rfl))
  f167 := Tryd.func49.trans (congrArg some (by kernel_rfl))
  f168 := Tryd.func63.trans (congrArg some (by kernel_rfl))
  f169 := Tryd.func48.trans (congrArg some (by kernel_rfl))
  f197 := Tryd.func61.trans (congrArg some (by kernel_rfl))
  f203 := Tryd.func54.trans (congrArg some (by kernel_rfl))
  f230 := Tryd.func53.trans (congrArg some (by kernel_rfl))
  f240 := Tryd.func59.trans (congrArg some (by kernel_rfl))
  f241 := Tryd.func60.trans (congrArg some (by kernel_rfl))
  f242 := Tryd.func75.trans (congrArg some (by kernel_rfl))
  f260 := Tryd.func74.trans (congrArg some (by kernel_rfl))
  f262 := Tryd.func65.trans (congrArg some (by kernel_rfl))
  f270 := Tryd.func64.trans (congrArg some (by kernel_rfl))
  f274 := Tryd.func86.trans (congrArg some (by kernel_rfl))
  f275 := Tryd.func87.trans (congrArg some (by kernel_rfl))
  f276 := Tryd.func72.trans (congrArg some (by kernel_rfl))
  f277 := Tryd.func73.trans (congrArg some (by kernel_rfl))
  f278 := Tryd.func85.trans (congrArg some (by kernel_rfl))
  f313 := Tryd.func76.trans (congrArg some (by kernel_rfl))
  t0 := Tryd.underlying0
  a0 := Tryd.isAgg0
  z0 := Tryd.sizeOf0
  v0 := Tryd.zeroValue0
  t3 := Tryd.underlying3
  a3 := Tryd.isAgg3
  z3 := Tryd.sizeOf3
  v3 := Tryd.zeroValue3
  t4 := Tryd.underlying4
  a4 := Tryd.isAgg4
  z4 := Tryd.sizeOf4
  v4 := Tryd.zeroValue4
  t5 := Tryd.underlying5
  a5 := Tryd.isAgg5
  z5 := Tryd.sizeOf5
  v5 := Tryd.zeroValue5
  t9 := Tryd.underlying9
  a9 := Tryd.isAgg9
  z9 := Tryd.sizeOf9
  v9 := Tryd.zeroValue9
  t20 := Tryd.underlying20
  a20 := Tryd.isAgg20
  z20 := Tryd.sizeOf20
  v20 := Tryd.zeroValue20
  t21 := Tryd.underlying21
  a21 := Tryd.isAgg21
  z21 := Tryd.sizeOf21
  v21 := Tryd.zeroValue21
  t37 := Tryd.underlying39
  a37 := Tryd.isAgg39
  z37 := Tryd.sizeOf39
  v37 := Tryd.zeroValue39
  t46 := Tryd.underlying84
  a46 := Tryd.isAgg84
  z46 := Tryd.sizeOf84
  v46 := Tryd.zeroValue84
  t51 := Tryd.underlying105
  a51 := Tryd.isAgg105
  z51 := Tryd.sizeOf105
  v51 := Tryd.zeroValue105
  t70 := Tryd.underlying61
  a70 := Tryd.isAgg61
  z70 := Tryd.sizeOf61
  v70 := Tryd.zeroValue61
  t72 := Tryd.underlying63
  a72 := Tryd.isAgg63
  z72 := Tryd.sizeOf63
  v72 := Tryd.zeroValue63
  t75 := Tryd.underlying58
  a75 := Tryd.isAgg58
  z75 := Tryd.sizeOf58
  v75 := Tryd.zeroValue58
  t76 := Tryd.underlying67
  a76 := Tryd.isAgg67
  z76 := Tryd.sizeOf67
  v76 := Tryd.zeroValue67
  t105 := Tryd.underlying74
  a105 := Tryd.isAgg74
  z105 := Tryd.sizeOf74
  v105 := Tryd.zeroValue74
  t107 := Tryd.underlying70
  a107 := Tryd.isAgg70
  z107 := Tryd.sizeOf70
  v107 := Tryd.zeroValue70
  t119 := Tryd.underlying101
  a119 := Tryd.isAgg101
  z119 := Tryd.sizeOf101
  t127 := Tryd.underlying73
  a127 := Tryd.isAgg73
  z127 := Tryd.sizeOf73
  v127 := Tryd.zeroValue73
  t138 := Tryd.underlying103
  a138 := Tryd.isAgg103
  z138 := Tryd.sizeOf103
  v138 := Tryd.zeroValue103
  t139 := Tryd.underlying104
  a139 := Tryd.isAgg104
  z139 := Tryd.sizeOf104
  v139 := Tryd.zeroValue104
  t160 := Tryd.underlying106
  a160 := Tryd.isAgg106
  z160 := Tryd.sizeOf106
  v160 := Tryd.zeroValue106
  t162 := Tryd.underlying94
  a162 := Tryd.isAgg94
  z162 := Tryd.sizeOf94
  v162 := Tryd.zeroValue94
  t164 := Tryd.underlying88
  a164 := Tryd.isAgg88
  z164 := Tryd.sizeOf88
  v164 := Tryd.zeroValue88
  t203 := Tryd.underlying92
  a203 := Tryd.isAgg92
  z203 := Tryd.sizeOf92
  v203 := Tryd.zeroValue92
  t206 := Tryd.underlying115
  a206 := Tryd.isAgg115
  z206 := Tryd.sizeOf115
  v206 := Tryd.zeroValue115
  t208 := Tryd.underlying117
  a208 := Tryd.isAgg117
  z208 := Tryd.sizeOf117
  v208 := Tryd.zeroValue117
  g3 := by kernel_rfl
  g4 := by kernel_rfl
  g13 := by kernel_rfl }
theorem Tryd.strings_ToUpper_ascii (s : ByteArray) (w : World) (hs : s.size ≤ 140737488355328) (hascii : ∀ (j : Nat) (b : UInt8), s.data.toList[j]? = some b → b.toNat < 128) :
    Calls Tryd.prog 44 #[.string s] w fun e w' => e = .returned (.string ⟨(Lib.toUpperA s.data.toList).toArray⟩) ∧ Below w.heap.size w w' := Any.strings_ToUpper_ascii Tryd.lays158 Tryd.Builder_Extra_158 s w hs hascii
def Tryd.lays159_ren : Go.Shelf.Ren := ⟨fun | 159 => 46 | 165 => 51 | 166 => 52 | 167 => 49 | 169 => 48 | 230 => 53 | 204 => 56 | 240 => 59 | 241 => 60 | 197 => 61 | 118 => 62 | 168 => 63 | 270 => 64 | 262 => 65 | 276 => 72 | 277 => 73 | 260 => 74 | 242 => 75 | 313 => 76 | 278 => 85 | 274 => 86 | 275 => 87 | n => n, fun | 9 => 9 | 4 => 4 | 3 => 3 | 5 => 5 | 72 => 63 | 0 => 0 | 76 => 67 | 75 => 58 | 107 => 70 | 70 => 61 | 20 => 20 | 37 => 39 | 127 => 73 | 21 => 21 | 105 => 74 | 164 => 88 | 162 => 94 | 203 => 92 | 119 => 101 | 46 => 84 | 139 => 104 | 138 => 103 | 51 => 105 | 160 => 106 | 208 => 117 | 206 => 115 | 80 => 64 | n => n, fun | 13 => 1 | 3 => 4 | 4 => 5 | n => n⟩
theorem Tryd.Builder_Extra_159 : Builder.Extra Tryd.prog Tryd.lays159_ren := {
  sizeBuilder := by kernel_rfl
  liesBuilder := by kernel_rfl
  t5 := Tryd.underlying5
  a5 := Tryd.isAgg5
  z5 := Tryd.sizeOf5
  v5 := Tryd.zeroValue5
  infoByte := by kernel_rfl
  cellsByte := by kernel_rfl
  sizeByte := by kernel_rfl
  neB5 := by decide }
theorem Tryd.lays159 : Go.Proofs.Lays.n159 Tryd.prog Tryd.lays159_ren := {
  mixed := by kernel_rfl
  f118 := Tryd.func62.trans (congrArg some (by kernel_rfl))
  f159 := Tryd.func46.trans (congrArg some (by kernel_rfl))
  f165 := Tryd.func51.trans (congrArg some (by kernel_rfl))
  f166 := Tryd.func52.trans (congrArg some (by kernel_rfl))
  f167 := Tryd.func49.trans (congrArg some (by kernel_rfl))
  f168 := Tryd.func63.trans (congrArg some (by kernel_rfl))
  f169 := Tryd.func48.trans (congrArg some (by kernel_rfl))
  f197 := Tryd.func61.trans (congrArg some (by kernel_rfl))
  f204 := Tryd.func56.trans (congrArg some (by kernel_rfl))
  f230 := Tryd.func53.trans (congrArg some (by kernel_rfl))
  f240 := Tryd.func59.trans (congrArg some (by kernel_rfl))
  f241 := Tryd.func60.trans (congrArg some (by kernel_rfl))
  f242 := Tryd.func75.trans (congrArg some (by kernel_rfl))
  f260 := Tryd.func74.trans (congrArg some (by kernel_rfl))
  f262 := Tryd.func65.trans (congrArg some (by kernel_rfl))
  f270 := Tryd.func64.trans (congrArg some (by kernel_rfl))
  f274 := Tryd.func86.trans (congrArg some (by kernel_rfl))
  f275 := Tryd.func87.trans (congrArg some (by kernel_rfl))
  f276 := Tryd.func72.trans (congrArg some (by kernel_rfl))
  f277 := Tryd.func73.trans (congrArg some (by kernel_rfl))
  f278 := Tryd.func85.trans (congrArg some (by kernel_rfl))
  f313 := Tryd.func76.trans (congrArg some (by kernel_rfl))
  t0 := Tryd.underlying0
  a0 := Tryd.isAgg0
  z0 := Tryd.sizeOf0
  v0 := Tryd.zeroValue0
  t3 := Tryd.underlying3
  a3 := Tryd.isAgg3
  z3 := Tryd.sizeOf3
  v3 := Tryd.zeroValue3
  t4 := Tryd.underlying4
  a4 := Tryd.isAgg4
  z4 := Tryd.sizeOf4
  v4 := Tryd.zeroValue4
  t5 := Tryd.underlying5
  a5 := Tryd.isAgg5
  z5 := Tryd.sizeOf5
  v5 := Tryd.zeroValue5
  t9 := Tryd.underlying9
  a9 := Tryd.isAgg9
  z9 := Tryd.sizeOf9
  v9 := Tryd.zeroValue9
  t20 := Tryd.underlying20
  a20 := Tryd.isAgg20
  z20 := Tryd.sizeOf20
  v20 := Tryd.zeroValue20
  t21 := Tryd.underlying21
  a21 := Tryd.isAgg21
  z21 := Tryd.sizeOf21
  v21 := Tryd.zeroValue21
  t37 := Tryd.underlying39
  a37 := Tryd.isAgg39
  z37 := Tryd.sizeOf39
  v37 := Tryd.zeroValue39
  t46 := Tryd.underlying84
  a46 := Tryd.isAgg84
  z46 := Tryd.sizeOf84
  v46 := Tryd.zeroValue84
  t51 := Tryd.underlying105
  a51 := Tryd.isAgg105
  z51 := Tryd.sizeOf105
  v51 := Tryd.zeroValue105
  t70 := Tryd.underlying61
  a70 := Tryd.isAgg61
  z70 := Tryd.sizeOf61
  v70 := Tryd.zeroValue61
  t72 := Tryd.underlying63
  a72 := Tryd.isAgg63
  z72 := Tryd.sizeOf63
  v72 := Tryd.zeroValue63
  t75 := Tryd.underlying58
  a75 := Tryd.isAgg58
  z75 := Tryd.sizeOf58
  v75 := Tryd.zeroValue58
  t76 := Tryd.underlying67
  a76 := Tryd.isAgg67
  z76 := Tryd.sizeOf67
  v76 := Tryd.zeroValue67
  t105 := Tryd.underlying74
  a105 := Tryd.isAgg74
  z105 := Tryd.sizeOf74
  v105 := Tryd.zeroValue74
  t107 := Tryd.underlying70
  a107 := Tryd.isAgg70
  z107 := Tryd.sizeOf70
  v107 := Tryd.zeroValue70
  t119 := Tryd.underlying101
  a119 := Tryd.isAgg101
  z119 := Tryd.sizeOf101
  t127 := Tryd.underlying73
  a127 := Tryd.isAgg73
  z127 := Tryd.sizeOf73
  v127 := Tryd.zeroValue73
  t138 := Tryd.underlying103
  a138 := Tryd.isAgg103
  z138 := Tryd.sizeOf103
  v138 := Tryd.zeroValue103
  t139 := Tryd.underlying104
  a139 := Tryd.isAgg104
  z139 := Tryd.sizeOf104
  v139 := Tryd.zeroValue104
  t160 := Tryd.underlying106
  a160 := Tryd.isAgg106
  z160 := Tryd.sizeOf106
  v160 := Tryd.zeroValue106
  t162 := Tryd.underlying94
  a162 := Tryd.isAgg94
  z162 := Tryd.sizeOf94
  v162 := Tryd.zeroValue94
  t164 := Tryd.underlying88
  a164 := Tryd.isAgg88
  z164 := Tryd.sizeOf88
  v164 := Tryd.zeroValue88
  t203 := Tryd.underlying92
  a203 := Tryd.isAgg92
  z203 := Tryd.sizeOf92
  v203 := Tryd.zeroValue92
  t206 := Tryd.underlying115
  a206 := Tryd.isAgg115
  z206 := Tryd.sizeOf115
  v206 := Tryd.zeroValue115
  t208 := Tryd.underlying117
  a208 := Tryd.isAgg117
  z208 := Tryd.sizeOf117
  v208 := Tryd.zeroValue117
  g3 := by kernel_rfl
  g4 := by kernel_rfl
  g13 := by kernel_rfl }
theorem Tryd.strings_ToLower_ascii (s : ByteArray) (w : World) (hs : s.size ≤ 140737488355328) (hascii : ∀ (j : Nat) (b : UInt8), s.data.toList[j]? = some b → b.toNat < 128) :
    Calls Tryd.prog 46 #[.string s] w fun e w' => e = .returned (.string ⟨(Lib.toLowerA s.data.toList).toArray⟩) ∧ Below w.heap.size w w' := Any.strings_ToLower_ascii Tryd.lays159 Tryd.Builder_Extra_159 s w hs hascii
def Tryd.laysC174_ren : Go.Shelf.Ren := ⟨fun | 174 => 47 | 247 => 57 | 245 => 58 | 287 => 67 | 279 => 68 | 280 => 69 | 281 => 70 | 282 => 71 | 321 => 80 | 322 => 81 | 316 => 82 | 171 => 84 | 205 => 83 | 243 => 89 | 246 => 90 | 283 => 91 | 284 => 92 | 285 => 93 | 286 => 94 | 129 => 96 | 317 => 95 | 318 => 97 | 319 => 98 | 320 => 99 | 337 => 100 | 338 => 101 | n => n, fun | 9 => 9 | 3 => 3 | 2 => 2 | 75 => 58 | 85 => 59 | 4 => 4 | 167 => 80 | 5 => 5 | 53 => 81 | 175 => 82 | 46 => 84 | 168 => 85 | 37 => 39 | 0 => 0 | 210 => 98 | 21 => 21 | 127 => 73 | 145 => 113 | 143 => 111 | 171 => 119 | 173 => 122 | 212 => 125 | 51 => 105 | 20 => 20 | 213 => 126 | 232 => 130 | 233 => 131 | 80 => 64 | n => n, fun | 15 => 2 | 16 => 3 | 17 => 6 | 18 => 7 | 19 => 8 | n => n⟩
theorem Tryd.laysC174 : Go.Proofs.LaysC.n174 Tryd.prog Tryd.laysC174_ren := {
  mixed := by kernel_rfl
  f129 := Tryd.func96.trans (congrArg some (by kernel_rfl))
  f171 := Tryd.func84.trans (congrArg some (by kernel_rfl))
  f174 := Tryd.func47.trans (congrArg some (by kernel_rfl))
  f205 := Tryd.func83.trans (congrArg some (by kernel_rfl))
  f243 := Tryd.func89.trans (congrArg some (by kernel_rfl))
  f245 := Tryd.func58.trans (congrArg some (by kernel_rfl))
  f246 := Tryd.func90.trans (congrArg some (by kernel_rfl))
  f247 := Tryd.func57.trans (congrArg some (by kernel_rfl))
  f279 := Tryd.func68.trans (congrArg some (by kernel_rfl))
  f280 := Tryd.func69.trans (congrArg some (by kernel_rfl))
  f281 := Tryd.func70.trans (congrArg some (by kernel_rfl))
  f282 := Tryd.func71.trans (congrArg some (by kernel_rfl))
  f283 := Tryd.func91.trans (congrArg some (by kernel_rfl))
  f284 := Tryd.func92.trans (congrArg some (by kernel_rfl))
  f285 := Tryd.func93.trans (congrArg some (by kernel_rfl))
  f286 := Tryd.func94.trans (congrArg some (by kernel_rfl))
  f287 := Tryd.func67.trans (congrArg some (by kernel_rfl))
  f316 := Tryd.func82.trans (congrArg some (by kernel_rfl))
  f317 := Tryd.func95.trans (congrArg some (by kernel_rfl))
  f318 := Tryd.func97.trans (congrArg some (by kernel_rfl))
  f319 := Tryd.func98.trans (congrArg some (by kernel_rfl))
  f320 := Tryd.func99.trans (congrArg some (by kernel_rfl))
  f321 := Tryd.func80.trans (congrArg some (by kernel_rfl))
  f322 := Tryd.func81.trans (congrArg some (by kernel_rfl))
  f337 := Tryd.func100.trans (congrArg some (by kernel_rfl))
  f338 := Tryd.func101.trans (congrArg some (by kernel_rfl))
  t0 := Tryd.underlying0
  a0 := Tryd.isAgg0
  z0 := Tryd.sizeOf0
  v0 := Tryd.zeroValue0
  t2 := Tryd.underlying2
  a2 := Tryd.isAgg2
  z2 := Tryd.sizeOf2
  v2 := Tryd.zeroValue2
  t3 := Tryd.underlying3
  a3 := Tryd.isAgg3
  z3 := Tryd.sizeOf3
  v3 := Tryd.zeroValue3
  t4 := Tryd.underlying4
  a4 := Tryd.isAgg4
  z4 := Tryd.sizeOf4
  v4 := Tryd.zeroValue4
  t5 := Tryd.underlying5
  a5 := Tryd.isAgg5
  z5 := Tryd.sizeOf5
  v5 := Tryd.zeroValue5
  t9 := Tryd.underlying9
  a9 := Tryd.isAgg9
  z9 := Tryd.sizeOf9
  v9 := Tryd.zeroValue9
  t20 := Tryd.underlying20
  a20 := Tryd.isAgg20
  z20 := Tryd.sizeOf20
  v20 := Tryd.zeroValue20
  t21 := Tryd.underlying21
  a21 := Tryd.isAgg21
  z21 := Tryd.sizeOf21
  v21 := Tryd.zeroValue21
  t37 := Tryd.underlying39
  a37 := Tryd.isAgg39
  z37 := Tryd.sizeOf39
  v37 := Tryd.zeroValue39
  t46 := Tryd.underlying84
  a46 := Tryd.isAgg84
  z46 := Tryd.sizeOf84
  v46 := Tryd.zeroValue84
  t51 := Tryd.underlying105
  a51 := Tryd.isAgg105
  z51 := Tryd.sizeOf105
  v51 := Tryd.zeroValue105
  t53 := Tryd.underlying81
  a53 := Tryd.isAgg81
  z53 := Tryd.sizeOf81
  v53 := Tryd.zeroValue81
  t75 := Tryd.underlying58
  a75 := Tryd.isAgg58
  z75 := Tryd.sizeOf58
  v75 := Tryd.zeroValue58
  t85 := Tryd.underlying59
  a85 := Tryd.isAgg59
  z85 := Tryd.sizeOf59
  v85 := Tryd.zeroValue59
  t127 := Tryd.underlying73
  a127 := Tryd.isAgg73
  z127 := Tryd.sizeOf73
  v127 := Tryd.zeroValue73
  t143 := Tryd.underlying111
  a143 := Tryd.isAgg111
  z143 := Tryd.sizeOf111
  v143 := Tryd.zeroValue111
  t145 := Tryd.underlying113
  a145 := Tryd.isAgg113
  z145 := Tryd.sizeOf113
  v145 := Tryd.zeroValue113
  t167 := Tryd.underlying80
  a167 := Tryd.isAgg80
  z167 := Tryd.sizeOf80
  v167 := Tryd.zeroValue80
  t168 := Tryd.underlying85
  a168 := Tryd.isAgg85
  z168 := Tryd.sizeOf85
  v168 := Tryd.zeroValue85
  t171 := Tryd.underlying119
  a171 := Tryd.isAgg119
  z171 := Tryd.sizeOf119
  v171 := Tryd.zeroValue119
  t173 := Tryd.underlying122
  a173 := Tryd.isAgg122
  z173 := Tryd.sizeOf122
  v173 := Tryd.zeroValue122
  t175 := Tryd.underlying82
  a175 := Tryd.isAgg82
  z175 := Tryd.sizeOf82
  v175 := Tryd.zeroValue82
  t210 := Tryd.underlying98
  a210 := Tryd.isAgg98
  z210 := Tryd.sizeOf98
  v210 := Tryd.zeroValue98
  t212 := Tryd.underlying125
  a212 := Tryd.isAgg125
  z212 := Tryd.sizeOf125
  v212 := Tryd.zeroValue125
  t213 := Tryd.underlying126
  a213 := Tryd.isAgg126
  z213 := Tryd.sizeOf126
  t232 := Tryd.underlying130
  a232 := Tryd.isAgg130
  z232 := Tryd.sizeOf130
  v232 := Tryd.zeroValue130
  t233 := Tryd.underlying131
  a233 := Tryd.isAgg131
  z233 := Tryd.sizeOf131
  v233 := Tryd.zeroValue131
  g15 := by kernel_rfl
  g16 := by kernel_rfl
  g17 := by kernel_rfl
  g18 := by kernel_rfl
  g19 := by kernel_rfl
  t80 := Tryd.underlying64
  a80 := Tryd.isAgg64
  z80 := Tryd.sizeOf64
  v80 := Tryd.zeroValue64
  i0 := by kernel_rfl
  i2 := by kernel_rfl
  i3 := by kernel_rfl
  i4 := by kernel_rfl
  i5 := by kernel_rfl
  i9 := by kernel_rfl
  i20 := by kernel_rfl
  i21 := by kernel_rfl
  i37 := by kernel_rfl
  i46 := by kernel_rfl
  i51 := by kernel_rfl
  i53 := by kernel_rfl
  i75 := by kernel_rfl
  i80 := by kernel_rfl
  i85 := by kernel_rfl
  i127 := by kernel_rfl
  i143 := by kernel_rfl
  i145 := by kernel_rfl
  i167 := by kernel_rfl
  i168 := by kernel_rfl
  i171 := by kernel_rfl
  i173 := by kernel_rfl
  i175 := by kernel_rfl
  i210 := by kernel_rfl
  i212 := by kernel_rfl
  i232 := by kernel_rfl
  i233 := by kernel_rfl
  m15 := by kernel_rfl
  m16 := by kernel_rfl
  m17 := by kernel_rfl
  m18 := by kernel_rfl
  m19 := by kernel_rfl
  c0 := by kernel_rfl
  c2 := by kernel_rfl
  c3 := by kernel_rfl
  c4 := by kernel_rfl
  c5 := by kernel_rfl
  c9 := by kernel_rfl
  c20 := by kernel_rfl
  c21 := by kernel_rfl
  c37 := by kernel_rfl
  c46 := by kernel_rfl
  c51 := by kernel_rfl
  c53 := by kernel_rfl
  c75 := by kernel_rfl
  c80 := by kernel_rfl
  c85 := by kernel_rfl
  c127 := by kernel_rfl
  c143 := by kernel_rfl
  c145 := by kernel_rfl
  c167 := by kernel_rfl
  c168 := by kernel_rfl
  c171 := by kernel_rfl
  c173 := by kernel_rfl
  c175 := by kernel_rfl
  c210 := by kernel_rfl
  c212 := by kernel_rfl
  c213 := by kernel_rfl
  c232 := by kernel_rfl
  c233 := by kernel_rfl }
theorem Tryd.strconv_ParseInt_10_at64_ok (s : ByteArray) (hmax : s.size ≤ 9223372036854775806) (v : Int) (h : Lib.parseIntB 64 s.data.toList = .ok v) (w : World) :
    Calls Tryd.prog 47 #[.string s, .int .i64 10, .int .i64 64] w fun e w' => e = .returned (.tuple #[.int .i64 v, .nilIface]) ∧ (w' = w ∨ ∃ t, w' = Lib.bytesWorld w 5 t) := Any.strconv_ParseInt_10_at64_ok Tryd.laysC174 s hmax v h w
theorem Tryd.strconv_ParseInt_10_at64_syntax_var (s : ByteArray) (hlim : s.size ≤ 281474976710656) (h : Lib.parseIntB 64 s.data.toList = Lib.parseIntB 64 []) (tp : TypeId) (p : Value) (w : World) (hvar : w.var? Tryd.prog "strconv.ErrSyntax" = some #[.iface tp p]) :
    Calls Tryd.prog 47 #[.string s, .int .i64 10, .int .i64 64] w fun e w' => ∃ N, e = .returned (.tuple #[.int .i64 (0), .iface 85 (.pointer (some ⟨N, 0, none⟩))]) ∧ w.heap.size ≤ N ∧ w'.heap[N]? = some (.cells #[.string ⟨#[80, 97, 114, 115, 101, 73, 110, 116]⟩, .string s, .iface tp p] 98 (0, 0)) ∧ Below w.heap.size w w' := Any.strconv_ParseInt_10_at64_syntax_var Tryd.laysC174 s hlim h tp p w hvar
theorem Tryd.strconv_ParseInt_10_at64_range_var (s : ByteArray) (hlim : s.size ≤ 281474976710656) (h : Lib.parseIntB 64 s.data.toList = Lib.NumEnd.range) (tp : TypeId) (p : Value) (w : World) (hvar : w.var? Tryd.prog "strconv.ErrRange" = some #[.iface tp p]) :
    Calls Tryd.prog 47 #[.string s, .int .i64 10, .int .i64 64] w fun e w' => ∃ N, e = .returned (.tuple #[.int .i64 (Lib.intSat 64 s.data.toList), .iface 85 (.pointer (some ⟨N, 0, none⟩))]) ∧ w.heap.size ≤ N ∧ w'.heap[N]? = some (.cells #[.string ⟨#[80, 97, 114, 115, 101, 73, 110, 116]⟩, .string s, .iface tp p] 98 (0, 0)) ∧ Below w.heap.size w w' := Any.strconv_ParseInt_10_at64_range_var Tryd.laysC174 s hlim h tp p w hvar
def Tryd.lays169_ren : Go.Shelf.Ren := ⟨fun | 169 => 48 | n => n, fun | 70 => 61 | 9 => 9 | 0 => 0 | 72 => 63 | 37 => 39 | 127 => 73 | 3 => 3 | 5 => 5 | n => n, fun | n => n⟩
theorem Tryd.Builder_Extra_169 : Builder.Extra Tryd.prog Tryd.lays169_ren := {
  sizeBuilder := by kernel_rfl
  liesBuilder := by kernel_rfl
  t5 := Tryd.underlying5
  a5 := Tryd.isAgg5
  z5 := Tryd.sizeOf5
  v5 := Tryd.zeroValue5
  infoByte := by kernel_rfl
  cellsByte := by kernel_rfl
  sizeByte := by kernel_rfl
  neB5 := by decide }
theorem Tryd.lays169 : Go.Proofs.Lays.n169 Tryd.prog Tryd.lays169_ren := {
  mixed := by kernel_rfl
  f169 := Tryd.func48.trans (congrArg some (by kernel_rfl))
  t0 := Tryd.underlying0
  a0 := Tryd.isAgg0
  z0 := Tryd.sizeOf0
  v0 := Tryd.zeroValue0
  t3 := Tryd.underlying3
  a3 := Tryd.isAgg3
  z3 := Tryd.sizeOf3
  v3 := Tryd.zeroValue3
  t9 := Tryd.underlying9
  a9 := Tryd.isAgg9
  z9 := Tryd.sizeOf9
  v9 := Tryd.zeroValue9
  t37 := Tryd.underlying39
  a37 := Tryd.isAgg39
  z37 := Tryd.sizeOf39
  v37 := Tryd.zeroValue39
  t70 := Tryd.underlying61
  a70 := Tryd.isAgg61
  z70 := Tryd.sizeOf61
  v70 := Tryd.zeroValue61
  t72 := Tryd.underlying63
  a72 := Tryd.isAgg63
  z72 := Tryd.sizeOf63
  v72 := Tryd.zeroValue63
  t127 := Tryd.underlying73
  a127 := Tryd.isAgg73
  z127 := Tryd.sizeOf73
  v127 := Tryd.zeroValue73 }
theorem Tryd.Builder_String_any (B b : Nat) (l : List UInt8) (w : World) (h : Lib.IsBuilder 63 5 B b (Lib.byteCells l) w) (hBw : B ≤ w.heap.size) :
    Calls Tryd.prog 48 #[.pointer (some ⟨b, 0, none⟩)] w fun e w' => e = .returned (.string ⟨l.toArray⟩) ∧ Below B w w' := Any.Builder_String_any Tryd.lays169 Tryd.Builder_Extra_169 B b l w h hBw
end Go.Proofs

namespace Go.Proofs.YtobhcpfdgfkeiaaDoor.Ext
open Go.RowKit Go.Proofs.YtobhcpfdgfkeiaaDoorW.PrintWords Go.Proofs.YtobhcpfdgfkeiaaDoor.Lf
set_option linter.unusedVariables false

def isLet (c : UInt8) : Bool := (decide (97 ≤ c.toNat) && decide (c.toNat ≤ 122)) || (decide (65 ≤ c.toNat) && decide (c.toNat ≤ 90)) || decide (c.toNat = 95)
def isDig (c : UInt8) : Bool := decide (48 ≤ c.toNat) && decide (c.toNat ≤ 57)

theorem letter_fin : ∀ n : Fin 256, lex_letter.f (n.val : Int) = some (isLet (UInt8.ofNat n.val)) := by decide +kernel
theorem digit_fin : ∀ n : Fin 256, lex_digit.f (n.val : Int) = some (isDig (UInt8.ofNat n.val)) := by decide +kernel
theorem letter_eq (c : UInt8) : lex_letter.f (c.toNat : Int) = some (isLet c) := by
  have := letter_fin ⟨c.toNat, c.toNat_lt⟩
  simpa using this
theorem digit_eq (c : UInt8) : lex_digit.f (c.toNat : Int) = some (isDig c) := by
  have := digit_fin ⟨c.toNat, c.toNat_lt⟩
  simpa using this

/-- how many bytes a text begins with of which something is true -/
def spanOf (p : UInt8 → Bool) (l : List UInt8) : Nat := (l.takeWhile p).length
theorem spanOf_le (p : UInt8 → Bool) (l : List UInt8) : spanOf p l ≤ l.length := by
  induction l with
  | nil => simp [spanOf]
  | cons a l ih =>
    unfold spanOf at *
    rw [List.takeWhile_cons]
    split <;> simp <;> omega
theorem spanOf_yes {p : UInt8 → Bool} {s : ByteArray} {k : Nat} (h : k < s.size) (hp : p s[k] = true) : spanOf p (s.data.toList.drop k) = spanOf p (s.data.toList.drop (k + 1)) + 1 := by
  have hl : k < s.data.toList.length := by simpa using h
  have he : s.data.toList[k] = s[k] := rfl
  rw [List.drop_eq_getElem_cons hl, spanOf, List.takeWhile_cons, he, if_pos hp]
  simp [spanOf]
theorem spanOf_no {p : UInt8 → Bool} {s : ByteArray} {k : Nat} (h : k < s.size) (hp : p s[k] = false) : spanOf p (s.data.toList.drop k) = 0 := by
  have hl : k < s.data.toList.length := by simpa using h
  have he : s.data.toList[k] = s[k] := rfl
  rw [List.drop_eq_getElem_cons hl, spanOf, List.takeWhile_cons, he, hp]
  simp
theorem spanOf_end {p : UInt8 → Bool} {s : ByteArray} {k : Nat} (h : s.size ≤ k) : spanOf p (s.data.toList.drop k) = 0 := by
  rw [List.drop_eq_nil_of_le (by simpa using h)]; rfl

set_option maxHeartbeats 1000000 in
theorem span_any (fid : Nat) (p : UInt8 → Bool) (he : ∀ args w, (callFunc fid args).run Tryd.prog w = .ok (.enter fid args) w)
    (hC : ∀ (c : UInt8) (w : World), Calls Tryd.prog fid #[.int .u8 (c.toNat : Int)] w fun e w' => e = .returned (.bool (p c)) ∧ Drawn0 w w')
    (s : ByteArray) (hs : s.size ≤ 9223372036854775807) (w : World) :
    Calls Tryd.prog 31 #[.string s, .func (.func fid) #[] #[]] w fun e w' => e = .returned (.int .i64 (spanOf p s.data.toList : Nat)) ∧ Drawn0 w w' := by
  have HC := Aside0.mk hC
  clear hC
  go_enter Tryd.func31, Tryd.ntmps31
  go_wp2
  go_loopw [5] (fun i wr => ∃ k : Nat, k ≤ s.size ∧ i = .int .i64 k ∧ Aside0 (spanOf p s.data.toList = k + spanOf p (s.data.toList.drop k)) ∧ Drawn0 w wr) (fun i _ => s.size - (intOf i).toNat)
  case atStart => exact ⟨0, Nat.zero_le _, rfl, ⟨by simp⟩, Drawn0.refl _⟩
  case round =>
    obtain ⟨k, hk, rfl, hsp, hd⟩ := hrel
    by_cases hlt : k < s.size
    · cases hp : p s[k] with
      | true =>
        have HP := Aside0.mk hp
        clear hp
        go_wp2_with fail
        refine (HC.out _ _).mono ?_
        rintro e w1 ⟨rfl, ⟨nd, rfl⟩⟩
        rw [HP.out]
        go_wp2
        go_roundw
        case rel => exact ⟨k + 1, by omega, by go_num, ⟨by rw [hsp.out, spanOf_yes hlt HP.out]; omega⟩, hd.step _⟩
        case measure => simp [intOf]; omega
      | false =>
        have HP := Aside0.mk hp
        clear hp
        go_wp2_with fail
        refine (HC.out _ _).mono ?_
        rintro e w1 ⟨rfl, ⟨nd, rfl⟩⟩
        rw [HP.out]
        go_wp2
        go_ret
        exact ⟨by rw [hsp.out, spanOf_no hlt HP.out]; simp, hd.step _⟩
    · go_wp2
      go_ret
      exact ⟨by rw [hsp.out, spanOf_end (by omega)]; simp, hd⟩

theorem below_drawn {B : Nat} {w w' : World} (h : w' = w) : Drawn0 w w' := by subst h; exact Drawn0.refl _

/-- lex.skip's function: all but the end of a line -/
def notLf (c : UInt8) : Bool := !decide (c.toNat = 10)
theorem skip1_any (c : UInt8) (w : World) : Calls Tryd.prog 32 #[.int .u8 (c.toNat : Int)] w fun e w' => e = .returned (.bool (notLf c)) ∧ Drawn0 w w' := by
  cases hb : decide (c.toNat = 10) with
  | true =>
    have h : c.toNat = 10 := of_decide_eq_true hb
    have h1 : ((c.toNat : Int) != 10) = false := by rw [h]; rfl
    have hf : notLf c = false := by unfold notLf; rw [hb]; rfl
    have HF := Aside0.mk hf
    clear hf hb h
    go_enter Tryd.func32, Tryd.ntmps32
    go_wp2
    go_ret
    exact ⟨by rw [HF.out]; rfl, Drawn0.refl _⟩
  | false =>
    have h : ¬ c.toNat = 10 := of_decide_eq_false hb
    have h1 : ((c.toNat : Int) != 10) = true := by rw [bne_iff_ne]; omega
    have hf : notLf c = true := by unfold notLf; rw [hb]; rfl
    have HF := Aside0.mk hf
    clear hf hb h
    go_enter Tryd.func32, Tryd.ntmps32
    go_wp2
    go_ret
    exact ⟨by rw [HF.out]; rfl, Drawn0.refl _⟩

def isNam (c : UInt8) : Bool := isLet c || isDig c
theorem name1_any (c : UInt8) (w : World) : Calls Tryd.prog 43 #[.int .u8 (c.toNat : Int)] w fun e w' => e = .returned (.bool (isNam c)) ∧ Drawn0 w w' := by
  have hl := lex_letter.calls (c.toNat : Int) (isLet c) w (letter_eq c)
  have hd := fun w => lex_digit.calls (c.toNat : Int) (isDig c) w (digit_eq c)
  have HL := Aside0.mk hl
  have HD := Aside0.mk hd
  clear hl hd
  unfold isNam
  cases hb : isLet c with
  | true =>
    rw [hb] at HL
    go_enter Tryd.func43, Tryd.ntmps43
    go_wp2_with fail
    refine HL.out.mono ?_
    rintro e w1 ⟨rfl, ⟨nd, rfl⟩⟩
    go_wp2_with fail
    go_ret
    exact ⟨by simp, ⟨⟨_, rfl⟩⟩⟩
  | false =>
    rw [hb] at HL
    go_enter Tryd.func43, Tryd.ntmps43
    go_wp2_with fail
    refine HL.out.mono ?_
    rintro e w1 ⟨rfl, ⟨nd, rfl⟩⟩
    go_wp2_with fail
    refine (HD.out _).mono ?_
    rintro e w1 ⟨rfl, ⟨nd2, rfl⟩⟩
    go_wp2_with fail
    go_ret
    exact ⟨by simp, ⟨⟨_, rfl⟩⟩⟩

theorem digit_any (c : UInt8) (w : World) : Calls Tryd.prog 35 #[.int .u8 (c.toNat : Int)] w fun e w' => e = .returned (.bool (isDig c)) ∧ Drawn0 w w' := lex_digit.calls (c.toNat : Int) (isDig c) w (digit_eq c)

/-- lex.span, by the number of the function that it is handed -/
def spanBy (n : Nat) : Option (UInt8 → Bool) := if n = 32 then some notLf else if n = 43 then some isNam else if n = 35 then some isDig else none
def lex_span.f (a0 : ByteArray) (a1 : Nat) : Option Int := if a0.size ≤ 9223372036854775807 then (spanBy a1).map (fun p => (spanOf p a0.data.toList : Nat)) else none
theorem lex_span.calls (a0 : ByteArray) (a1 : Nat) (r : Int) (w : World) (h : lex_span.f a0 a1 = some r) :
    Calls Tryd.prog 31 #[.string a0, .func (.func a1) #[] #[]] w fun e w' => e = .returned (.int .i64 r) ∧ Drawn0 w w' := by
  unfold lex_span.f at h
  split at h
  · rename_i hs
    unfold spanBy at h
    split at h
    · rename_i e; subst e
      simp only [Option.map_some, Option.some.injEq] at h
      subst h
      exact span_any 32 notLf (enters_of Tryd.func32 (by kernel_rfl) rfl) skip1_any a0 hs w
    · split at h
      · rename_i e; subst e
        simp only [Option.map_some, Option.some.injEq] at h
        subst h
        exact span_any 43 isNam (enters_of Tryd.func43 (by kernel_rfl) rfl) name1_any a0 hs w
      · split at h
        · rename_i e; subst e
          simp only [Option.map_some, Option.some.injEq] at h
          subst h
          exact span_any 35 isDig (enters_of Tryd.func35 (by kernel_rfl) rfl) digit_any a0 hs w
        · simp at h
  · simp at h

/-! ### the library's -/
def strings_IndexByte.f (a0 : ByteArray) (a1 : Int) : Option Int := some (Lib.indexByte a0.data.toList a1.toNat.toUInt8)
theorem strings_IndexByte.calls (a0 : ByteArray) (a1 : Int) (r : Int) (w : World) (h : strings_IndexByte.f a0 a1 = some r) :
    Calls Tryd.prog 29 #[.string a0, .int .u8 a1] w fun e w' => e = .returned (.int .i64 r) ∧ Drawn0 w w' := by
  obtain rfl := Option.some.inj h
  exact (Tryd.strings_IndexByte a0 a1 w).mono fun _ _ ⟨h1, h2⟩ => ⟨h1, by subst h2; exact Drawn0.refl _⟩

/-- what these contracts ask of the package-level variables -/
structure Wd (w : World) : Prop where
  maxLen : ∃ m : Int, w.cell? ⟨0, 0, none⟩ = some (.int .i64 m)
  errSyntax : ∃ tp p, World.var? Tryd.prog w "strconv.ErrSyntax" = some #[.iface tp p]
  errRange : ∃ tp p, World.var? Tryd.prog w "strconv.ErrRange" = some #[.iface tp p]

def strings_Contains.f (a0 : ByteArray) (a1 : ByteArray) : Option Bool := if a0.size < 4294967281 then some (Lib.contains a0.data.toList a1.data.toList) else none
theorem strings_Contains.calls (a0 : ByteArray) (a1 : ByteArray) (r : Bool) (w : World) (hgw : Wd w) (h : strings_Contains.f a0 a1 = some r) :
    Calls Tryd.prog 45 #[.string a0, .string a1] w fun e w' => e = .returned (.bool r) ∧ Drawn0 w w' := by
  unfold strings_Contains.f at h
  split at h
  · rename_i hs
    obtain rfl := Option.some.inj h
    obtain ⟨m, hm⟩ := hgw.maxLen
    exact (Tryd.strings_Contains a0 a1 m w hs hm).mono fun _ _ ⟨h1, h2⟩ => ⟨h1, by subst h2; exact Drawn0.refl _⟩
  · simp at h

def ascii (l : List UInt8) : Bool := l.all fun b => decide (b.toNat < 128)
theorem ascii_at {l : List UInt8} (h : ascii l = true) (j : Nat) (b : UInt8) (hj : l[j]? = some b) : b.toNat < 128 := by
  unfold ascii at h
  have := List.all_eq_true.mp h b (List.mem_of_getElem? hj)
  exact of_decide_eq_true this
def strings_ToUpper.f (a0 : ByteArray) : Option ByteArray := if a0.size ≤ 140737488355328 ∧ ascii a0.data.toList = true then some ⟨(Lib.toUpperA a0.data.toList).toArray⟩ else none
theorem strings_ToUpper.calls (a0 : ByteArray) (r : ByteArray) (w : World) (h : strings_ToUpper.f a0 = some r) :
    Calls Tryd.prog 44 #[.string a0] w fun e w' => e = .returned (.string r) ∧ Below w.heap.size w w' := by
  unfold strings_ToUpper.f at h
  split at h
  · rename_i hs
    obtain rfl := Option.some.inj h
    exact Tryd.strings_ToUpper_ascii a0 w hs.1 (ascii_at hs.2)
  · simp at h
def strings_ToLower.f (a0 : ByteArray) : Option ByteArray := if a0.size ≤ 140737488355328 ∧ ascii a0.data.toList = true then some ⟨(Lib.toLowerA a0.data.toList).toArray⟩ else none
theorem strings_ToLower.calls (a0 : ByteArray) (r : ByteArray) (w : World) (h : strings_ToLower.f a0 = some r) :
    Calls Tryd.prog 46 #[.string a0] w fun e w' => e = .returned (.string r) ∧ Below w.heap.size w w' := by
  unfold strings_ToLower.f at h
  split at h
  · rename_i hs
    obtain rfl := Option.some.inj h
    exact Tryd.strings_ToLower_ascii a0 w hs.1 (ascii_at hs.2)
  · simp at h

theorem var_kept {w W : World} (hb : Below w.heap.size w W) {n : String} {cs : Array Value} (h : World.var? Tryd.prog w n = some cs) : World.var? Tryd.prog W n = some cs := by
  unfold World.var? at h ⊢
  cases hg : Tryd.prog.globalNamed n with
  | none => rw [hg] at h; simp at h
  | some g =>
    rw [hg] at h
    simp only [Option.bind_some] at h ⊢
    have hlt : g < w.heap.size := by
      rcases Nat.lt_or_ge g w.heap.size with h' | h'
      · exact h'
      · rw [Array.getElem?_eq_none h'] at h; simp at h
    rw [hb.block g hlt]
    exact h
theorem Wd.below {w W : World} (h : Wd w) (hb : Below w.heap.size w W) : Wd W := by
  obtain ⟨m, hm⟩ := h.maxLen
  obtain ⟨t1, p1, h1⟩ := h.errSyntax
  obtain ⟨t2, p2, h2⟩ := h.errRange
  exact ⟨⟨m, pw_cell_below hb hm⟩, ⟨t1, p1, var_kept hb h1⟩, ⟨t2, p2, var_kept hb h2⟩⟩
end Go.Proofs.YtobhcpfdgfkeiaaDoor.Ext

namespace Go.Proofs.YtobhcpfdgfkeiaaDoor.Rw
open Go.RowKit Go.Proofs.YtobhcpfdgfkeiaaDoor.Ext
set_option linter.unusedVariables false

theorem var_of_iface {W : World} {n nm : String} {d : DataW Unit} {ms : Array (String × TypeId)} {g : Nat} {t : TypeId} (hg : Tryd.prog.globalNamed n = some g) (ht : (Tryd.prog.globals[g]?).map (·.type) = some t) (hi : Tryd.prog.underlying t = some (.interface ms))
    (h : Lib.VarReads Tryd.prog W n (.iface nm d)) : ∃ tp p, World.var? Tryd.prog W n = some #[.iface tp p] := by
  obtain ⟨g', t', cs, fuel, p, h1, h2, h3, h4⟩ := h
  obtain rfl : g' = g := Option.some.inj (h1.symm.trans hg)
  obtain rfl : t' = t := Option.some.inj (h2.symm.trans ht)
  obtain ⟨fuel', u, v, hcs, _, _⟩ := iface_of_trod hi h4
  exact ⟨u, v, h3.trans (congrArg some (Array.ext' hcs))⟩
theorem wd_of {W : World} {l : List (String × DataW Unit)} (h1 : ("strconv.ErrSyntax", Rows.laid_strconv_ErrSyntax) ∈ l) (h2 : ("strconv.ErrRange", Rows.laid_strconv_ErrRange) ∈ l) (hL : laidMet Tryd.prog l W) (hS : W.ShapedOpen Tryd.prog) : Wd W where
  maxLen := cell_of_shapedOpen_int (g := 0) (t := 3) (zero := #[.int .i64 0]) hS (of_decide_eq_true (by kernel_rfl)) (by kernel_rfl) rfl (by kernel_rfl) (by kernel_rfl) (by kernel_rfl)
  errSyntax := var_of_iface (g := 2) (t := 58) (by kernel_rfl) (by kernel_rfl) Tryd.underlying58 (Lib.laidMet.reads hL h1)
  errRange := var_of_iface (g := 3) (t := 58) (by kernel_rfl) (by kernel_rfl) Tryd.underlying58 (Lib.laidMet.reads hL h2)
end Go.Proofs.YtobhcpfdgfkeiaaDoor.Rw

namespace Go.Proofs.YtobhcpfdgfkeiaaDoor.Ext
open Go.RowKit Go.Proofs.YtobhcpfdgfkeiaaDoorW.PrintWords Go.Proofs.YtobhcpfdgfkeiaaDoor.Lf
set_option linter.unusedVariables false

theorem box_kept {w w2 : World} {nd : Nat} {o : Obj} (hb : Below (w.heap.size + 1) ((w.alloc o).drewN nd) w2) : w2.heap[w.heap.size]? = some o := by
  rw [hb.block w.heap.size (by omega)]
  show (w.heap.push o)[w.heap.size]? = some o
  simp

/-- the number that a text begins with -/
def numOf (l : List UInt8) : Option (Int × Nat) :=
  match Lib.parseIntB 64 (l.take (spanOf isDig l)) with
  | .ok v => if (((l.drop (spanOf isDig l)).head?).map isLet).getD false then none else some (v, spanOf isDig l)
  | _ => none
/-- what lex.number answers: its token's kind and number, and how many bytes it has -/
def numAns (l : List UInt8) : Int × Int × Int := match numOf l with | some x => (3, x.1, x.2) | none => (0, 0, 0)

theorem head_at {s : ByteArray} {n : Nat} (hlt : n < s.size) : (s.data.toList.drop n).head? = some s[n] := by
  rw [List.head?_drop, List.getElem?_eq_getElem (by simpa using hlt)]; rfl
theorem head_end {s : ByteArray} {n : Nat} (hlt : s.size ≤ n) : (s.data.toList.drop n).head? = none := by
  rw [List.drop_eq_nil_of_le (by simpa using hlt)]; rfl

def BOX : Array Value := #[.int .i64 0, .string ⟨#[]⟩, .int .i64 0, .int .i64 0]

/-- a token's box behind its four stores -/
theorem tok_blk {W : World} {g : Nat} {T : TypeId} {x0 x1 x2 x3 : Value} (h : W.heap[g]? = some (.cells #[x0, x1, x2, x3] T (0, 0))) (a b c d : Value) :
    ((((W.setCell ⟨g, 0, none⟩ a).setCell ⟨g, 1, none⟩ b).setCell ⟨g, 2, none⟩ c).setCell ⟨g, 3, none⟩ d).heap[g]? = some (.cells #[a, b, c, d] T (0, 0)) :=
  blk_put (blk_put (blk_put (blk_put h 0 a rfl) 1 b rfl) 2 c rfl) 3 d rfl
theorem tok_below {w W : World} {g : Nat} (h : Below w.heap.size w W) (hg : w.heap.size ≤ g) (a b c d : Value) :
    Below w.heap.size w ((((W.setCell ⟨g, 0, none⟩ a).setCell ⟨g, 1, none⟩ b).setCell ⟨g, 2, none⟩ c).setCell ⟨g, 3, none⟩ d) :=
  below_set (below_set (below_set (below_set h hg) hg) hg) hg

set_option maxHeartbeats 2000000 in
theorem number_ok (s : ByteArray) (hs : s.size ≤ 140737488351232) (w : World) (n : Nat) (hle' : n ≤ s.size)
    (HS : Aside0 (∀ w, Calls Tryd.prog 31 #[.string s, .func (.func 35) #[] #[]] w fun e w' => e = .returned (.int .i64 (n : Int)) ∧ Drawn0 w w'))
    (v : Int) (HP : Aside0 (Lib.parseIntB 64 (s.data.toList.take n) = Lib.NumEnd.ok v)) (r1 r3 r5 : Int)
    (hcase : ((∃ h : n < s.size, isLet s[n] = true) ∧ r1 = 0 ∧ r3 = 0 ∧ r5 = 0) ∨ ((∃ h : n < s.size, isLet s[n] = false) ∧ r1 = 3 ∧ r3 = v ∧ r5 = n) ∨ (¬ n < s.size ∧ r1 = 3 ∧ r3 = v ∧ r5 = n)) :
    Calls Tryd.prog 36 #[.string s] w fun e w' => e = .returned (.tuple #[.agg #[.int .i64 r1, .string ⟨#[]⟩, .int .i64 r3, .int .i64 0], .int .i64 r5]) ∧ Below w.heap.size w w' := by
  have hsz : (s.extract 0 n).size ≤ 140737488351232 := by rw [ByteArray.size_extract]; omega
  have HL := Aside0.mk (show (s.extract 0 n).data.toList = s.data.toList.take n by rw [Lib.extract_data]; simp)
  rcases hcase with ⟨⟨hlt, hlet⟩, rfl, rfl, rfl⟩ | ⟨⟨hlt, hlet⟩, rfl, rfl, rfl⟩ | ⟨hlt, rfl, rfl, rfl⟩
  · have HC := Aside0.mk (fun w => lex_letter.calls (s[n].toNat : Int) true w (by rw [letter_eq, hlet]))
    clear hlet
    go_enter Tryd.func36, Tryd.ntmps36
    go_wp2_with fail
    refine (HS.out _).mono ?_
    rintro e w1 ⟨rfl, ⟨nd, rfl⟩⟩
    go_wp2_with fail
    refine (Tryd.strconv_ParseInt_10_at64_ok _ (by omega) _ (by rw [HL.out]; exact HP.out) _).mono ?_
    rintro e w2 ⟨rfl, hw2⟩
    have hb : Below (w.heap.size + 1) ((w.alloc (.cells #[.int .i64 0, .string ⟨#[]⟩, .int .i64 0, .int .i64 0] 28)).drewN nd) w2 := by
      rcases hw2 with rfl | ⟨t, rfl⟩
      · exact Below.refl _ _
      · exact bytes_below (Below.refl _ _) (by simp) _ _
    clear hw2
    have hbk := box_kept hb
    have c0 := blk_cell hbk 0
    have c1 := blk_cell hbk 1
    have c2 := blk_cell hbk 2
    have c3 := blk_cell hbk 3
    have f0 := blk_frozen hbk 0
    have f1 := blk_frozen hbk 1
    have f2 := blk_frozen hbk 2
    have f3 := blk_frozen hbk 3
    have hbw : Below w.heap.size w w2 := (pw_below_drewN ((Below.refl w.heap.size w).alloc (Nat.le_refl _) _) nd).trans (hb.mono (by omega))
    have HB := Aside0.mk hbw
    have HBK := Aside0.mk hbk
    clear hb hbw hbk
    simp at c0 c1 c2 c3
    go_wp2_with fail
    refine (HC.out _).mono ?_
    rintro e w3 ⟨rfl, ⟨nd3, rfl⟩⟩
    go_wp2_with fail
    refine bodyPost_ret (results_ct rfl _ _ w.heap.size 28 #[_, _, _, _] (0, 0) _ rfl (tok_blk (blk_drewN HBK.out _) _ _ _ _) Tryd.underlying28 rfl (by kernel_rfl)) rfl ?_
    exact ⟨rfl, tok_below (pw_below_drewN HB.out _) (Nat.le_refl _) _ _ _ _⟩
  · have HC := Aside0.mk (fun w => lex_letter.calls (s[n].toNat : Int) false w (by rw [letter_eq, hlet]))
    clear hlet
    go_enter Tryd.func36, Tryd.ntmps36
    go_wp2_with fail
    refine (HS.out _).mono ?_
    rintro e w1 ⟨rfl, ⟨nd, rfl⟩⟩
    go_wp2_with fail
    refine (Tryd.strconv_ParseInt_10_at64_ok _ (by omega) _ (by rw [HL.out]; exact HP.out) _).mono ?_
    rintro e w2 ⟨rfl, hw2⟩
    have hb : Below (w.heap.size + 1) ((w.alloc (.cells #[.int .i64 0, .string ⟨#[]⟩, .int .i64 0, .int .i64 0] 28)).drewN nd) w2 := by
      rcases hw2 with rfl | ⟨t, rfl⟩
      · exact Below.refl _ _
      · exact bytes_below (Below.refl _ _) (by simp) _ _
    clear hw2
    have hbk := box_kept hb
    have c0 := blk_cell hbk 0
    have c1 := blk_cell hbk 1
    have c2 := blk_cell hbk 2
    have c3 := blk_cell hbk 3
    have f0 := blk_frozen hbk 0
    have f1 := blk_frozen hbk 1
    have f2 := blk_frozen hbk 2
    have f3 := blk_frozen hbk 3
    have hbw : Below w.heap.size w w2 := (pw_below_drewN ((Below.refl w.heap.size w).alloc (Nat.le_refl _) _) nd).trans (hb.mono (by omega))
    have HB := Aside0.mk hbw
    have HBK := Aside0.mk hbk
    clear hb hbw hbk
    simp at c0 c1 c2 c3
    go_wp2_with fail
    refine (HC.out _).mono ?_
    rintro e w3 ⟨rfl, ⟨nd3, rfl⟩⟩
    go_wp2_with fail
    refine bodyPost_ret (results_ct rfl _ _ w.heap.size 28 #[_, _, _, _] (0, 0) _ rfl (tok_blk (blk_drewN HBK.out _) _ _ _ _) Tryd.underlying28 rfl (by kernel_rfl)) rfl ?_
    exact ⟨rfl, tok_below (pw_below_drewN HB.out _) (Nat.le_refl _) _ _ _ _⟩
  · have hlt' : s.size ≤ n := by omega
    go_enter Tryd.func36, Tryd.ntmps36
    go_wp2_with fail
    refine (HS.out _).mono ?_
    rintro e w1 ⟨rfl, ⟨nd, rfl⟩⟩
    go_wp2_with fail
    refine (Tryd.strconv_ParseInt_10_at64_ok _ (by omega) _ (by rw [HL.out]; exact HP.out) _).mono ?_
    rintro e w2 ⟨rfl, hw2⟩
    have hb : Below (w.heap.size + 1) ((w.alloc (.cells #[.int .i64 0, .string ⟨#[]⟩, .int .i64 0, .int .i64 0] 28)).drewN nd) w2 := by
      rcases hw2 with rfl | ⟨t, rfl⟩
      · exact Below.refl _ _
      · exact bytes_below (Below.refl _ _) (by simp) _ _
    clear hw2
    have hbk := box_kept hb
    have c0 := blk_cell hbk 0
    have c1 := blk_cell hbk 1
    have c2 := blk_cell hbk 2
    have c3 := blk_cell hbk 3
    have f0 := blk_frozen hbk 0
    have f1 := blk_frozen hbk 1
    have f2 := blk_frozen hbk 2
    have f3 := blk_frozen hbk 3
    have hbw : Below w.heap.size w w2 := (pw_below_drewN ((Below.refl w.heap.size w).alloc (Nat.le_refl _) _) nd).trans (hb.mono (by omega))
    have HB := Aside0.mk hbw
    have HBK := Aside0.mk hbk
    clear hb hbw hbk
    simp at c0 c1 c2 c3
    go_wp2_with fail
    refine bodyPost_ret (results_ct rfl _ _ w.heap.size 28 #[_, _, _, _] (0, 0) _ rfl (tok_blk HBK.out _ _ _ _) Tryd.underlying28 rfl (by kernel_rfl)) rfl ?_
    exact ⟨rfl, tok_below HB.out (Nat.le_refl _) _ _ _ _⟩

set_option maxHeartbeats 2000000 in
theorem number_synt (s : ByteArray) (hs : s.size ≤ 140737488351232) (w : World) (hgw : Wd w) (n : Nat) (hle' : n ≤ s.size)
    (HS : Aside0 (∀ w, Calls Tryd.prog 31 #[.string s, .func (.func 35) #[] #[]] w fun e w' => e = .returned (.int .i64 (n : Int)) ∧ Drawn0 w w'))
    (HP : Aside0 (Lib.parseIntB 64 (s.data.toList.take n) = Lib.parseIntB 64 [])) :
    Calls Tryd.prog 36 #[.string s] w fun e w' => e = .returned (.tuple #[.agg #[.int .i64 0, .string ⟨#[]⟩, .int .i64 0, .int .i64 0], .int .i64 0]) ∧ Below w.heap.size w w' := by
  have hsz : (s.extract 0 n).size ≤ 140737488351232 := by rw [ByteArray.size_extract]; omega
  have HL := Aside0.mk (show (s.extract 0 n).data.toList = s.data.toList.take n by rw [Lib.extract_data]; simp)
  have HG := Aside0.mk hgw
  clear hgw
  go_enter Tryd.func36, Tryd.ntmps36
  go_wp2_with fail
  refine (HS.out _).mono ?_
  rintro e w1 ⟨rfl, ⟨nd, rfl⟩⟩
  go_wp2_with fail
  have hbl : Below w.heap.size w ((w.alloc (.cells #[.int .i64 0, .string ⟨#[]⟩, .int .i64 0, .int .i64 0] 28)).drewN nd) := pw_below_drewN ((Below.refl w.heap.size w).alloc (Nat.le_refl _) _) nd
  obtain ⟨tp, p, hv⟩ := (HG.out.below hbl).errSyntax
  refine (Tryd.strconv_ParseInt_10_at64_syntax_var _ (by omega) (by rw [HL.out]; exact HP.out) tp p _ hv).mono ?_
  clear hv
  rintro e w2 ⟨N, rfl, hN, hc, hb2⟩
  have hb : Below (w.heap.size + 1) ((w.alloc (.cells #[.int .i64 0, .string ⟨#[]⟩, .int .i64 0, .int .i64 0] 28)).drewN nd) w2 := hb2.mono (by simp)
  clear hb2 hc hN
  have hbk := box_kept hb
  have c0 := blk_cell hbk 0
  have c1 := blk_cell hbk 1
  have c2 := blk_cell hbk 2
  have c3 := blk_cell hbk 3
  have f0 := blk_frozen hbk 0
  have f1 := blk_frozen hbk 1
  have f2 := blk_frozen hbk 2
  have f3 := blk_frozen hbk 3
  have hbw : Below w.heap.size w w2 := hbl.trans (hb.mono (by omega))
  have HB := Aside0.mk hbw
  have HBK := Aside0.mk hbk
  clear hb hbw hbk hbl
  simp at c0 c1 c2 c3
  go_wp2_with fail
  refine bodyPost_ret (results_ct rfl _ _ w.heap.size 28 #[_, _, _, _] (0, 0) _ rfl (tok_blk HBK.out _ _ _ _) Tryd.underlying28 rfl (by kernel_rfl)) rfl ?_
  exact ⟨rfl, tok_below HB.out (Nat.le_refl _) _ _ _ _⟩

set_option maxHeartbeats 2000000 in
theorem number_range (s : ByteArray) (hs : s.size ≤ 140737488351232) (w : World) (hgw : Wd w) (n : Nat) (hle' : n ≤ s.size)
    (HS : Aside0 (∀ w, Calls Tryd.prog 31 #[.string s, .func (.func 35) #[] #[]] w fun e w' => e = .returned (.int .i64 (n : Int)) ∧ Drawn0 w w'))
    (HP : Aside0 (Lib.parseIntB 64 (s.data.toList.take n) = Lib.NumEnd.range)) :
    Calls Tryd.prog 36 #[.string s] w fun e w' => e = .returned (.tuple #[.agg #[.int .i64 0, .string ⟨#[]⟩, .int .i64 0, .int .i64 0], .int .i64 0]) ∧ Below w.heap.size w w' := by
  have hsz : (s.extract 0 n).size ≤ 140737488351232 := by rw [ByteArray.size_extract]; omega
  have HL := Aside0.mk (show (s.extract 0 n).data.toList = s.data.toList.take n by rw [Lib.extract_data]; simp)
  have HG := Aside0.mk hgw
  clear hgw
  go_enter Tryd.func36, Tryd.ntmps36
  go_wp2_with fail
  refine (HS.out _).mono ?_
  rintro e w1 ⟨rfl, ⟨nd, rfl⟩⟩
  go_wp2_with fail
  have hbl : Below w.heap.size w ((w.alloc (.cells #[.int .i64 0, .string ⟨#[]⟩, .int .i64 0, .int .i64 0] 28)).drewN nd) := pw_below_drewN ((Below.refl w.heap.size w).alloc (Nat.le_refl _) _) nd
  obtain ⟨tp, p, hv⟩ := (HG.out.below hbl).errRange
  refine (Tryd.strconv_ParseInt_10_at64_range_var _ (by omega) (by rw [HL.out]; exact HP.out) tp p _ hv).mono ?_
  clear hv
  rintro e w2 ⟨N, rfl, hN, hc, hb2⟩
  have hb : Below (w.heap.size + 1) ((w.alloc (.cells #[.int .i64 0, .string ⟨#[]⟩, .int .i64 0, .int .i64 0] 28)).drewN nd) w2 := hb2.mono (by simp)
  clear hb2 hc hN
  have hbk := box_kept hb
  have c0 := blk_cell hbk 0
  have c1 := blk_cell hbk 1
  have c2 := blk_cell hbk 2
  have c3 := blk_cell hbk 3
  have f0 := blk_frozen hbk 0
  have f1 := blk_frozen hbk 1
  have f2 := blk_frozen hbk 2
  have f3 := blk_frozen hbk 3
  have hbw : Below w.heap.size w w2 := hbl.trans (hb.mono (by omega))
  have HB := Aside0.mk hbw
  have HBK := Aside0.mk hbk
  clear hb hbw hbk hbl
  simp at c0 c1 c2 c3
  go_wp2_with fail
  refine bodyPost_ret (results_ct rfl _ _ w.heap.size 28 #[_, _, _, _] (0, 0) _ rfl (tok_blk HBK.out _ _ _ _) Tryd.underlying28 rfl (by kernel_rfl)) rfl ?_
  exact ⟨rfl, tok_below HB.out (Nat.le_refl _) _ _ _ _⟩

def lex_number.f (a0 : ByteArray) : Option (Int × ByteArray × Int × Int × Int) :=
  if a0.size ≤ 140737488351232 then some ((numAns a0.data.toList).1, ⟨#[]⟩, (numAns a0.data.toList).2.1, 0, (numAns a0.data.toList).2.2) else none
theorem lex_number.calls (a0 : ByteArray) (r1 : Int) (r2 : ByteArray) (r3 : Int) (r4 : Int) (r5 : Int) (w : World) (hgw : Wd w) (h : lex_number.f a0 = some (r1, r2, r3, r4, r5)) :
    Calls Tryd.prog 36 #[.string a0] w fun e w' => e = .returned (.tuple #[.agg #[.int .i64 r1, .string r2, .int .i64 r3, .int .i64 r4], .int .i64 r5]) ∧ Below w.heap.size w w' := by
  unfold lex_number.f at h
  split at h
  · rename_i hs
    simp only [Option.some.injEq, Prod.mk.injEq] at h
    obtain ⟨rfl, rfl, rfl, rfl, rfl⟩ := h
    have hle := spanOf_le isDig a0.data.toList
    have hle' : spanOf isDig a0.data.toList ≤ a0.size := by simpa using hle
    have HS := Aside0.mk (fun w => lex_span.calls a0 35 (spanOf isDig a0.data.toList : Nat) w (by unfold lex_span.f spanBy; rw [if_pos (by omega)]; rfl))
    rcases hp : Lib.parseIntB 64 (a0.data.toList.take (spanOf isDig a0.data.toList)) with v | _ | _
    · refine number_ok a0 hs w _ hle' HS v ⟨hp⟩ _ _ _ ?_
      unfold numAns numOf
      rw [hp]
      by_cases hlt : spanOf isDig a0.data.toList < a0.size
      · rw [head_at hlt]
        cases hlet : isLet a0[spanOf isDig a0.data.toList]
        · exact .inr (.inl ⟨⟨hlt, hlet⟩, by simp [hlet], by simp [hlet], by simp [hlet]⟩)
        · exact .inl ⟨⟨hlt, hlet⟩, by simp [hlet], by simp [hlet], by simp [hlet]⟩
      · rw [head_end (by omega)]
        exact .inr (.inr ⟨hlt, by simp, by simp, by simp⟩)
    · have e : numAns a0.data.toList = (0, 0, 0) := by unfold numAns numOf; rw [hp]
      rw [e]
      exact number_synt a0 hs w hgw _ hle' HS ⟨hp⟩
    · have e : numAns a0.data.toList = (0, 0, 0) := by unfold numAns numOf; rw [hp]
      rw [e]
      exact number_range a0 hs w hgw _ hle' HS ⟨hp⟩
  · simp at h
end Go.Proofs.YtobhcpfdgfkeiaaDoor.Ext

namespace Go.Proofs.YtobhcpfdgfkeiaaDoor.Ext
open Go.RowKit Go.Proofs.YtobhcpfdgfkeiaaDoorW.PrintWords Go.Proofs.YtobhcpfdgfkeiaaDoor.Lf Go.Shelf
set_option linter.unusedVariables false

theorem writeByte (B b : Nat) (bs : List Value) (c : Int) (w : World) (h : Lib.IsBuilder 63 5 B b bs w) (hlen : bs.length + 1 ≤ 140737488355328) (hBw : B ≤ w.heap.size) :
    Calls Tryd.prog 49 #[.pointer (some ⟨b, 0, none⟩), .int .u8 c] w fun e w' => e = .returned .nilIface ∧ (Lib.BuilderAt 63 5 B b (.pointer (some ⟨b, 0, none⟩)) (bs ++ [.int .u8 c]) w' ∧ Below B w w') :=
  Any.Builder_WriteByte (ρ := Tryd.lays158_ren) { Tryd.lays158 with } Tryd.Builder_Extra_158 B b bs c w h hlen hBw

/-- what stands between quotes: the bytes, and how many bytes of the text have been read behind the first quote; none: it has no end -/
def textOf : List UInt8 → Option (List UInt8 × Nat)
  | [] => none
  | c :: l =>
    if c.toNat = 39 then
      match l with
      | [] => some ([], 1)
      | d :: l' => if d.toNat = 39 then (textOf l').map (fun x => (d :: x.1, x.2 + 2)) else some ([], 1)
    else (textOf l).map (fun x => (c :: x.1, x.2 + 1))

theorem drop_at {s : ByteArray} {k : Nat} (h : k < s.size) : s.data.toList.drop k = s[k] :: s.data.toList.drop (k + 1) := by
  have hl : k < s.data.toList.length := by simpa using h
  have he : s.data.toList[k] = s[k] := rfl
  rw [List.drop_eq_getElem_cons hl, he]
theorem drop_end {s : ByteArray} {k : Nat} (h : s.size ≤ k) : s.data.toList.drop k = [] := List.drop_eq_nil_of_le (by simpa using h)

def TextAt (s : ByteArray) (acc : List UInt8) (k : Nat) : Prop := textOf (s.data.toList.drop 1) = (textOf (s.data.toList.drop k)).map (fun x => (acc ++ x.1, x.2 + (k - 1)))
theorem TextAt.start (s : ByteArray) : TextAt s [] 1 := by
  unfold TextAt
  cases textOf (s.data.toList.drop 1) <;> simp
theorem TextAt.plain {s : ByteArray} {acc : List UInt8} {k : Nat} (h : TextAt s acc k) (h1 : 1 ≤ k) (hk : k < s.size) (hc : ¬ s[k].toNat = 39) : TextAt s (acc ++ [s[k]]) (k + 1) := by
  unfold TextAt at *
  rw [h, drop_at hk, textOf.eq_def]
  simp only [if_neg hc]
  cases textOf (s.data.toList.drop (k + 1)) with
  | none => rfl
  | some x => simp; omega
theorem TextAt.twice {s : ByteArray} {acc : List UInt8} {k : Nat} (h : TextAt s acc k) (h1 : 1 ≤ k) (hk : k + 1 < s.size) (hc : s[k].toNat = 39) (hd : s[k + 1].toNat = 39) : TextAt s (acc ++ [s[k + 1]]) (k + 2) := by
  unfold TextAt at *
  rw [h, drop_at (show k < s.size by omega), drop_at hk, textOf.eq_def]
  simp only [if_pos hc, if_pos hd]
  cases textOf (s.data.toList.drop (k + 1 + 1)) with
  | none => rfl
  | some x => simp; omega
theorem TextAt.done {s : ByteArray} {acc : List UInt8} {k : Nat} (h : TextAt s acc k) (h1 : 1 ≤ k) (hk : k < s.size) (hc : s[k].toNat = 39) (hp : Lib.hasPrefix (s.data.toList.drop (k + 1)) [39] = false) : textOf (s.data.toList.drop 1) = some (acc, k) := by
  unfold TextAt at *
  rw [h, drop_at hk, textOf.eq_def]
  simp only [if_pos hc]
  cases hl : s.data.toList.drop (k + 1) with
  | nil => simp; omega
  | cons d l =>
    have hd : ¬ d.toNat = 39 := by
      intro e
      have : d = 39 := UInt8.toNat_inj.mp e
      rw [hl, this] at hp
      simp [Lib.hasPrefix] at hp
    simp only [if_neg hd]
    simp; omega
theorem TextAt.torn {s : ByteArray} {acc : List UInt8} {k : Nat} (h : TextAt s acc k) (hk : s.size ≤ k) : textOf (s.data.toList.drop 1) = none := by
  unfold TextAt at *
  rw [h, drop_end hk]; rfl
theorem two_quotes {s : ByteArray} {k : Nat} (hp : Lib.hasPrefix (s.data.toList.drop (k + 1)) [39] = true) : ∃ h : k + 1 < s.size, s[k + 1].toNat = 39 := by
  by_cases hk : k + 1 < s.size
  · refine ⟨hk, ?_⟩
    rw [drop_at hk] at hp
    simp [Lib.hasPrefix] at hp
    rw [← hp]; rfl
  · rw [drop_end (by omega)] at hp
    simp [Lib.hasPrefix] at hp

/-- what lex.text answers: its token's kind and text, and how many bytes it has -/
def textAns (l : List UInt8) : Int × ByteArray × Int := match textOf (l.drop 1) with | some x => (4, ⟨x.1.toArray⟩, x.2 + 1) | none => (0, ⟨#[]⟩, 0)
/-- the world in the loop of lex.text: the builder (block b + 1) and the token's box (block b) -/
def TextW (w : World) (acc : List UInt8) (W : World) : Prop :=
  Lib.IsBuilder 63 5 (w.heap.size + 1) (w.heap.size + 1) (Lib.byteCells acc) W ∧ W.heap[w.heap.size]? = some (.cells #[.int .i64 0, .string ⟨#[]⟩, .int .i64 0, .int .i64 0] 28 (0, 0)) ∧ Below w.heap.size w W ∧ w.heap.size + 1 ≤ W.heap.size
theorem TextW.start (w : World) : TextW w [] ((w.alloc (.cells #[.int .i64 0, .string ⟨#[]⟩, .int .i64 0, .int .i64 0] 28)).alloc (.cells #[.pointer none, .slice none 0 0] 63)) := by
  refine ⟨?_, ?_, ?_, ?_⟩
  · have := Lib.fresh_isBuilder 63 5 (w.alloc (.cells #[.int .i64 0, .string ⟨#[]⟩, .int .i64 0, .int .i64 0] 28))
    simpa [Lib.byteCells] using this
  · show ((w.heap.push _).push _)[w.heap.size]? = _
    rw [Array.getElem?_push_lt (by simp)]
    simp
  · exact ((Below.refl w.heap.size w).alloc (Nat.le_refl _) _).alloc (by simp) _
  · simp
theorem TextW.write {w W W' : World} {acc : List UInt8} (h : TextW w acc W) (c : UInt8) (hb : Lib.BuilderAt 63 5 (w.heap.size + 1) (w.heap.size + 1) (.pointer (some ⟨w.heap.size + 1, 0, none⟩)) (Lib.byteCells acc ++ [.int .u8 c.toNat]) W') (hB : Below (w.heap.size + 1) W W') : TextW w (acc ++ [c]) W' := by
  obtain ⟨h1, h2, h3, h4⟩ := h
  refine ⟨.inr (by simpa [Lib.byteCells] using hb), ?_, h3.trans (hB.mono (by omega)), Nat.le_trans h4 hB.size⟩
  rw [hB.block _ (by omega)]; exact h2

set_option maxHeartbeats 2000000 in
theorem text_walk (s : ByteArray) (hs : s.size ≤ 140737488351232) (w : World) :
    Calls Tryd.prog 37 #[.string s] w fun e w' => e = .returned (.tuple #[.agg #[.int .i64 (textAns s.data.toList).1, .string (textAns s.data.toList).2.1, .int .i64 0, .int .i64 0], .int .i64 (textAns s.data.toList).2.2]) ∧ Below w.heap.size w w' := by
  have ha : ∀ acc k, textOf (s.data.toList.drop 1) = some (acc, k) → textAns s.data.toList = (4, ⟨acc.toArray⟩, (k : Int) + 1) := fun acc k h => by unfold textAns; rw [h]
  have hz : textOf (s.data.toList.drop 1) = none → textAns s.data.toList = (0, ⟨#[]⟩, 0) := fun h => by unfold textAns; rw [h]
  have HA := Aside0.mk ha
  have HZ := Aside0.mk hz
  clear ha hz
  generalize textAns s.data.toList = ans at *
  go_enter Tryd.func37, Tryd.ntmps37
  go_wp2
  go_loopw [5] (fun i wr => ∃ (k : Nat) (acc : List UInt8), 1 ≤ k ∧ k ≤ s.size + 1 ∧ acc.length ≤ k ∧ i = .int .i64 k ∧ Aside0 (TextAt s acc k) ∧ Aside0 (TextW w acc wr)) (fun i _ => s.size + 1 - (intOf i).toNat)
  case atStart => exact ⟨1, [], by omega, by omega, by simp, rfl, ⟨TextAt.start s⟩, ⟨TextW.start w⟩⟩
  case round =>
    obtain ⟨k, acc, h1, hk, hacc, rfl, HT, HW⟩ := hrel
    by_cases hlt : k < s.size
    · by_cases hc : s[k].toNat = 39
      · have hq : (((s[k].toNat : Nat) : Int) == 39) = true := by rw [hc]; rfl
        have HC := Aside0.mk hc
        clear hc
        cases hp : Lib.hasPrefix (s.data.toList.drop (k + 1)) [39] with
        | true =>
          obtain ⟨hlt2, hd⟩ := two_quotes hp
          have HT2 := Aside0.mk (HT.out.twice h1 hlt2 HC.out hd)
          have HP := Aside0.mk hp
          clear hp hd
          go_wp2_with fail
          refine (Tryd.strings_HasPrefix _ _ _).mono ?_
          rintro e w1 ⟨rfl, rfl⟩
          rw [show Lib.hasPrefix (s.extract (k + 1) s.size).data.toList (⟨#[39]⟩ : ByteArray).data.toList = true by rw [Lib.extract_to_end]; exact HP.out]
          go_wp2_with fail
          refine (writeByte (w.heap.size + 1) (w.heap.size + 1) (Lib.byteCells acc) _ _ HW.out.1 (by simp [Lib.byteCells]; omega) HW.out.2.2.2).mono ?_
          rintro e w2 ⟨rfl, hb, hB⟩
          have HW2 := Aside0.mk (HW.out.write _ hb hB)
          clear hb hB
          go_wp2
          go_roundw
          case rel => exact ⟨k + 2, acc ++ [s[k + 1]], by omega, by omega, by simp; omega, by go_num, HT2, HW2⟩
          case measure => simp [intOf]; omega
        | false =>
          have HD := Aside0.mk (HA.out _ _ (HT.out.done h1 hlt HC.out hp))
          have HP := Aside0.mk hp
          clear hp
          go_wp2_with fail
          refine (Tryd.strings_HasPrefix _ _ _).mono ?_
          rintro e w1 ⟨rfl, rfl⟩
          rw [show Lib.hasPrefix (s.extract (k + 1) s.size).data.toList (⟨#[39]⟩ : ByteArray).data.toList = false by rw [Lib.extract_to_end]; exact HP.out]
          go_wp2_with fail
          refine (Tryd.Builder_String_any (w.heap.size + 1) (w.heap.size + 1) acc _ HW.out.1 HW.out.2.2.2).mono ?_
          rintro e w2 ⟨rfl, hB⟩
          have hbk : w2.heap[w.heap.size]? = some (.cells #[.int .i64 0, .string ⟨#[]⟩, .int .i64 0, .int .i64 0] 28 (0, 0)) := by rw [hB.block _ (by omega)]; exact HW.out.2.1
          have c0 := blk_cell hbk 0
          have c1 := blk_cell hbk 1
          have c2 := blk_cell hbk 2
          have c3 := blk_cell hbk 3
          have f0 := blk_frozen hbk 0
          have f1 := blk_frozen hbk 1
          have f2 := blk_frozen hbk 2
          have f3 := blk_frozen hbk 3
          have HB := Aside0.mk (HW.out.2.2.1.trans (hB.mono (by omega)))
          have HBK := Aside0.mk hbk
          clear hB hbk
          simp at c0 c1 c2 c3
          go_wp2
          refine bodyPost_ret (results_ct rfl _ _ w.heap.size 28 #[_, _, _, _] (0, 0) _ rfl (tok_blk HBK.out _ _ _ _) Tryd.underlying28 rfl (by kernel_rfl)) rfl ?_
          exact ⟨by rw [HD.out]; rfl, tok_below HB.out (Nat.le_refl _) _ _ _ _⟩
      · have hq : (((s[k].toNat : Nat) : Int) == 39) = false := beq_eq_false_iff_ne.mpr (by omega)
        have HT2 := Aside0.mk (HT.out.plain h1 hlt hc)
        clear hc
        go_wp2_with fail
        refine (writeByte (w.heap.size + 1) (w.heap.size + 1) (Lib.byteCells acc) _ _ HW.out.1 (by simp [Lib.byteCells]; omega) HW.out.2.2.2).mono ?_
        rintro e w2 ⟨rfl, hb, hB⟩
        have HW2 := Aside0.mk (HW.out.write _ hb hB)
        clear hb hB
        go_wp2
        go_roundw
        case rel => exact ⟨k + 1, acc ++ [s[k]], by omega, by omega, by simp; omega, by go_num, HT2, HW2⟩
        case measure => simp [intOf]; omega
    · have HD := Aside0.mk (HZ.out (HT.out.torn (by omega)))
      have hbk := HW.out.2.1
      have c0 := blk_cell hbk 0
      have c1 := blk_cell hbk 1
      have c2 := blk_cell hbk 2
      have c3 := blk_cell hbk 3
      have f0 := blk_frozen hbk 0
      have f1 := blk_frozen hbk 1
      have f2 := blk_frozen hbk 2
      have f3 := blk_frozen hbk 3
      clear hbk
      simp at c0 c1 c2 c3
      go_wp2
      refine bodyPost_ret (results_ct rfl _ _ w.heap.size 28 #[_, _, _, _] (0, 0) _ rfl (tok_blk HW.out.2.1 _ _ _ _) Tryd.underlying28 rfl (by kernel_rfl)) rfl ?_
      exact ⟨by rw [HD.out]; rfl, tok_below HW.out.2.2.1 (Nat.le_refl _) _ _ _ _⟩

def lex_text.f (a0 : ByteArray) : Option (Int × ByteArray × Int × Int × Int) :=
  if a0.size ≤ 140737488351232 then some ((textAns a0.data.toList).1, (textAns a0.data.toList).2.1, 0, 0, (textAns a0.data.toList).2.2) else none
theorem lex_text.calls (a0 : ByteArray) (r1 : Int) (r2 : ByteArray) (r3 : Int) (r4 : Int) (r5 : Int) (w : World) (h : lex_text.f a0 = some (r1, r2, r3, r4, r5)) :
    Calls Tryd.prog 37 #[.string a0] w fun e w' => e = .returned (.tuple #[.agg #[.int .i64 r1, .string r2, .int .i64 r3, .int .i64 r4], .int .i64 r5]) ∧ Below w.heap.size w w' := by
  unfold lex_text.f at h
  split at h
  · rename_i hs
    simp only [Option.some.injEq, Prod.mk.injEq] at h
    obtain ⟨rfl, rfl, rfl, rfl, rfl⟩ := h
    exact text_walk a0 hs w
  · simp at h
end Go.Proofs.YtobhcpfdgfkeiaaDoor.Ext

namespace Go.Proofs.YtobhcpfdgfkeiaaDoor.Ext
open Go.RowKit Go.Proofs.YtobhcpfdgfkeiaaDoorW.PrintWords Go.Proofs.YtobhcpfdgfkeiaaDoor.Lf
set_option linter.unusedVariables false

theorem strOf_map (f : UInt8 → UInt8) (l : List UInt8) : strOfNums ((l.map f).map fun b => (b.toNat : Int)) = ⟨(l.map f).toArray⟩ := by
  unfold strOfNums
  congr 1
  congr 1
  rw [List.map_map, List.map_map]
  apply List.map_congr_left
  intro a _
  simp

/-- a row in which the first k bytes have been turned -/
structure MapAt (f : UInt8 → UInt8) (s : ByteArray) (w : World) (g : Nat) (k : Nat) (W : World) : Prop where
  cells : ∀ j, ∀ h : j < s.size, W.cell? ⟨g, j, none⟩ = some (.int .u8 ((if j < k then f s[j] else s[j]).toNat : Nat))
  free : ∀ j, j < s.size → W.frozen? ⟨g, j, none⟩ = false
  below : Below w.heap.size w W
  base : w.heap.size ≤ g
theorem frozen_bytes (w : World) (e : TypeId) (s : ByteArray) (j : Nat) (hj : j < s.size) : (Lib.bytesWorld w e s).frozen? ⟨w.heap.size, j, none⟩ = false := by
  simp only [World.frozen?, Lib.bytesWorld_at_new]
  have : s.size ≤ (Lib.bytesCells w e s).size := by unfold Lib.bytesCells; rw [Array.size_append, Array.size_map]; exact Nat.le_add_right _ _
  simp
  omega
theorem MapAt.start (f : UInt8 → UInt8) (s : ByteArray) (w : World) (e : TypeId) : MapAt f s w w.heap.size 0 (Lib.bytesWorld w e s) := by
  refine ⟨fun j h => ?_, fun j h => frozen_bytes w e s j h, bytes_below (Below.refl _ _) (Nat.le_refl _) _ _, Nat.le_refl _⟩
  rw [Lib.bytesWorld_cell w e s j h]
  have : s.data.toList.getD j 0 = s[j] := by
    rw [List.getD_eq_getElem?_getD, List.getElem?_eq_getElem (by simpa using h)]; rfl
  rw [this]; simp
theorem MapAt.keep {f : UInt8 → UInt8} {s : ByteArray} {w : World} {g k : Nat} {W : World} (h : MapAt f s w g k W) (hk : k < s.size) (he : f s[k] = s[k]) : MapAt f s w g (k + 1) W := by
  refine ⟨fun j hj => ?_, h.free, h.below, h.base⟩
  rw [h.cells j hj]
  by_cases e : j = k
  · subst e; simp [he]
  · by_cases e2 : j < k
    · rw [if_pos e2, if_pos (by omega)]
    · rw [if_neg e2, if_neg (by omega)]
theorem MapAt.turn {f : UInt8 → UInt8} {s : ByteArray} {w : World} {g k : Nat} {W : World} (h : MapAt f s w g k W) (hk : k < s.size) (n : Int) (he : ((f s[k]).toNat : Int) = n) : MapAt f s w g (k + 1) (W.setCell ⟨g, k, none⟩ (.int .u8 n)) := by
  refine ⟨fun j hj => ?_, fun j hj => ?_, below_set h.below h.base, h.base⟩
  · by_cases e : j = k
    · subst e
      have hc := h.cells j hj
      rw [World.cell?_setCell_same _ _ _ hc]
      simp [← he]
    · rw [World.cell?_setCell_other _ _ _ _ (by intro h'; simp only [Addr.mk.injEq] at h'; omega), h.cells j hj]
      by_cases e2 : j < k
      · rw [if_pos e2, if_pos (by omega)]
      · rw [if_neg e2, if_neg (by omega)]
  · rw [World.frozen?_setCell]; exact h.free j hj

theorem Lib_upperB_yes : ∀ n : Fin 256, (97 ≤ n.val ∧ n.val ≤ 122) → ((Lib.upperB (UInt8.ofNat n.val)).toNat : Int) = (n.val : Int) - 32 := by decide +kernel
theorem Lib_upperB_no : ∀ n : Fin 256, ¬ (97 ≤ n.val ∧ n.val ≤ 122) → Lib.upperB (UInt8.ofNat n.val) = UInt8.ofNat n.val := by decide +kernel
theorem Lib_upperB_turns (c : UInt8) (h : 97 ≤ c.toNat ∧ c.toNat ≤ 122) : ((Lib.upperB c).toNat : Int) = (c.toNat : Int) - 32 := by
  have := Lib_upperB_yes ⟨c.toNat, c.toNat_lt⟩ h
  simpa using this
theorem Lib_upperB_stays (c : UInt8) (h : ¬ (97 ≤ c.toNat ∧ c.toNat ≤ 122)) : Lib.upperB c = c := by
  have := Lib_upperB_no ⟨c.toNat, c.toNat_lt⟩ h
  simpa using this

set_option maxHeartbeats 2000000 in
theorem upper_walk (s : ByteArray) (hs : s.size ≤ 140737488351232) (w : World) :
    Calls Tryd.prog 22 #[.string s] w fun e w' => e = .returned (.string ⟨(Lib.toUpperA s.data.toList).toArray⟩) ∧ Below w.heap.size w w' := by
  have kb := fun W => print_bytes (P := Tryd.prog) 9 39 5 Tryd.underlying9 Tryd.underlying39 Tryd.underlying5 s W
  go_enter Tryd.func22, Tryd.ntmps22
  go_wp2
  clear kb
  go_loopw [4] (fun i wr => ∃ k : Nat, k ≤ s.size ∧ i = .int .i64 k ∧ Aside0 (MapAt Lib.upperB s w w.heap.size k wr)) (fun i _ => s.size - (intOf i).toNat)
  case atStart => exact ⟨0, Nat.zero_le _, rfl, ⟨MapAt.start _ _ _ _⟩⟩
  case round =>
    obtain ⟨k, hk, rfl, HM⟩ := hrel
    by_cases hlt : k < s.size
    · have hc0 := HM.out.cells k hlt
      rw [if_neg (by omega)] at hc0
      have hf0 := HM.out.free k hlt
      by_cases h1 : (97 : Int) ≤ (s[k].toNat : Int)
      · by_cases h2 : (s[k].toNat : Int) ≤ 122
        · have HM2 := Aside0.mk (HM.out.turn hlt _ (Lib_upperB_turns s[k] ⟨by omega, by omega⟩))
          have hb := s[k].toNat_lt
          go_wp2
          go_roundw
          case rel => exact ⟨k + 1, by omega, by go_num, HM2⟩
          case measure => simp [intOf]; omega
        · have HM2 := Aside0.mk (HM.out.keep hlt (Lib_upperB_stays s[k] (by omega)))
          go_wp2
          go_roundw
          case rel => exact ⟨k + 1, by omega, by go_num, HM2⟩
          case measure => simp [intOf]; omega
      · have HM2 := Aside0.mk (HM.out.keep hlt (Lib_upperB_stays s[k] (by omega)))
        go_wp2
        go_roundw
        case rel => exact ⟨k + 1, by omega, by go_num, HM2⟩
        case measure => simp [intOf]; omega
    · obtain rfl : k = s.size := by omega
      have hrun := run_convert_bytes_arg wr 39 5 Tryd.underlying39 Tryd.underlying5 w.heap.size 0 s.size (grownCap w s.size 0 5) ((s.data.toList.map Lib.upperB).map fun b => (b.toNat : Int)) (by simp) (fun i hi => by
        rw [Nat.zero_add, HM.out.cells i hi, if_pos hi]
        simp [List.getD_eq_getElem?_getD, hi]; rfl) 9 Tryd.underlying9
      rw [strOf_map] at hrun
      go_wp2
      go_ret
      exact ⟨rfl, HM.out.below⟩

def umlautref17_upper.f (a0 : ByteArray) : Option ByteArray := if a0.size ≤ 140737488351232 then some ⟨(Lib.toUpperA a0.data.toList).toArray⟩ else none
theorem umlautref17_upper.calls (a0 : ByteArray) (r : ByteArray) (w : World) (h : umlautref17_upper.f a0 = some r) :
    Calls Tryd.prog 22 #[.string a0] w fun e w' => e = .returned (.string r) ∧ Below w.heap.size w w' := by
  unfold umlautref17_upper.f at h
  split at h
  · rename_i hs
    obtain rfl := Option.some.inj h
    exact upper_walk a0 hs w
  · simp at h

theorem Lib_lowerB_yes : ∀ n : Fin 256, (65 ≤ n.val ∧ n.val ≤ 90) → ((Lib.lowerB (UInt8.ofNat n.val)).toNat : Int) = (n.val : Int) + 32 := by decide +kernel
theorem Lib_lowerB_no : ∀ n : Fin 256, ¬ (65 ≤ n.val ∧ n.val ≤ 90) → Lib.lowerB (UInt8.ofNat n.val) = UInt8.ofNat n.val := by decide +kernel
theorem Lib_lowerB_turns (c : UInt8) (h : 65 ≤ c.toNat ∧ c.toNat ≤ 90) : ((Lib.lowerB c).toNat : Int) = (c.toNat : Int) + 32 := by
  have := Lib_lowerB_yes ⟨c.toNat, c.toNat_lt⟩ h
  simpa using this
theorem Lib_lowerB_stays (c : UInt8) (h : ¬ (65 ≤ c.toNat ∧ c.toNat ≤ 90)) : Lib.lowerB c = c := by
  have := Lib_lowerB_no ⟨c.toNat, c.toNat_lt⟩ h
  simpa using this

set_option maxHeartbeats 2000000 in
theorem lower_walk (s : ByteArray) (hs : s.size ≤ 140737488351232) (w : World) :
    Calls Tryd.prog 24 #[.string s] w fun e w' => e = .returned (.string ⟨(Lib.toLowerA s.data.toList).toArray⟩) ∧ Below w.heap.size w w' := by
  have kb := fun W => print_bytes (P := Tryd.prog) 9 39 5 Tryd.underlying9 Tryd.underlying39 Tryd.underlying5 s W
  go_enter Tryd.func24, Tryd.ntmps24
  go_wp2
  clear kb
  go_loopw [4] (fun i wr => ∃ k : Nat, k ≤ s.size ∧ i = .int .i64 k ∧ Aside0 (MapAt Lib.lowerB s w w.heap.size k wr)) (fun i _ => s.size - (intOf i).toNat)
  case atStart => exact ⟨0, Nat.zero_le _, rfl, ⟨MapAt.start _ _ _ _⟩⟩
  case round =>
    obtain ⟨k, hk, rfl, HM⟩ := hrel
    by_cases hlt : k < s.size
    · have hc0 := HM.out.cells k hlt
      rw [if_neg (by omega)] at hc0
      have hf0 := HM.out.free k hlt
      by_cases h1 : (65 : Int) ≤ (s[k].toNat : Int)
      · by_cases h2 : (s[k].toNat : Int) ≤ 90
        · have HM2 := Aside0.mk (HM.out.turn hlt _ (Lib_lowerB_turns s[k] ⟨by omega, by omega⟩))
          have hb := s[k].toNat_lt
          go_wp2
          go_roundw
          case rel => exact ⟨k + 1, by omega, by go_num, HM2⟩
          case measure => simp [intOf]; omega
        · have HM2 := Aside0.mk (HM.out.keep hlt (Lib_lowerB_stays s[k] (by omega)))
          go_wp2
          go_roundw
          case rel => exact ⟨k + 1, by omega, by go_num, HM2⟩
          case measure => simp [intOf]; omega
      · have HM2 := Aside0.mk (HM.out.keep hlt (Lib_lowerB_stays s[k] (by omega)))
        go_wp2
        go_roundw
        case rel => exact ⟨k + 1, by omega, by go_num, HM2⟩
        case measure => simp [intOf]; omega
    · obtain rfl : k = s.size := by omega
      have hrun := run_convert_bytes_arg wr 39 5 Tryd.underlying39 Tryd.underlying5 w.heap.size 0 s.size (grownCap w s.size 0 5) ((s.data.toList.map Lib.lowerB).map fun b => (b.toNat : Int)) (by simp) (fun i hi => by
        rw [Nat.zero_add, HM.out.cells i hi, if_pos hi]
        simp [List.getD_eq_getElem?_getD, hi]; rfl) 9 Tryd.underlying9
      rw [strOf_map] at hrun
      go_wp2
      go_ret
      exact ⟨rfl, HM.out.below⟩

def umlautref17_lower.f (a0 : ByteArray) : Option ByteArray := if a0.size ≤ 140737488351232 then some ⟨(Lib.toLowerA a0.data.toList).toArray⟩ else none
theorem umlautref17_lower.calls (a0 : ByteArray) (r : ByteArray) (w : World) (h : umlautref17_lower.f a0 = some r) :
    Calls Tryd.prog 24 #[.string a0] w fun e w' => e = .returned (.string r) ∧ Below w.heap.size w w' := by
  unfold umlautref17_lower.f at h
  split at h
  · rename_i hs
    obtain rfl := Option.some.inj h
    exact lower_walk a0 hs w
  · simp at h
end Go.Proofs.YtobhcpfdgfkeiaaDoor.Ext

namespace Go.Proofs.YtobhcpfdgfkeiaaDoor.Lp
open Go.RowKit Go.Proofs.YtobhcpfdgfkeiaaDoorW.PrintWords Go.Proofs.YtobhcpfdgfkeiaaDoor.Ext
set_option linter.unusedVariables false

abbrev Bytes := List UInt8
def isBlank (c : UInt8) : Bool := [(32 : UInt8), 9, 10, 13].contains c

theorem spanOf_cons_yes {p : UInt8 → Bool} {c : UInt8} {l : Bytes} (h : p c = true) : spanOf p (c :: l) = spanOf p l + 1 := by
  unfold spanOf; rw [List.takeWhile_cons, if_pos h]; rfl
theorem spanOf_cons_no {p : UInt8 → Bool} {c : UInt8} {l : Bytes} (h : p c = false) : spanOf p (c :: l) = 0 := by
  unfold spanOf; rw [List.takeWhile_cons, h]; rfl
theorem spanOf_pos {p : UInt8 → Bool} {c : UInt8} {l : Bytes} (h : p c = true) : 1 ≤ spanOf p (c :: l) := by
  rw [spanOf_cons_yes h]; omega

/-- does a remark begin here? -/
def isRem : Bytes → Bool
  | c :: d :: _ => c == 45 && d == 45
  | _ => false

/-- how many bytes of blanks and remarks a text begins with; k: more than it has bytes -/
def skipF : Nat → Bytes → Nat
  | 0, _ => 0
  | _ + 1, [] => 0
  | k + 1, c :: l => if isBlank c then skipF k l + 1 else if isRem (c :: l) then spanOf notLf (c :: l) + skipF k ((c :: l).drop (spanOf notLf (c :: l))) else 0
theorem isRem_notLf {c : UInt8} {l : Bytes} (h : isRem (c :: l) = true) : notLf c = true := by
  cases l with
  | nil => simp [isRem] at h
  | cons d l =>
    simp only [isRem, Bool.and_eq_true, beq_iff_eq] at h
    rw [h.1]; rfl
theorem skipF_more : ∀ (k k' : Nat) (l : Bytes), l.length < k → l.length < k' → skipF k l = skipF k' l
  | 0, _, _, h, _ => by omega
  | _, 0, _, _, h => by omega
  | k + 1, k' + 1, [], _, _ => rfl
  | k + 1, k' + 1, c :: l, h, h' => by
    simp only [skipF]
    simp only [List.length_cons] at h h'
    by_cases hb : isBlank c = true
    · rw [if_pos hb, if_pos hb, skipF_more k k' l (by omega) (by omega)]
    · rw [if_neg hb, if_neg hb]
      by_cases hr : isRem (c :: l) = true
      · rw [if_pos hr, if_pos hr]
        have := spanOf_pos (l := l) (isRem_notLf hr)
        rw [skipF_more k k' _ (by rw [List.length_drop, List.length_cons]; omega) (by rw [List.length_drop, List.length_cons]; omega)]
      · rw [if_neg hr, if_neg hr]
def skipL (l : Bytes) : Nat := skipF (l.length + 1) l
theorem skipL_nil : skipL [] = 0 := rfl
theorem skipL_blank {c : UInt8} {l : Bytes} (h : isBlank c = true) : skipL (c :: l) = skipL l + 1 := by
  unfold skipL; rw [skipF, if_pos h, skipF_more (c :: l).length (l.length + 1) l (by simp) (by omega)]
theorem skipL_rem {c : UInt8} {l : Bytes} (hb : isBlank c = false) (h : isRem (c :: l) = true) : skipL (c :: l) = spanOf notLf (c :: l) + skipL ((c :: l).drop (spanOf notLf (c :: l))) := by
  have := spanOf_pos (l := l) (isRem_notLf h)
  unfold skipL
  rw [skipF, hb]
  simp only [Bool.false_eq_true, if_false]
  rw [if_pos h, skipF_more (c :: l).length _ _ (by rw [List.length_drop, List.length_cons]; omega) (Nat.lt_succ_self _)]
theorem skipL_none {c : UInt8} {l : Bytes} (hb : isBlank c = false) (h : isRem (c :: l) = false) : skipL (c :: l) = 0 := by
  unfold skipL; rw [skipF, hb, h]; simp
theorem skipF_le : ∀ (k : Nat) (l : Bytes), skipF k l ≤ l.length
  | 0, _ => Nat.zero_le _
  | _ + 1, [] => Nat.le_refl _
  | k + 1, c :: l => by
    simp only [skipF]
    by_cases hb : isBlank c = true
    · rw [if_pos hb, List.length_cons]; exact Nat.succ_le_succ (skipF_le k l)
    · rw [if_neg hb]
      by_cases hr : isRem (c :: l) = true
      · rw [if_pos hr]
        have h1 := skipF_le k ((c :: l).drop (spanOf notLf (c :: l)))
        have h2 := spanOf_le notLf (c :: l)
        rw [List.length_drop] at h1; omega
      · rw [if_neg hr]; exact Nat.zero_le _
theorem skipL_le (l : Bytes) : skipL l ≤ l.length := skipF_le _ _
/-- behind what is skipped there is neither a blank nor a remark -/
theorem skipF_done : ∀ (k : Nat) (l : Bytes), l.length < k → ∀ c r, l.drop (skipF k l) = c :: r → isBlank c = false ∧ isRem (c :: r) = false
  | 0, _, h, _, _, _ => by omega
  | _ + 1, [], _, c, r, e => by simp at e
  | k + 1, c :: l, h, d, r, e => by
    simp only [List.length_cons] at h
    simp only [skipF] at e
    by_cases hb : isBlank c = true
    · rw [if_pos hb, List.drop_succ_cons] at e
      exact skipF_done k l (by omega) d r e
    · rw [if_neg hb] at e
      by_cases hr : isRem (c :: l) = true
      · rw [if_pos hr] at e
        have := spanOf_pos (l := l) (isRem_notLf hr)
        rw [← List.drop_drop] at e
        exact skipF_done k _ (by rw [List.length_drop, List.length_cons]; omega) d r e
      · rw [if_neg hr, List.drop_zero] at e
        obtain ⟨rfl, rfl⟩ := List.cons.inj e
        exact ⟨by simpa using hb, by simpa using hr⟩
theorem skipL_done {l : Bytes} {c : UInt8} {r : Bytes} (e : l.drop (skipL l) = c :: r) : isBlank c = false ∧ isRem (c :: r) = false := skipF_done _ l (Nat.lt_succ_self _) c r e

/-! ### one token -/
def single (c : UInt8) : Bool := [(40 : UInt8), 41, 44, 46, 59, 42, 61, 60, 62, 43, 45, 47, 37, 38, 124, 94].contains c
def double (c d : UInt8) : Bool := [((60 : UInt8), (62 : UInt8)), (60, 61), (62, 61), (60, 60), (62, 62), (124, 124)].contains (c, d)
def opLen : Bytes → Nat
  | [] => 0
  | [c] => if single c then 1 else 0
  | c :: d :: _ => if double c d then 2 else if single c then 1 else 0
def wordsT : List (List UInt8) := [[65, 76, 76], [65, 78, 68], [65, 83], [65, 83, 67], [66, 65, 67, 75], [66, 69, 84, 87, 69, 69, 78], [66, 79, 79, 76], [66, 89], [67, 65, 83, 84], [67, 79, 76, 76, 65, 84, 69], [67, 79, 76, 76, 65, 84, 73, 79, 78], [67, 82, 69, 65, 84, 69], [68, 69, 76, 69, 84, 69], [68, 69, 83, 67], [68, 73, 83, 84, 73, 78, 67, 84], [68, 82, 79, 80], [69, 83, 67, 65, 80, 69], [70, 65, 76, 83, 69], [70, 82, 79, 77], [71, 82, 79, 85, 80], [72, 65, 86, 73, 78, 71], [73, 78], [73, 78, 68, 69, 88], [73, 78, 83, 69, 82, 84], [73, 78, 84], [73, 78, 84, 79], [73, 83], [74, 79, 73, 78], [76, 69, 86, 69, 76], [76, 73, 75, 69], [76, 73, 77, 73, 84], [78, 79, 84], [78, 85, 76, 76], [79, 70, 70, 83, 69, 84], [79, 78], [79, 82], [79, 82, 68, 69, 82], [83, 69, 76, 69, 67, 84], [83, 69, 84], [83, 72, 73, 70, 84], [84, 65, 66, 76, 69], [84, 69, 88, 84], [84, 82, 85, 69], [85, 78, 73, 81, 85, 69], [85, 80, 68, 65, 84, 69], [86, 65, 76, 85, 69, 83], [87, 72, 69, 82, 69], [88, 79, 82]]
def isWord (w : Bytes) : Bool := wordsT.contains w
/-- a token's kind, text and number, and how many bytes it has -/
structure Tk where
  kind : Int
  text : ByteArray
  num : Int
  len : Nat
def tokL (l : Bytes) : Option Tk :=
  match l with
  | [] => none
  | c :: _ =>
    if isLet c then
      if 16 < spanOf isNam l then none
      else if isWord (Lib.toUpperA (l.take (spanOf isNam l))) then some ⟨2, ⟨(Lib.toUpperA (l.take (spanOf isNam l))).toArray⟩, 0, spanOf isNam l⟩
      else some ⟨1, ⟨(Lib.toLowerA (l.take (spanOf isNam l))).toArray⟩, 0, spanOf isNam l⟩
    else if isDig c then (numOf l).map fun x => ⟨3, ⟨#[]⟩, x.1, x.2⟩
    else if c.toNat = 39 then (textOf (l.drop 1)).map fun x => ⟨4, ⟨x.1.toArray⟩, 0, x.2 + 1⟩
    else if opLen l = 0 then none else some ⟨5, ⟨(l.take (opLen l)).toArray⟩, 0, opLen l⟩

theorem textOf_len : ∀ (l : Bytes) x, textOf l = some x → 1 ≤ x.2 ∧ x.2 ≤ l.length
  | [], x, h => by simp [textOf] at h
  | c :: l, x, h => by
    rw [textOf.eq_def] at h
    simp only at h
    by_cases hc : c.toNat = 39
    · rw [if_pos hc] at h
      cases l with
      | nil => simp at h; subst h; simp
      | cons d l' =>
        simp only at h
        by_cases hd : d.toNat = 39
        · rw [if_pos hd] at h
          cases ht : textOf l' with
          | none => rw [ht] at h; simp at h
          | some y =>
            rw [ht] at h
            simp only [Option.map_some, Option.some.injEq] at h
            have := textOf_len l' y ht
            subst h
            simp; omega
        · rw [if_neg hd] at h
          simp only [Option.some.injEq] at h
          subst h; simp
    · rw [if_neg hc] at h
      cases ht : textOf l with
      | none => rw [ht] at h; simp at h
      | some y =>
        rw [ht] at h
        simp only [Option.map_some, Option.some.injEq] at h
        have := textOf_len l y ht
        subst h
        simp; omega

theorem numOf_len {l : Bytes} {x : Int × Nat} (h : numOf l = some x) : x.2 = spanOf isDig l := by
  unfold numOf at h
  split at h
  · split at h
    · simp at h
    · simp only [Option.some.injEq] at h; subst h; rfl
  · simp at h
theorem opLen_le (l : Bytes) : opLen l ≤ l.length := by
  match l with
  | [] => exact Nat.le_refl _
  | [c] => simp only [opLen]; split <;> simp
  | c :: d :: r => simp only [opLen]; split <;> (try split) <;> simp
theorem isNam_of_let {c : UInt8} (h : isLet c = true) : isNam c = true := by unfold isNam; rw [h]; rfl
theorem tokL_len {l : Bytes} {t : Tk} (h : tokL l = some t) : 1 ≤ t.len ∧ t.len ≤ l.length := by
  unfold tokL at h
  split at h
  · simp at h
  · rename_i c r
    split at h
    · rename_i hc
      have h1 := spanOf_pos (l := r) (isNam_of_let hc)
      have h2 := spanOf_le isNam (c :: r)
      split at h
      · simp at h
      · split at h <;> (simp only [Option.some.injEq] at h; subst h; exact ⟨h1, h2⟩)
    · split at h
      · rename_i hc
        have h1 := spanOf_pos (l := r) hc
        have h2 := spanOf_le isDig (c :: r)
        cases hn : numOf (c :: r) with
        | none => rw [hn] at h; simp at h
        | some x =>
          rw [hn] at h
          simp only [Option.map_some, Option.some.injEq] at h
          have := numOf_len hn
          subst h
          simp only; omega
      · split at h
        · cases ht : textOf ((c :: r).drop 1) with
          | none => rw [ht] at h; simp at h
          | some x =>
            rw [ht] at h
            simp only [Option.map_some, Option.some.injEq] at h
            have := textOf_len _ _ ht
            subst h
            simp at this ⊢; omega
        · have := opLen_le (c :: r)
          split at h
          · simp at h
          · simp only [Option.some.injEq] at h; subst h; simp only; omega

/-- all tokens, from a place on where one begins; mk makes a token of its kind, text, number and place -/
def lexF {T : Type} (mk : Int → ByteArray → Int → Int → T) : Nat → List T → Nat → Bytes → List T × Int × Int
  | 0, _, _, _ => ([], 0, 0)
  | _ + 1, acc, _, [] => (acc, 0, 0)
  | k + 1, acc, i, c :: l =>
    match tokL (c :: l) with
    | none => ([], i, 10)
    | some t => lexF mk k (acc ++ [mk t.kind t.text t.num i]) (i + t.len + skipL ((c :: l).drop t.len)) (((c :: l).drop t.len).drop (skipL ((c :: l).drop t.len)))
theorem lexF_more {T : Type} (mk : Int → ByteArray → Int → Int → T) : ∀ (k k' : Nat) (acc : List T) (i : Nat) (l : Bytes), l.length < k → l.length < k' → lexF mk k acc i l = lexF mk k' acc i l
  | 0, _, _, _, _, h, _ => by omega
  | _, 0, _, _, _, _, h => by omega
  | k + 1, k' + 1, acc, i, [], _, _ => rfl
  | k + 1, k' + 1, acc, i, c :: l, h, h' => by
    simp only [lexF]
    cases ht : tokL (c :: l) with
    | none => rfl
    | some t =>
      have := tokL_len ht
      simp only [List.length_cons] at h h' this
      refine lexF_more mk k k' _ _ _ ?_ ?_ <;> (rw [List.length_drop, List.length_drop, List.length_cons]; omega)
/-- a text's tokens -/
def lexL {T : Type} (mk : Int → ByteArray → Int → Int → T) (l : Bytes) : List T × Int × Int :=
  if 4000 < l.length then ([], 0, 2) else lexF mk (l.length + 1) [] (skipL l) (l.drop (skipL l))
end Go.Proofs.YtobhcpfdgfkeiaaDoor.Lp

namespace Go.Proofs.YtobhcpfdgfkeiaaDoor.Lp
open Go.RowKit Go.Proofs.YtobhcpfdgfkeiaaDoorW.PrintWords Go.Proofs.YtobhcpfdgfkeiaaDoor.Ext
set_option linter.unusedVariables false

theorem index_nonneg : ∀ (s sub : List UInt8), 0 ≤ Lib.index s sub ↔ sub <:+: s
  | [], sub => by
    unfold Lib.index
    cases sub with
    | nil => simp
    | cons a l => simp
  | b :: l, sub => by
    unfold Lib.index
    have ih := index_nonneg l sub
    have hge := Lib.index_ge l sub
    rw [List.infix_cons_iff, ← List.isPrefixOf_iff_prefix]
    by_cases hp : sub.isPrefixOf (b :: l) = true
    · rw [if_pos hp]; simp [hp]
    · rw [if_neg hp]
      by_cases h1 : (Lib.index l sub == -1) = true
      · rw [if_pos h1]
        have h1' := beq_iff_eq.mp h1
        rw [h1'] at ih
        simp only [show ¬ (0 : Int) ≤ -1 by omega, false_iff] at ih ⊢
        simp [hp, ih]
      · rw [if_neg h1]
        have h1' : ¬ Lib.index l sub = -1 := fun e => h1 (by rw [e]; rfl)
        have : 0 ≤ Lib.index l sub := by omega
        simp [hp, ih.mp this]; omega
theorem contains_infix (s sub : List UInt8) : Lib.contains s sub = true ↔ sub <:+: s := by
  unfold Lib.contains; rw [decide_eq_true_iff, index_nonneg]

/-- words, each with a blank behind it -/
def rowOf : List (List UInt8) → List UInt8
  | [] => []
  | w :: ws => w ++ 32 :: rowOf ws
theorem blank_pieces : ∀ (w W a b : List UInt8), 32 ∉ w → 32 ∉ W → w ++ 32 :: a = W ++ 32 :: b → w = W
  | [], [], _, _, _, _, _ => rfl
  | [], c :: W, a, b, _, hW, e => by
    simp only [List.nil_append, List.cons_append, List.cons.injEq] at e
    exact absurd (by rw [e.1]; exact List.mem_cons_self ..) hW
  | c :: w, [], a, b, hw, _, e => by
    simp only [List.nil_append, List.cons_append, List.cons.injEq] at e
    exact absurd (by rw [← e.1]; exact List.mem_cons_self ..) hw
  | c :: w, d :: W, a, b, hw, hW, e => by
    simp only [List.cons_append, List.cons.injEq] at e
    rw [e.1, blank_pieces w W a b (fun h => hw (List.mem_cons_of_mem _ h)) (fun h => hW (List.mem_cons_of_mem _ h)) e.2]
/-- what begins with a blank does not begin within a word -/
theorem infix_past : ∀ (W : List UInt8) (x r : List UInt8), 32 ∉ W → ((32 :: x) <:+: (W ++ r) ↔ (32 :: x) <:+: r)
  | [], _, _, _ => Iff.rfl
  | c :: W, x, r, h => by
    rw [List.cons_append, List.infix_cons_iff, infix_past W x r (fun h' => h (List.mem_cons_of_mem _ h'))]
    constructor
    · rintro (⟨t, e⟩ | h')
      · simp only [List.cons_append, List.cons.injEq] at e
        exact absurd (by rw [e.1]; exact List.mem_cons_self ..) h
      · exact h'
    · exact .inr
theorem word_infix (w : List UInt8) (hw : 32 ∉ w) : ∀ ws : List (List UInt8), (∀ W, W ∈ ws → 32 ∉ W) → ((32 :: (w ++ [32])) <:+: (32 :: rowOf ws) ↔ w ∈ ws)
  | [], _ => by
    constructor
    · rintro ⟨p, q, e⟩
      have := congrArg List.length e
      simp [rowOf] at this
      omega
    · intro h; cases h
  | W :: ws, h => by
    have hW := h W (List.mem_cons_self ..)
    have ih := word_infix w hw ws (fun V hV => h V (List.mem_cons_of_mem _ hV))
    rw [rowOf, List.infix_cons_iff, infix_past W _ _ hW, ih, List.mem_cons]
    constructor
    · rintro (⟨t, e⟩ | h')
      · simp only [List.cons_append, List.cons.injEq, true_and, List.append_assoc, List.nil_append] at e
        exact .inl (blank_pieces w W _ _ hw hW e)
      · exact .inr h'
    · rintro (rfl | h')
      · exact .inl ⟨rowOf ws, by simp⟩
      · exact .inr h'
theorem words_plain_b : wordsT.all (fun W => !W.contains 32) = true := by decide +kernel
theorem words_plain : ∀ W, W ∈ wordsT → 32 ∉ W := fun W h => by
  have := List.all_eq_true.mp words_plain_b W h
  simpa using this
theorem word_eq (w : List UInt8) (hw : 32 ∉ w) : Lib.contains (32 :: rowOf wordsT) (32 :: (w ++ [32])) = isWord w := by
  rw [Bool.eq_iff_iff, contains_infix, word_infix w hw wordsT words_plain]
  unfold isWord
  exact List.contains_iff_mem.symm

/-- the number that digits tell -/
def digStep (a : Nat) (c : UInt8) : Nat := a * 10 + (c.toNat - 48)
def valOf (acc : Nat) (l : List UInt8) : Nat := l.foldl digStep acc
theorem valOf_nil (acc : Nat) : valOf acc [] = acc := List.foldl_nil
theorem valOf_cons (acc : Nat) (c : UInt8) (l : List UInt8) : valOf acc (c :: l) = valOf (acc * 10 + (c.toNat - 48)) l := List.foldl_cons
theorem valOf_ge : ∀ (l : List UInt8) (acc : Nat), acc ≤ valOf acc l
  | [], _ => Nat.le_refl _
  | c :: l, acc => by
    have := valOf_ge l (acc * 10 + (c.toNat - 48))
    rw [valOf_cons]; omega
theorem parseM_dig : ∀ (l : List UInt8) (acc : Nat), (∀ c, c ∈ l → isDig c = true) → acc ≤ 18446744073709551615 → Lib.parseUintM (2 ^ 64 - 1) acc l = if valOf acc l ≤ 18446744073709551615 then .ok (valOf acc l) else .range
  | [], acc, _, h => by rw [Lib.parseUintM, valOf_nil, if_pos h]
  | c :: l, acc, hd, h => by
    have hc := hd c (List.mem_cons_self ..)
    unfold isDig at hc
    simp only [Bool.and_eq_true, decide_eq_true_iff] at hc
    have hge := valOf_ge l (acc * 10 + (c.toNat - 48))
    rw [Lib.parseUintM, valOf_cons, if_pos hc]
    by_cases h1 : 1844674407370955162 ≤ acc
    · rw [if_pos h1, if_neg (by omega)]
    · rw [if_neg h1]
      by_cases h2 : 2 ^ 64 - 1 < acc * 10 + (c.toNat - 48)
      · rw [if_pos h2, if_neg (by omega)]
      · rw [if_neg h2]
        exact parseM_dig l _ (fun d hd' => hd d (List.mem_cons_of_mem _ hd')) (by omega)
theorem parse_dig (l : List UInt8) (h0 : l ≠ []) (hd : ∀ c, c ∈ l → isDig c = true) : Lib.parseIntB 64 l = if valOf 0 l ≤ 9223372036854775807 then .ok (valOf 0 l) else .range := by
  cases l with
  | nil => exact absurd rfl h0
  | cons c r =>
    have hc := hd c (List.mem_cons_self ..)
    unfold isDig at hc
    simp only [Bool.and_eq_true, decide_eq_true_iff] at hc
    unfold Lib.parseIntB
    simp only
    rw [if_neg (show ¬ (c.toNat = 43 ∨ c.toNat = 45) by omega)]
    unfold Lib.parseUintB
    rw [if_neg (by simp), parseM_dig (c :: r) 0 hd (by omega)]
    have hn : ¬ c.toNat = 45 := by omega
    by_cases h1 : valOf 0 (c :: r) ≤ 18446744073709551615
    · rw [if_pos h1]
      simp only
      by_cases h2 : valOf 0 (c :: r) ≤ 9223372036854775807
      · rw [if_pos h2, if_neg (by simp [hn]; omega), if_neg (by simp [hn]), if_neg hn]
      · rw [if_neg h2, if_pos (by refine ⟨hn, ?_⟩; omega)]
    · rw [if_neg h1, if_neg (by omega)]
theorem take_span (p : UInt8 → Bool) (l : List UInt8) : l.take (spanOf p l) = l.takeWhile p := by
  unfold spanOf
  induction l with
  | nil => rfl
  | cons a l ih =>
    rw [List.takeWhile_cons]
    split
    · simp [ih]
    · rfl
theorem mem_takeWhile {p : UInt8 → Bool} {l : List UInt8} {c : UInt8} (h : c ∈ l.takeWhile p) : p c = true := by
  induction l with
  | nil => simp at h
  | cons a l ih =>
    rw [List.takeWhile_cons] at h
    split at h
    · rename_i ha
      rcases List.mem_cons.mp h with rfl | h
      · exact ha
      · exact ih h
    · simp at h
end Go.Proofs.YtobhcpfdgfkeiaaDoor.Lp

namespace Go.Proofs.YtobhcpfdgfkeiaaDoor.Ext
open Go.RowKit Go.Proofs.YtobhcpfdgfkeiaaDoorW.PrintWords Go.Proofs.YtobhcpfdgfkeiaaDoor.Lf Go.Proofs.YtobhcpfdgfkeiaaDoor.Lp
set_option linter.unusedVariables false

theorem nam_fin : ∀ n : Fin 256, isNam (UInt8.ofNat n.val) = true → (UInt8.ofNat n.val).toNat < 128 ∧ Lib.upperB (UInt8.ofNat n.val) ≠ 32 := by decide +kernel
theorem nam_plain (c : UInt8) (h : isNam c = true) : c.toNat < 128 ∧ Lib.upperB c ≠ 32 := by
  have := nam_fin ⟨c.toNat, c.toNat_lt⟩
  simp only [UInt8.ofNat_toNat] at this
  exact this h
set_option maxRecDepth 100000 in
theorem words_row : (⟨#[32, 65, 76, 76, 32, 65, 78, 68, 32, 65, 83, 32, 65, 83, 67, 32, 66, 65, 67, 75, 32, 66, 69, 84, 87, 69, 69, 78, 32, 66, 79, 79, 76, 32, 66, 89, 32, 67, 65, 83, 84, 32, 67, 79, 76, 76, 65, 84, 69, 32, 67, 79, 76, 76, 65, 84, 73, 79, 78, 32, 67, 82, 69, 65, 84, 69, 32, 68, 69, 76, 69, 84, 69, 32, 68, 69, 83, 67, 32, 68, 73, 83, 84, 73, 78, 67, 84, 32, 68, 82, 79, 80, 32, 69, 83, 67, 65, 80, 69, 32, 70, 65, 76, 83, 69, 32, 70, 82, 79, 77, 32, 71, 82, 79, 85, 80, 32, 72, 65, 86, 73, 78, 71, 32, 73, 78, 32, 73, 78, 68, 69, 88, 32, 73, 78, 83, 69, 82, 84, 32, 73, 78, 84, 32, 73, 78, 84, 79, 32, 73, 83, 32, 74, 79, 73, 78, 32, 76, 69, 86, 69, 76, 32, 76, 73, 75, 69, 32, 76, 73, 77, 73, 84, 32, 78, 79, 84, 32, 78, 85, 76, 76, 32, 79, 70, 70, 83, 69, 84, 32, 79, 78, 32, 79, 82, 32, 79, 82, 68, 69, 82, 32, 83, 69, 76, 69, 67, 84, 32, 83, 69, 84, 32, 83, 72, 73, 70, 84, 32, 84, 65, 66, 76, 69, 32, 84, 69, 88, 84, 32, 84, 82, 85, 69, 32, 85, 78, 73, 81, 85, 69, 32, 85, 80, 68, 65, 84, 69, 32, 86, 65, 76, 85, 69, 83, 32, 87, 72, 69, 82, 69, 32, 88, 79, 82, 32]⟩ : ByteArray).data.toList = 32 :: rowOf wordsT := by kernel_rfl
set_option maxRecDepth 100000 in
theorem words_size : (⟨#[32, 65, 76, 76, 32, 65, 78, 68, 32, 65, 83, 32, 65, 83, 67, 32, 66, 65, 67, 75, 32, 66, 69, 84, 87, 69, 69, 78, 32, 66, 79, 79, 76, 32, 66, 89, 32, 67, 65, 83, 84, 32, 67, 79, 76, 76, 65, 84, 69, 32, 67, 79, 76, 76, 65, 84, 73, 79, 78, 32, 67, 82, 69, 65, 84, 69, 32, 68, 69, 76, 69, 84, 69, 32, 68, 69, 83, 67, 32, 68, 73, 83, 84, 73, 78, 67, 84, 32, 68, 82, 79, 80, 32, 69, 83, 67, 65, 80, 69, 32, 70, 65, 76, 83, 69, 32, 70, 82, 79, 77, 32, 71, 82, 79, 85, 80, 32, 72, 65, 86, 73, 78, 71, 32, 73, 78, 32, 73, 78, 68, 69, 88, 32, 73, 78, 83, 69, 82, 84, 32, 73, 78, 84, 32, 73, 78, 84, 79, 32, 73, 83, 32, 74, 79, 73, 78, 32, 76, 69, 86, 69, 76, 32, 76, 73, 75, 69, 32, 76, 73, 77, 73, 84, 32, 78, 79, 84, 32, 78, 85, 76, 76, 32, 79, 70, 70, 83, 69, 84, 32, 79, 78, 32, 79, 82, 32, 79, 82, 68, 69, 82, 32, 83, 69, 76, 69, 67, 84, 32, 83, 69, 84, 32, 83, 72, 73, 70, 84, 32, 84, 65, 66, 76, 69, 32, 84, 69, 88, 84, 32, 84, 82, 85, 69, 32, 85, 78, 73, 81, 85, 69, 32, 85, 80, 68, 65, 84, 69, 32, 86, 65, 76, 85, 69, 83, 32, 87, 72, 69, 82, 69, 32, 88, 79, 82, 32]⟩ : ByteArray).size < 4294967281 := by decide +kernel
set_option maxRecDepth 100000 in
theorem contains_word (w : List UInt8) (hw : (32 : UInt8) ∉ w) : strings_Contains.f (⟨#[32, 65, 76, 76, 32, 65, 78, 68, 32, 65, 83, 32, 65, 83, 67, 32, 66, 65, 67, 75, 32, 66, 69, 84, 87, 69, 69, 78, 32, 66, 79, 79, 76, 32, 66, 89, 32, 67, 65, 83, 84, 32, 67, 79, 76, 76, 65, 84, 69, 32, 67, 79, 76, 76, 65, 84, 73, 79, 78, 32, 67, 82, 69, 65, 84, 69, 32, 68, 69, 76, 69, 84, 69, 32, 68, 69, 83, 67, 32, 68, 73, 83, 84, 73, 78, 67, 84, 32, 68, 82, 79, 80, 32, 69, 83, 67, 65, 80, 69, 32, 70, 65, 76, 83, 69, 32, 70, 82, 79, 77, 32, 71, 82, 79, 85, 80, 32, 72, 65, 86, 73, 78, 71, 32, 73, 78, 32, 73, 78, 68, 69, 88, 32, 73, 78, 83, 69, 82, 84, 32, 73, 78, 84, 32, 73, 78, 84, 79, 32, 73, 83, 32, 74, 79, 73, 78, 32, 76, 69, 86, 69, 76, 32, 76, 73, 75, 69, 32, 76, 73, 77, 73, 84, 32, 78, 79, 84, 32, 78, 85, 76, 76, 32, 79, 70, 70, 83, 69, 84, 32, 79, 78, 32, 79, 82, 32, 79, 82, 68, 69, 82, 32, 83, 69, 76, 69, 67, 84, 32, 83, 69, 84, 32, 83, 72, 73, 70, 84, 32, 84, 65, 66, 76, 69, 32, 84, 69, 88, 84, 32, 84, 82, 85, 69, 32, 85, 78, 73, 81, 85, 69, 32, 85, 80, 68, 65, 84, 69, 32, 86, 65, 76, 85, 69, 83, 32, 87, 72, 69, 82, 69, 32, 88, 79, 82, 32]⟩ : ByteArray) (({ data := #[32] } : ByteArray) ++ { data := w.toArray } ++ { data := #[32] }) = some (isWord w) := by
  unfold strings_Contains.f
  rw [if_pos words_size, words_row, ByteArray.data_append, ByteArray.data_append]
  simp only [Array.toList_append, List.cons_append, List.nil_append]
  rw [word_eq w hw]
/-- what lex.name answers: its token's kind and text, and how many bytes it has -/
def nameAnsN (l : List UInt8) (n : Nat) : Int × ByteArray × Int :=
  if 16 < n then (0, ⟨#[]⟩, 0)
  else if isWord (Lib.toUpperA (l.take n)) = true then (2, ⟨(Lib.toUpperA (l.take n)).toArray⟩, n)
  else (1, ⟨(Lib.toLowerA (l.take n)).toArray⟩, n)
def nameAns (l : List UInt8) : Int × ByteArray × Int := nameAnsN l (spanOf isNam l)

theorem name_facts (s : ByteArray) : ascii (s.data.toList.take (spanOf isNam s.data.toList)) = true ∧ (32 : UInt8) ∉ Lib.toUpperA (s.data.toList.take (spanOf isNam s.data.toList)) := by
  rw [take_span]
  constructor
  · unfold ascii
    rw [List.all_eq_true]
    intro c hc
    rw [decide_eq_true_iff]
    exact (nam_plain c (mem_takeWhile hc)).1
  · intro h
    unfold Lib.toUpperA at h
    obtain ⟨c, hc, e⟩ := List.mem_map.mp h
    exact (nam_plain c (mem_takeWhile hc)).2 e

set_option maxHeartbeats 2000000 in
set_option maxRecDepth 100000 in
theorem name_walk (s : ByteArray) (hs : s.size ≤ 140737488351232) (w : World) (hgw : Wd w) :
    Calls Tryd.prog 34 #[.string s] w fun e w' => e = .returned (.tuple #[.agg #[.int .i64 (nameAns s.data.toList).1, .string (nameAns s.data.toList).2.1, .int .i64 0, .int .i64 0], .int .i64 (nameAns s.data.toList).2.2]) ∧ Below w.heap.size w w' := by
  obtain ⟨fa, fb⟩ := name_facts s
  have hle := spanOf_le isNam s.data.toList
  have hle' : spanOf isNam s.data.toList ≤ s.size := by simpa using hle
  have hn : nameAns s.data.toList = nameAnsN s.data.toList (spanOf isNam s.data.toList) := rfl
  have HS := Aside0.mk (fun w => lex_span.calls s 43 (spanOf isNam s.data.toList : Nat) w (by unfold lex_span.f spanBy; rw [if_pos (by omega)]; rfl))
  generalize nameAns s.data.toList = ans at *
  generalize spanOf isNam s.data.toList = n at *
  have HN := Aside0.mk hn
  have FA := Aside0.mk fa
  have FB := Aside0.mk fb
  have HG := Aside0.mk hgw
  have hl : (s.extract 0 n).data.toList = s.data.toList.take n := by rw [Lib.extract_data]; simp
  have HL := Aside0.mk hl
  clear hn fa fb hle hgw hl
  by_cases h16 : 16 < n
  · have HA := Aside0.mk (show ans = (0, ⟨#[]⟩, 0) by rw [HN.out, nameAnsN, if_pos h16])
    clear HN
    go_enter Tryd.func34, Tryd.ntmps34
    go_wp2_with fail
    refine (HS.out _).mono ?_
    rintro e w1 ⟨rfl, ⟨nd, rfl⟩⟩
    go_wp2
    refine bodyPost_ret (results_ct rfl _ _ w.heap.size 28 #[_, _, _, _] (0, 0) _ rfl (tok_blk (blk_drewN (blk_new w _) _) _ _ _ _) Tryd.underlying28 rfl (by kernel_rfl)) rfl ?_
    exact ⟨by rw [HA.out]; rfl, tok_below (pw_below_drewN (below_alloc (Below.refl _ _) _) _) (Nat.le_refl _) _ _ _ _⟩
  · have hsz : (s.extract 0 n).size ≤ 16 := by rw [ByteArray.size_extract]; omega
    have HU := Aside0.mk (fun w => strings_ToUpper.calls (s.extract 0 n) ⟨(Lib.toUpperA (s.data.toList.take n)).toArray⟩ w (by unfold strings_ToUpper.f; rw [if_pos ⟨by omega, by rw [HL.out]; exact FA.out⟩, HL.out]))
    have hup : (Lib.toUpperA (s.data.toList.take n)).length ≤ 16 := by unfold Lib.toUpperA; rw [List.length_map, List.length_take]; omega
    go_enter Tryd.func34, Tryd.ntmps34
    go_wp2_with fail
    refine (HS.out _).mono ?_
    rintro e w1 ⟨rfl, ⟨nd, rfl⟩⟩
    go_wp2_with fail
    refine (HU.out _).mono ?_
    rintro e w2 ⟨rfl, hB⟩
    have hsu : (⟨(Lib.toUpperA (s.data.toList.take n)).toArray⟩ : ByteArray).size ≤ 16 := by simpa [ByteArray.size] using hup
    go_wp2_with fail
    have hw2 : Below w.heap.size w w2 := (pw_below_drewN ((Below.refl w.heap.size w).alloc (Nat.le_refl _) _) nd).trans (hB.mono (by simp))
    have hb1 : Below (w.heap.size + 1) ((w.alloc (.cells #[.int .i64 0, .string ⟨#[]⟩, .int .i64 0, .int .i64 0] 28)).drewN nd) w2 := hB.mono (by simp)
    have hbk := box_kept hb1
    clear hB hb1
    refine (strings_Contains.calls _ _ _ _ (HG.out.below hw2) (contains_word _ FB.out)).mono ?_
    rintro e w3 ⟨rfl, ⟨nd3, rfl⟩⟩
    have HB := Aside0.mk hw2
    have HBK := Aside0.mk hbk
    clear hw2
    cases hiw : isWord (Lib.toUpperA (s.data.toList.take n)) with
    | true =>
      have HA := Aside0.mk (show ans = _ by rw [HN.out, nameAnsN, if_neg h16, if_pos hiw])
      clear hiw HN
      have c0 := blk_cell hbk 0
      have c1 := blk_cell hbk 1
      have c2 := blk_cell hbk 2
      have c3 := blk_cell hbk 3
      have f0 := blk_frozen hbk 0
      have f1 := blk_frozen hbk 1
      have f2 := blk_frozen hbk 2
      have f3 := blk_frozen hbk 3
      clear hbk
      simp at c0 c1 c2 c3
      go_wp2_with fail
      refine bodyPost_ret (results_ct rfl _ _ w.heap.size 28 #[_, _, _, _] (0, 0) _ rfl (tok_blk (blk_drewN HBK.out _) _ _ _ _) Tryd.underlying28 rfl (by kernel_rfl)) rfl ?_
      exact ⟨by rw [HA.out]; rfl, tok_below (pw_below_drewN HB.out _) (Nat.le_refl _) _ _ _ _⟩
    | false =>
      have HLo := Aside0.mk (fun w => strings_ToLower.calls (s.extract 0 n) ⟨(Lib.toLowerA (s.data.toList.take n)).toArray⟩ w (by unfold strings_ToLower.f; rw [if_pos ⟨by omega, by rw [HL.out]; exact FA.out⟩, HL.out]))
      have HA := Aside0.mk (show ans = _ by rw [HN.out, nameAnsN, if_neg h16, if_neg (by rw [hiw]; decide)])
      clear hiw HN hbk
      go_wp2_with fail
      refine (HLo.out _).mono ?_
      rintro e w4 ⟨rfl, hB⟩
      have hw4 : Below w.heap.size w w4 := (pw_below_drewN HB.out nd3).trans (hB.mono HB.out.size)
      have hlt := blk_lt HBK.out
      have hbk : w4.heap[w.heap.size]? = some (.cells #[.int .i64 0, .string ⟨#[]⟩, .int .i64 0, .int .i64 0] 28 (0, 0)) := by rw [hB.block _ hlt]; exact HBK.out
      have c0 := blk_cell hbk 0
      have c1 := blk_cell hbk 1
      have c2 := blk_cell hbk 2
      have c3 := blk_cell hbk 3
      have f0 := blk_frozen hbk 0
      have f1 := blk_frozen hbk 1
      have f2 := blk_frozen hbk 2
      have f3 := blk_frozen hbk 3
      have HB4 := Aside0.mk hw4
      have HBK4 := Aside0.mk hbk
      clear hbk hB hw4 hlt
      simp at c0 c1 c2 c3
      go_wp2_with fail
      refine bodyPost_ret (results_ct rfl _ _ w.heap.size 28 #[_, _, _, _] (0, 0) _ rfl (tok_blk HBK4.out _ _ _ _) Tryd.underlying28 rfl (by kernel_rfl)) rfl ?_
      exact ⟨by rw [HA.out]; rfl, tok_below HB4.out (Nat.le_refl _) _ _ _ _⟩

def lex_name.f (a0 : ByteArray) : Option (Int × ByteArray × Int × Int × Int) :=
  if a0.size ≤ 140737488351232 then some ((nameAns a0.data.toList).1, (nameAns a0.data.toList).2.1, 0, 0, (nameAns a0.data.toList).2.2) else none
theorem lex_name.calls (a0 : ByteArray) (r1 : Int) (r2 : ByteArray) (r3 : Int) (r4 : Int) (r5 : Int) (w : World) (hgw : Wd w) (h : lex_name.f a0 = some (r1, r2, r3, r4, r5)) :
    Calls Tryd.prog 34 #[.string a0] w fun e w' => e = .returned (.tuple #[.agg #[.int .i64 r1, .string r2, .int .i64 r3, .int .i64 r4], .int .i64 r5]) ∧ Below w.heap.size w w' := by
  unfold lex_name.f at h
  split at h
  · rename_i hs
    simp only [Option.some.injEq, Prod.mk.injEq] at h
    obtain ⟨rfl, rfl, rfl, rfl, rfl⟩ := h
    exact name_walk a0 hs w hgw
  · simp at h
end Go.Proofs.YtobhcpfdgfkeiaaDoor.Ext

namespace Go.Proofs.YtobhcpfdgfkeiaaDoor.Ext
open Go.RowKit Go.Proofs.YtobhcpfdgfkeiaaDoorW.PrintWords Go.Proofs.YtobhcpfdgfkeiaaDoor.Lf
def strings_HasPrefix.f (a0 : ByteArray) (a1 : ByteArray) : Option Bool := some (Lib.hasPrefix a0.data.toList a1.data.toList)
theorem strings_HasPrefix.calls (a0 : ByteArray) (a1 : ByteArray) (r : Bool) (w : World) (h : strings_HasPrefix.f a0 a1 = some r) :
    Calls Tryd.prog 30 #[.string a0, .string a1] w fun e w' => e = .returned (.bool r) ∧ Drawn0 w w' := by
  obtain rfl := Option.some.inj h
  exact (Tryd.strings_HasPrefix a0 a1 w).mono fun _ _ ⟨h1, h2⟩ => ⟨h1, by subst h2; exact Drawn0.refl _⟩
end Go.Proofs.YtobhcpfdgfkeiaaDoor.Ext

namespace Go.Proofs.YtobhcpfdgfkeiaaDoor.Lx
open Go.RowKit Go.Proofs.YtobhcpfdgfkeiaaDoorW.PrintWords Go.Proofs.YtobhcpfdgfkeiaaDoorW.PrintLast Go.Proofs.YtobhcpfdgfkeiaaDoorW.PrintMore Go.Proofs.YtobhcpfdgfkeiaaDoor.Lf Go.Proofs.YtobhcpfdgfkeiaaDoor.Ext
attribute [local go_sem] max2_int min2_int max_two min_two max_three min_three max_four min_four   -- for this text's walks alone
set_option linter.unusedVariables false
set_option linter.unusedSimpArgs false



def errW : Option Int → Value
  | none => .nilIface
  | some c => .iface 0 (.int .i64 c)
theorem errW_none : errW none = .nilIface := rfl
theorem errW_some (c : Int) : errW (some c) = .iface 0 (.int .i64 c) := rfl

theorem info5 : (Tryd.prog.info? 5).map (fun i => (i.zero, i.size, i.bytes)) = some (some (.int .u8 0), 1, 1) := by kernel_rfl
theorem info9 : (Tryd.prog.info? 9).map (fun i => (i.zero, i.size, i.bytes)) = some (some (.string ⟨#[]⟩), 1, 16) := by kernel_rfl
theorem info28 : (Tryd.prog.info? 28).map (fun i => (i.zero, i.size, i.bytes)) = some (some (.agg #[(.int .i64 0), (.string ⟨#[]⟩), (.int .i64 0), (.int .i64 0)]), 4, 40) := by kernel_rfl
theorem info37 : (Tryd.prog.info? 37).map (fun i => (i.zero, i.size, i.bytes)) = some (some (.agg #[(.int .i64 0), (.string ⟨#[]⟩), (.int .i64 0), (.int .i64 0)]), 4, 40) := by kernel_rfl
-- the values' own types
/-! #### struct type 28 -/
structure S28 where
  f0 : Int
  f1 : ByteArray
  f2 : Int
  f3 : Int
def z28 : S28 := ⟨(0 : Int), (⟨#[]⟩ : ByteArray), (0 : Int), (0 : Int)⟩
def k28 : Kd S28 := Kd.iso (Kd.pair (Kd.int .i64) (Kd.pair Kd.string (Kd.pair (Kd.int .i64) (Kd.int .i64)))) (fun x : S28 => (x.f0, x.f1, x.f2, x.f3))
theorem k28_open {w : World} {x : S28} {cs : List Value} (h : k28.K w x cs) : cs = [.int .i64 x.f0, .string x.f1, .int .i64 x.f2, .int .i64 x.f3] := by
  obtain ⟨_, _, rfl, rfl, ⟨_, _, rfl, rfl, ⟨_, _, rfl, rfl, rfl⟩⟩⟩ := h
  exact rfl
theorem k28_openM {w : World} {base : Nat} {ok : Nat → Prop} {x : S28} {cs : List Value} (h : k28.M w base ok x cs) : cs = [.int .i64 x.f0, .string x.f1, .int .i64 x.f2, .int .i64 x.f3] := by
  obtain ⟨_, _, rfl, rfl, ⟨_, _, rfl, rfl, ⟨_, _, rfl, rfl, rfl⟩⟩⟩ := h
  exact rfl
theorem k28_mk (w : World) (x : S28)  : k28.K w x [.int .i64 x.f0, .string x.f1, .int .i64 x.f2, .int .i64 x.f3] := ⟨[.int .i64 x.f0], [.string x.f1, .int .i64 x.f2, .int .i64 x.f3], rfl, rfl, ⟨[.string x.f1], [.int .i64 x.f2, .int .i64 x.f3], rfl, rfl, ⟨[.int .i64 x.f2], [.int .i64 x.f3], rfl, rfl, rfl⟩⟩⟩
theorem k28_mkM (w : World) (base : Nat) (ok : Nat → Prop) (x : S28)  : k28.M w base ok x [.int .i64 x.f0, .string x.f1, .int .i64 x.f2, .int .i64 x.f3] := ⟨[.int .i64 x.f0], [.string x.f1, .int .i64 x.f2, .int .i64 x.f3], rfl, rfl, ⟨[.string x.f1], [.int .i64 x.f2, .int .i64 x.f3], rfl, rfl, ⟨[.int .i64 x.f2], [.int .i64 x.f3], rfl, rfl, rfl⟩⟩⟩
def rd_T28 (xs : List S28) (i : Int) : S28 := xs.getD i.toNat z28
theorem at_T28 {w : World} {A : Option Addr} {n : Nat} {xs : List S28} (h : Kd.C k28 w A n xs) (i : Int) (h0 : 0 ≤ i) (h1 : i < n) : ∃ ad , A = some ad ∧ w.cell? (ad.add (i.toNat * 4)) = some (.int .i64 (rd_T28 xs i).f0) ∧ w.cell? ⟨(ad.add (i.toNat * 4)).block, (ad.add (i.toNat * 4)).off + 1, none⟩ = some (.string (rd_T28 xs i).f1) ∧ w.cell? ⟨(ad.add (i.toNat * 4)).block, (ad.add (i.toNat * 4)).off + 2, none⟩ = some (.int .i64 (rd_T28 xs i).f2) ∧ w.cell? ⟨(ad.add (i.toNat * 4)).block, (ad.add (i.toNat * 4)).off + 3, none⟩ = some (.int .i64 (rd_T28 xs i).f3) := by
  obtain ⟨ad, c, e, _, hK, hc0⟩ := Kd.C_get h z28 i h0 h1
  have hc : ∀ j u, c[j]? = some u → w.cell? (ad.add (i.toNat * 4 + j)) = some u := hc0
  obtain rfl := k28_open hK
  exact ⟨ad, e, hc 0 _ rfl, by rw [← add_field _ _ 1 (by omega)]; exact hc 1 _ rfl, by rw [← add_field _ _ 2 (by omega)]; exact hc 2 _ rfl, by rw [← add_field _ _ 3 (by omega)]; exact hc 3 _ rfl⟩

/-! #### struct type 37 -/
structure S37 where
  f0 : Int
  f1 : ByteArray
  f2 : Int
  f3 : Int
def z37 : S37 := ⟨(0 : Int), (⟨#[]⟩ : ByteArray), (0 : Int), (0 : Int)⟩
def k37 : Kd S37 := Kd.iso (Kd.pair (Kd.int .i64) (Kd.pair Kd.string (Kd.pair (Kd.int .i64) (Kd.int .i64)))) (fun x : S37 => (x.f0, x.f1, x.f2, x.f3))
theorem k37_open {w : World} {x : S37} {cs : List Value} (h : k37.K w x cs) : cs = [.int .i64 x.f0, .string x.f1, .int .i64 x.f2, .int .i64 x.f3] := by
  obtain ⟨_, _, rfl, rfl, ⟨_, _, rfl, rfl, ⟨_, _, rfl, rfl, rfl⟩⟩⟩ := h
  exact rfl
theorem k37_openM {w : World} {base : Nat} {ok : Nat → Prop} {x : S37} {cs : List Value} (h : k37.M w base ok x cs) : cs = [.int .i64 x.f0, .string x.f1, .int .i64 x.f2, .int .i64 x.f3] := by
  obtain ⟨_, _, rfl, rfl, ⟨_, _, rfl, rfl, ⟨_, _, rfl, rfl, rfl⟩⟩⟩ := h
  exact rfl
theorem k37_mk (w : World) (x : S37)  : k37.K w x [.int .i64 x.f0, .string x.f1, .int .i64 x.f2, .int .i64 x.f3] := ⟨[.int .i64 x.f0], [.string x.f1, .int .i64 x.f2, .int .i64 x.f3], rfl, rfl, ⟨[.string x.f1], [.int .i64 x.f2, .int .i64 x.f3], rfl, rfl, ⟨[.int .i64 x.f2], [.int .i64 x.f3], rfl, rfl, rfl⟩⟩⟩
theorem k37_mkM (w : World) (base : Nat) (ok : Nat → Prop) (x : S37)  : k37.M w base ok x [.int .i64 x.f0, .string x.f1, .int .i64 x.f2, .int .i64 x.f3] := ⟨[.int .i64 x.f0], [.string x.f1, .int .i64 x.f2, .int .i64 x.f3], rfl, rfl, ⟨[.string x.f1], [.int .i64 x.f2, .int .i64 x.f3], rfl, rfl, ⟨[.int .i64 x.f2], [.int .i64 x.f3], rfl, rfl, rfl⟩⟩⟩
def rd_T37 (xs : List S37) (i : Int) : S37 := xs.getD i.toNat z37
theorem at_T37 {w : World} {A : Option Addr} {n : Nat} {xs : List S37} (h : Kd.C k37 w A n xs) (i : Int) (h0 : 0 ≤ i) (h1 : i < n) : ∃ ad , A = some ad ∧ w.cell? (ad.add (i.toNat * 4)) = some (.int .i64 (rd_T37 xs i).f0) ∧ w.cell? ⟨(ad.add (i.toNat * 4)).block, (ad.add (i.toNat * 4)).off + 1, none⟩ = some (.string (rd_T37 xs i).f1) ∧ w.cell? ⟨(ad.add (i.toNat * 4)).block, (ad.add (i.toNat * 4)).off + 2, none⟩ = some (.int .i64 (rd_T37 xs i).f2) ∧ w.cell? ⟨(ad.add (i.toNat * 4)).block, (ad.add (i.toNat * 4)).off + 3, none⟩ = some (.int .i64 (rd_T37 xs i).f3) := by
  obtain ⟨ad, c, e, _, hK, hc0⟩ := Kd.C_get h z37 i h0 h1
  have hc : ∀ j u, c[j]? = some u → w.cell? (ad.add (i.toNat * 4 + j)) = some u := hc0
  obtain rfl := k37_open hK
  exact ⟨ad, e, hc 0 _ rfl, by rw [← add_field _ _ 1 (by omega)]; exact hc 1 _ rfl, by rw [← add_field _ _ 2 (by omega)]; exact hc 2 _ rfl, by rw [← add_field _ _ 3 (by omega)]; exact hc 3 _ rfl⟩

end Go.Proofs.YtobhcpfdgfkeiaaDoor.Lx

namespace Go.Proofs.YtobhcpfdgfkeiaaDoor.Lx
open Go.RowKit Go.Proofs.YtobhcpfdgfkeiaaDoorW.PrintWords Go.Proofs.YtobhcpfdgfkeiaaDoorW.PrintLast Go.Proofs.YtobhcpfdgfkeiaaDoorW.PrintMore Go.Proofs.YtobhcpfdgfkeiaaDoor.Lf Go.Proofs.YtobhcpfdgfkeiaaDoor.Ext
attribute [local go_sem] max2_int min2_int max_two min_two max_three min_three max_four min_four   -- for this text's walks alone
set_option linter.unusedVariables false
set_option linter.unusedSimpArgs false

-- BY HAND: function 29 (strings_IndexByte)

-- BY HAND: function 30 (strings_HasPrefix)

-- BY HAND: function 31 (lex_span)

/-! ### lex_skip: function 17 -/
def lex_skip.l0 : Nat → ByteArray → Int → Option (Int)
  | 0, _, _ => none
  | k + 1, x0, x3 => if x3 < (x0.size : Int) then (if 0 ≤ x3 then ((strings_IndexByte.f (⟨#[32, 9, 10, 13]⟩ : ByteArray) (bt x0 x3)).bind fun t101 => (if t101 ≥ 0 then (lex_skip.l0 k x0 (wrap64 (x3 + 1))) else (if x3 ≤ (x0.size : Int) then ((strings_HasPrefix.f (x0.extract (x3 : Int).toNat x0.size) (⟨#[45, 45]⟩ : ByteArray)).bind fun t102 => (if t102 = true then ((lex_span.f (x0.extract (x3 : Int).toNat x0.size) 32).bind fun t103 => (lex_skip.l0 k x0 (wrap64 (x3 + t103)))) else (some x3))) else (none)))) else (none)) else (some x3)
def lex_skip.f (k : Nat) (a0 : ByteArray) : Option (Int) := lex_skip.l0 k a0 0
theorem lex_skip.mono_l : ∀ k, (∀ y0 y1, LeO (lex_skip.l0 k y0 y1) (lex_skip.l0 (k + 1) y0 y1))
  | 0 => fun _ _ r h => by simp [lex_skip.l0] at h
  | k + 1 => by
    have ih0 := lex_skip.mono_l k
    · intro y0 y1
      unfold lex_skip.l0
      repeat' first
      | (with_reducible exact ih0 _ _)
      | (with_reducible exact LeO.refl _)
      | (with_reducible exact LeO.none _)
      | (with_reducible refine LeO.ite ?_ ?_)
      | (with_reducible refine LeO.bind ?_ (fun _ => ?_))
      | exact ih0 _ _
      | exact LeO.none _
      | refine LeO.ite ?_ ?_
      | refine LeO.bind ?_ (fun _ => ?_)
theorem lex_skip.mono : ∀ a0 k, LeO (lex_skip.f k a0) (lex_skip.f (k + 1) a0) := by
  intro a0 k
  have ih0 := lex_skip.mono_l k
  unfold lex_skip.f
  repeat' first
      | (with_reducible exact ih0 _ _)
      | (with_reducible exact LeO.refl _)
      | (with_reducible exact LeO.none _)
      | (with_reducible refine LeO.ite ?_ ?_)
      | (with_reducible refine LeO.bind ?_ (fun _ => ?_))
      | exact ih0 _ _
      | exact LeO.none _
      | refine LeO.ite ?_ ?_
      | refine LeO.bind ?_ (fun _ => ?_)
set_option maxHeartbeats 8000000 in
set_option maxRecDepth 100000 in
theorem lex_skip.calls (k : Nat) (a0 : ByteArray) (r : Int) (w : World) (h : lex_skip.f k a0 = some r) :
    Calls Tryd.prog 17 #[.string a0] w fun e w' => e = .returned (.int .i64 r) ∧ Drawn0 w w' := by
  have H : (lex_skip.l0 k a0 0) = some r := h
  clear h
  have H' := Aside0.mk H
  clear H
  go_enter Tryd.func17, Tryd.ntmps17
  go_wp2
  go_loopg [3] k (fun kq v3 w' => ∃ (x3_1 : Int), v3 = .int .i64 x3_1 ∧ Aside0 (lex_skip.l0 kq a0 x3_1 = some r) ∧ Aside0 (kq ≤ k) ∧ Drawn0 w w')
  case atStart => exact ⟨(0), (by first | rfl | (simp; done) | (simp [*]; done)), H', ⟨Nat.le_refl _⟩, by repeat (first | exact Drawn0.refl _ | apply Drawn0.step)⟩
  case round =>
    clear H'
    try clear c1
    obtain ⟨x3_1, rfl, HA, HK1, ⟨m1, rfl⟩⟩ := hrel
    cases gk with
    | zero => exact absurd HA.out (by simp [lex_skip.l0])
    | succ k1 =>
      have H := HA.out
      clear HA
      simp only [lex_skip.l0] at H
      by_cases c2 : x3_1 < (a0.size : Int)
      · rw [if_pos c2] at H
        have c2b0 : decide (x3_1 < (a0.size : Int)) = true := decide_eq_true c2
        clear c2
        by_cases c3 : 0 ≤ x3_1
        · rw [if_pos c3] at H
          have c3b0 : decide (0 ≤ x3_1) = true := decide_eq_true c3
          clear c3
          replace H := Option.bind_eq_some_iff.mp H
          obtain ⟨t101, A50, H⟩ := H
          replace H : (if t101 ≥ 0 then (lex_skip.l0 k1 a0 (wrap64 (x3_1 + 1))) else (if x3_1 ≤ (a0.size : Int) then ((strings_HasPrefix.f (a0.extract (x3_1 : Int).toNat a0.size) (⟨#[45, 45]⟩ : ByteArray)).bind fun t102 => (if t102 = true then ((lex_span.f (a0.extract (x3_1 : Int).toNat a0.size) 32).bind fun t103 => (lex_skip.l0 k1 a0 (wrap64 (x3_1 + t103)))) else (some x3_1))) else (none))) = some r := H
          have A5 := Aside0.mk A50
          clear A50
          by_cases c6 : t101 ≥ 0
          · rw [if_pos c6] at H
            have c6b0 : decide (0 ≤ t101) = true := decide_eq_true c6
            clear c6
            have H' := Aside0.mk H
            clear H
            have p4 : 0 ≤ (x3_1 : Int) := of_decide_eq_true (by first | (with_reducible assumption) | assumption)
            have q4 : x3_1 < (a0.size : Int) := of_decide_eq_true (by first | (with_reducible assumption) | assumption)
            have hx4 := bt_at a0 x3_1
            replace p4 := eq_true p4
            replace q4 := eq_true q4
            go_wp2_with (first | ((with_reducible refine gate_callee (f := 29) rfl ?_); refine goesL_ (some 13) rfl rfl Tryd.func29 (by kernel_rfl) rfl #[.string (⟨#[32, 9, 10, 13]⟩ : ByteArray), .int .u8 (bt a0 x3_1)] rfl (by (try simp only [List.map_toArray, List.map_cons, List.map_nil]); first | done | rfl | (simp only [List.length_drop, List.length_take]; rfl)) ?_; (with_reducible refine (strings_IndexByte.calls (⟨#[32, 9, 10, 13]⟩ : ByteArray) (bt a0 x3_1) t101 _ A5.out).mono ?_); rintro e w' ⟨rfl, ⟨nd, rfl⟩⟩; refine ⟨_, rfl, ?_⟩))
            go_roundg k1
            case measure => have := HK1.out; omega
            case rel => exact ⟨(wrap64 (x3_1 + 1)), (by first | rfl | (simp; done) | (simp [*]; done)), H', ⟨by have := HK1.out; omega⟩, by repeat (first | exact Drawn0.refl _ | apply Drawn0.step)⟩
          · rw [if_neg c6] at H
            have c6b0 : decide (0 ≤ t101) = false := decide_eq_false c6
            clear c6
            have c7b0 := eq_true (of_decide_eq_true (by first | (with_reducible assumption) | assumption) : 0 ≤ x3_1)
            by_cases c8 : x3_1 ≤ (a0.size : Int)
            · rw [if_pos c8] at H
              have c8b0 := eq_true c8
              have c8b1 : decide (x3_1 ≤ (a0.size : Int)) = true := decide_eq_true c8
              clear c8
              replace H := Option.bind_eq_some_iff.mp H
              obtain ⟨t102, A90, H⟩ := H
              replace H : (if t102 = true then ((lex_span.f (a0.extract (x3_1 : Int).toNat a0.size) 32).bind fun t103 => (lex_skip.l0 k1 a0 (wrap64 (x3_1 + t103)))) else (some x3_1)) = some r := H
              have A9 := Aside0.mk A90
              clear A90
              by_cases c10 : t102 = true
              · subst c10
                have H1 : ((lex_span.f (a0.extract (x3_1 : Int).toNat a0.size) 32).bind fun t103 => (lex_skip.l0 k1 a0 (wrap64 (x3_1 + t103)))) = some r := by rw [if_pos rfl] at H; exact H
                clear H
                have H := H1
                clear H1
                have c11b0 := eq_true (of_decide_eq_true (by first | (with_reducible assumption) | assumption) : 0 ≤ x3_1)
                have c12b0 := eq_true (of_decide_eq_true (by first | (with_reducible assumption) | assumption) : x3_1 ≤ (a0.size : Int))
                replace H := Option.bind_eq_some_iff.mp H
                obtain ⟨t103, A130, H⟩ := H
                replace H : (lex_skip.l0 k1 a0 (wrap64 (x3_1 + t103))) = some r := H
                have A13 := Aside0.mk A130
                clear A130
                have H' := Aside0.mk H
                clear H
                have p4 : 0 ≤ (x3_1 : Int) := of_decide_eq_true (by first | (with_reducible assumption) | assumption)
                have q4 : x3_1 < (a0.size : Int) := of_decide_eq_true (by first | (with_reducible assumption) | assumption)
                have hx4 := bt_at a0 x3_1
                replace p4 := eq_true p4
                replace q4 := eq_true q4
                go_wp2_with (first | ((with_reducible refine gate_callee (f := 29) rfl ?_); refine goesL_ (some 13) rfl rfl Tryd.func29 (by kernel_rfl) rfl #[.string (⟨#[32, 9, 10, 13]⟩ : ByteArray), .int .u8 (bt a0 x3_1)] rfl (by (try simp only [List.map_toArray, List.map_cons, List.map_nil]); first | done | rfl | (simp only [List.length_drop, List.length_take]; rfl)) ?_; (with_reducible refine (strings_IndexByte.calls (⟨#[32, 9, 10, 13]⟩ : ByteArray) (bt a0 x3_1) t101 _ A5.out).mono ?_); rintro e w' ⟨rfl, ⟨nd, rfl⟩⟩; refine ⟨_, rfl, ?_⟩) | ((with_reducible refine gate_callee (f := 30) rfl ?_); refine goesL_ (some 21) rfl rfl Tryd.func30 (by kernel_rfl) rfl #[.string (a0.extract (x3_1 : Int).toNat a0.size), .string (⟨#[45, 45]⟩ : ByteArray)] rfl (by (try simp only [List.map_toArray, List.map_cons, List.map_nil]); first | done | rfl | (simp only [List.length_drop, List.length_take]; rfl)) ?_; (with_reducible refine (strings_HasPrefix.calls (a0.extract (x3_1 : Int).toNat a0.size) (⟨#[45, 45]⟩ : ByteArray) true _ A9.out).mono ?_); rintro e w' ⟨rfl, ⟨nd, rfl⟩⟩; refine ⟨_, rfl, ?_⟩) | ((with_reducible refine gate_callee (f := 31) rfl ?_); refine goesL_ (some 26) rfl rfl Tryd.func31 (by kernel_rfl) rfl #[.string (a0.extract (x3_1 : Int).toNat a0.size), .func (.func 32) #[] #[]] rfl (by (try simp only [List.map_toArray, List.map_cons, List.map_nil]); first | done | rfl | (simp only [List.length_drop, List.length_take]; rfl)) ?_; (with_reducible refine (lex_span.calls (a0.extract (x3_1 : Int).toNat a0.size) 32 t103 _ A13.out).mono ?_); rintro e w' ⟨rfl, ⟨nd, rfl⟩⟩; refine ⟨_, rfl, ?_⟩))
                go_roundg k1
                case measure => have := HK1.out; omega
                case rel => exact ⟨(wrap64 (x3_1 + t103)), (by first | rfl | (simp; done) | (simp [*]; done)), H', ⟨by have := HK1.out; omega⟩, by repeat (first | exact Drawn0.refl _ | apply Drawn0.step)⟩
              · replace c10 := Bool.eq_false_iff.mpr c10
                subst c10
                have H1 : (some x3_1) = some r := by rw [if_neg (show ¬ (false = true) by decide)] at H; exact H
                clear H
                have H := H1
                clear H1
                obtain rfl := Option.some.inj H
                have p4 : 0 ≤ (x3_1 : Int) := of_decide_eq_true (by first | (with_reducible assumption) | assumption)
                have q4 : x3_1 < (a0.size : Int) := of_decide_eq_true (by first | (with_reducible assumption) | assumption)
                have hx4 := bt_at a0 x3_1
                replace p4 := eq_true p4
                replace q4 := eq_true q4
                go_wp2_with (first | ((with_reducible refine gate_callee (f := 29) rfl ?_); refine goesL_ (some 13) rfl rfl Tryd.func29 (by kernel_rfl) rfl #[.string (⟨#[32, 9, 10, 13]⟩ : ByteArray), .int .u8 (bt a0 x3_1)] rfl (by (try simp only [List.map_toArray, List.map_cons, List.map_nil]); first | done | rfl | (simp only [List.length_drop, List.length_take]; rfl)) ?_; (with_reducible refine (strings_IndexByte.calls (⟨#[32, 9, 10, 13]⟩ : ByteArray) (bt a0 x3_1) t101 _ A5.out).mono ?_); rintro e w' ⟨rfl, ⟨nd, rfl⟩⟩; refine ⟨_, rfl, ?_⟩) | ((with_reducible refine gate_callee (f := 30) rfl ?_); refine goesL_ (some 21) rfl rfl Tryd.func30 (by kernel_rfl) rfl #[.string (a0.extract (x3_1 : Int).toNat a0.size), .string (⟨#[45, 45]⟩ : ByteArray)] rfl (by (try simp only [List.map_toArray, List.map_cons, List.map_nil]); first | done | rfl | (simp only [List.length_drop, List.length_take]; rfl)) ?_; (with_reducible refine (strings_HasPrefix.calls (a0.extract (x3_1 : Int).toNat a0.size) (⟨#[45, 45]⟩ : ByteArray) false _ A9.out).mono ?_); rintro e w' ⟨rfl, ⟨nd, rfl⟩⟩; refine ⟨_, rfl, ?_⟩))
                go_ret
                exact ⟨by first | rfl | (simp; done) | (simp [*]; done), by repeat (first | exact Drawn0.refl _ | apply Drawn0.step)⟩
            · rw [if_neg c8] at H
              exact absurd H (by simp)
        · rw [if_neg c3] at H
          exact absurd H (by simp)
      · rw [if_neg c2] at H
        have c2b0 : decide (x3_1 < (a0.size : Int)) = false := decide_eq_false c2
        clear c2
        obtain rfl := Option.some.inj H
        go_wp2
        go_ret
        exact ⟨by first | rfl | (simp; done) | (simp [*]; done), by repeat (first | exact Drawn0.refl _ | apply Drawn0.step)⟩

-- BY HAND: function 33 (lex_letter)

-- BY HAND: function 34 (lex_name)

-- BY HAND: function 35 (lex_digit)

-- BY HAND: function 36 (lex_number)

-- BY HAND: function 37 (lex_text)

end Go.Proofs.YtobhcpfdgfkeiaaDoor.Lx

namespace Go.Proofs.YtobhcpfdgfkeiaaDoor.Lx
open Go.RowKit Go.Proofs.YtobhcpfdgfkeiaaDoorW.PrintWords Go.Proofs.YtobhcpfdgfkeiaaDoorW.PrintLast Go.Proofs.YtobhcpfdgfkeiaaDoorW.PrintMore Go.Proofs.YtobhcpfdgfkeiaaDoor.Lf Go.Proofs.YtobhcpfdgfkeiaaDoor.Ext
attribute [local go_sem] max2_int min2_int max_two min_two max_three min_three max_four min_four   -- for this text's walks alone
set_option linter.unusedVariables false
set_option linter.unusedSimpArgs false

/-! ### lex_op: function 38 -/
def lex_op.l0 : Nat → ByteArray → List ByteArray → Int → Int → Option (Int × ByteArray × Int × Int × Int)
  | 0, _, _, _, _ => none
  | k + 1, x0, x6, x7, x8 => if x8 < x7 then (if 0 ≤ x8 then (if x8 < (x6.length : Int) then ((strings_HasPrefix.f x0 (rdOf ByteArray.empty x6 x8)).bind fun t109 => (if t109 = true then (some (5, rdOf ByteArray.empty x6 x8, 0, 0, 2)) else (lex_op.l0 k x0 x6 x7 (wrap64 (x8 + 1))))) else (none)) else (none)) else (if 0 < (x0.size : Int) then ((strings_IndexByte.f (⟨#[40, 41, 44, 46, 59, 42, 61, 60, 62, 43, 45, 47, 37, 38, 124, 94]⟩ : ByteArray) (bt x0 0)).bind fun t110 => (if t110 ≥ 0 then (if 0 ≤ 1 then (if 1 ≤ (x0.size : Int) then (some (5, x0.extract 0 1, 0, 0, 1)) else (none)) else (none)) else (some (0, (⟨#[]⟩ : ByteArray), 0, 0, 0)))) else (none))
def lex_op.f (k : Nat) (a0 : ByteArray) : Option (Int × ByteArray × Int × Int × Int) := (some (([(⟨#[60, 62]⟩ : ByteArray), (⟨#[60, 61]⟩ : ByteArray), (⟨#[62, 61]⟩ : ByteArray), (⟨#[60, 60]⟩ : ByteArray), (⟨#[62, 62]⟩ : ByteArray), (⟨#[124, 124]⟩ : ByteArray)] : List ByteArray) : List ByteArray)).bind fun y105 => (lex_op.l0 k a0 y105 (y105.length : Int) 0)
theorem lex_op.mono_l : ∀ k, (∀ y0 y1 y2 y3, LeO (lex_op.l0 k y0 y1 y2 y3) (lex_op.l0 (k + 1) y0 y1 y2 y3))
  | 0 => fun _ _ _ _ r h => by simp [lex_op.l0] at h
  | k + 1 => by
    have ih0 := lex_op.mono_l k
    · intro y0 y1 y2 y3
      unfold lex_op.l0
      repeat' first
      | (with_reducible exact ih0 _ _ _ _)
      | (with_reducible exact LeO.refl _)
      | (with_reducible exact LeO.none _)
      | (with_reducible refine LeO.ite ?_ ?_)
      | (with_reducible refine LeO.bind ?_ (fun _ => ?_))
      | exact ih0 _ _ _ _
      | exact LeO.none _
      | refine LeO.ite ?_ ?_
      | refine LeO.bind ?_ (fun _ => ?_)
theorem lex_op.mono : ∀ a0 k, LeO (lex_op.f k a0) (lex_op.f (k + 1) a0) := by
  intro a0 k
  have ih0 := lex_op.mono_l k
  unfold lex_op.f
  repeat' first
      | (with_reducible exact ih0 _ _ _ _)
      | (with_reducible exact LeO.refl _)
      | (with_reducible exact LeO.none _)
      | (with_reducible refine LeO.ite ?_ ?_)
      | (with_reducible refine LeO.bind ?_ (fun _ => ?_))
      | exact ih0 _ _ _ _
      | exact LeO.none _
      | refine LeO.ite ?_ ?_
      | refine LeO.bind ?_ (fun _ => ?_)
set_option maxHeartbeats 8000000 in
set_option maxRecDepth 100000 in
theorem lex_op.calls (k : Nat) (a0 : ByteArray) (r1 : Int) (r2 : ByteArray) (r3 : Int) (r4 : Int) (r5 : Int) (w : World) (h : lex_op.f k a0 = some (r1, r2, r3, r4, r5)) :
    Calls Tryd.prog 38 #[.string a0] w fun e w' => e = .returned (.tuple #[.agg #[.int .i64 r1, .string r2, .int .i64 r3, .int .i64 r4], .int .i64 r5]) ∧ Below w.heap.size w w' := by
  have hu28 := Tryd.underlying28
  have HB := Aside0.mk (Below.refl w.heap.size w)
  have H : ((some (([(⟨#[60, 62]⟩ : ByteArray), (⟨#[60, 61]⟩ : ByteArray), (⟨#[62, 61]⟩ : ByteArray), (⟨#[60, 60]⟩ : ByteArray), (⟨#[62, 62]⟩ : ByteArray), (⟨#[124, 124]⟩ : ByteArray)] : List ByteArray) : List ByteArray)).bind fun y105 => (lex_op.l0 k a0 y105 (y105.length : Int) 0)) = some (r1, r2, r3, r4, r5) := h
  clear h
  obtain ⟨y105, hy105⟩ : ∃ y_ : List ByteArray, y_ = (([(⟨#[60, 62]⟩ : ByteArray), (⟨#[60, 61]⟩ : ByteArray), (⟨#[62, 61]⟩ : ByteArray), (⟨#[60, 60]⟩ : ByteArray), (⟨#[62, 62]⟩ : ByteArray), (⟨#[124, 124]⟩ : ByteArray)] : List ByteArray)) := ⟨_, rfl⟩
  replace H : (lex_op.l0 k a0 y105 (y105.length : Int) 0) = some (r1, r2, r3, r4, r5) := by first | (rw [hy105]; with_reducible exact H) | (have H2_ := (Option.bind_some _ _).symm.trans H; rw [hy105]; with_reducible exact H2_) | (have H2_ := (Option.bind_some _ _).symm.trans H; with_reducible exact H2_) | with_reducible exact H | (rw [hy105]; exact H) | exact H
  have Ny105 := Aside0.mk hy105
  clear hy105
  have H' := Aside0.mk H
  clear H
  go_enter Tryd.func38, Tryd.ntmps38
  go_wp2_with (first | ((with_reducible refine gate_dst (N := 2) rfl ?_); refine box_event ?hg (N := 2) ?hd (cs := #[.int .i64 0, .string (⟨#[]⟩ : ByteArray), .int .i64 0, .int .i64 0]) (t := 28) ?hr ?_; (case hd => rfl); (case hg => rfl); (case hr => first | (go_simp; done) | (go_simp; rfl)); intro gb104 hg w2 hbox hb; have n0_ := Aside0.mk (below_step (by repeat (first | (with_reducible first | exact HB.out | apply below_alloc | apply pw_below_drewN | apply below_drew1) | exact HB.out)) hb); have n1_ := Aside0.mk (hbox); have n2_ := Aside0.mk ((by rw [hg]; exact (below_size (by repeat (first | (with_reducible first | exact HB.out | apply below_alloc | apply pw_below_drewN | apply below_drew1) | exact HB.out))) : w.heap.size ≤ gb104)); have n3_ := Aside0.mk ((by rw [hg]; exact (below_size (by repeat (first | (with_reducible first | exact HB.out | apply below_alloc | apply pw_below_drewN | apply below_drew1) | exact HB.out))) : w.heap.size ≤ gb104)); clear HB; have HB := n0_; have BK104 := n1_; have GW104 := n2_; have GE104 := n3_; clear n0_ n1_ n2_ n3_; clear hb hbox hg) | ((with_reducible refine gate_dst (N := 6) rfl ?_); refine Kd.R_lit Kd.string _ 9 ?hg (N := 6) ?hd (xs := ([(⟨#[60, 62]⟩ : ByteArray), (⟨#[60, 61]⟩ : ByteArray), (⟨#[62, 61]⟩ : ByteArray), (⟨#[60, 60]⟩ : ByteArray), (⟨#[62, 62]⟩ : ByteArray), (⟨#[124, 124]⟩ : ByteArray)] : List ByteArray)) (inner := [.string (⟨#[60, 62]⟩ : ByteArray), .string (⟨#[60, 61]⟩ : ByteArray), .string (⟨#[62, 61]⟩ : ByteArray), .string (⟨#[60, 60]⟩ : ByteArray), .string (⟨#[62, 62]⟩ : ByteArray), .string (⟨#[124, 124]⟩ : ByteArray)]) (ok := fun _ => True) (okp := fun _ => True) ?hr ?hp (fun _ hk => hk) trivial (Below.refl _ _) (Nat.le_refl _) (by simp) ?_; (case hd => rfl); (case hg => rfl); (case hr => first | (go_simp; done) | (go_simp; rfl)); (case hp => exact (Reps.one (show Kd.M Kd.string _ _ _ (⟨#[60, 62]⟩ : ByteArray) [.string (⟨#[60, 62]⟩ : ByteArray)] from rfl) (Reps.one (show Kd.M Kd.string _ _ _ (⟨#[60, 61]⟩ : ByteArray) [.string (⟨#[60, 61]⟩ : ByteArray)] from rfl) (Reps.one (show Kd.M Kd.string _ _ _ (⟨#[62, 61]⟩ : ByteArray) [.string (⟨#[62, 61]⟩ : ByteArray)] from rfl) (Reps.one (show Kd.M Kd.string _ _ _ (⟨#[60, 60]⟩ : ByteArray) [.string (⟨#[60, 60]⟩ : ByteArray)] from rfl) (Reps.one (show Kd.M Kd.string _ _ _ (⟨#[62, 62]⟩ : ByteArray) [.string (⟨#[62, 62]⟩ : ByteArray)] from rfl) (Reps.one (show Kd.M Kd.string _ _ _ (⟨#[124, 124]⟩ : ByteArray) [.string (⟨#[124, 124]⟩ : ByteArray)] from rfl) (Reps.none _ _)))))))); intro v106 w3 ho4 hb hg_ hnew_; clear hg_ hnew_; (first | rw [← Ny105.out] at ho4 | (simp only [Int.reduceToNat] at ho4; rw [← Ny105.out] at ho4)); have n0_ := Aside0.mk (Kd.R_lower ho4 (below_size (by repeat (first | (with_reducible first | exact HB.out | apply below_alloc | apply pw_below_drewN | apply below_drew1 | refine below_set ?_ GE104.out) | exact HB.out)))); have n1_ := Aside0.mk (blk_below (g := gb104) (o := .cells #[.int .i64 0, .string (⟨#[]⟩ : ByteArray), .int .i64 0, .int .i64 0] 28 (0, 0)) (by (with_reducible repeat (first | refine blk_drewN ?_ _ | refine blk_drew ?_ | refine blk_alloc ?_ _)); exact BK104.out) hb); have n2_ := Aside0.mk (below_step (by repeat (first | (with_reducible first | exact HB.out | apply below_alloc | apply pw_below_drewN | apply below_drew1 | refine below_set ?_ GE104.out) | exact HB.out)) hb); clear BK104; clear HB; have HO107 := n0_; have BK104 := n1_; have HB := n2_; clear n0_ n1_ n2_; clear hb ho4; obtain ⟨Ao5, co5, eo5⟩ := Kd.R_slice HO107.out; subst eo5))
  go_loopg [8] k (fun kq v8 w' => ∃ (x8_1 : Int) (x105000_1 : Int) (x105001_1 : ByteArray) (x105002_1 : Int) (x105003_1 : Int), v8 = .int .i64 x8_1 ∧ Aside0 (lex_op.l0 kq a0 y105 (y105.length : Int) x8_1 = some (r1, r2, r3, r4, r5)) ∧ Aside0 (kq ≤ k) ∧ Aside0 (Kd.R Kd.string 9 w' w.heap.size (fun _ => True) (.slice Ao5 y105.length co5) y105) ∧ Aside0 (w'.heap[gb104]? = some (.cells #[.int .i64 x105000_1, .string x105001_1, .int .i64 x105002_1, .int .i64 x105003_1] 28 (0, 0))) ∧ Aside0 (Below w.heap.size w w'))
  case atStart => exact ⟨(0), (0), ((⟨#[]⟩ : ByteArray)), (0), (0), (by first | rfl | (simp; done) | (simp [*]; done)), H', ⟨Nat.le_refl _⟩, ⟨by (with_reducible repeat (first | apply Kd.R_alloc | apply Kd.R_drewN | apply Kd.R_drew)); exact HO107.out⟩, ⟨by (with_reducible repeat (first | refine blk_drewN ?_ _ | refine blk_drew ?_ | refine blk_alloc ?_ _)); exact BK104.out⟩, ⟨by repeat (first | (with_reducible first | exact HB.out | apply below_alloc | apply pw_below_drewN | apply below_drew1 | refine below_set ?_ GE104.out) | exact HB.out)⟩⟩
  case round =>
    clear H'
    try clear p2
    try clear c3
    obtain ⟨x8_1, x105000_1, x105001_1, x105002_1, x105003_1, rfl, HA, HK1, HO_6, BK104, HB⟩ := hrel
    cases gk with
    | zero => exact absurd HA.out (by simp [lex_op.l0])
    | succ k1 =>
      have H := HA.out
      clear HA
      simp only [lex_op.l0] at H
      by_cases c6 : x8_1 < (y105.length : Int)
      · rw [if_pos c6] at H
        have c6b0 : decide (x8_1 < (y105.length : Int)) = true := decide_eq_true c6
        clear c6
        by_cases c7 : 0 ≤ x8_1
        · rw [if_pos c7] at H
          have c7b0 : decide (0 ≤ x8_1) = true := decide_eq_true c7
          clear c7
          by_cases c8 : x8_1 < (y105.length : Int)
          · rw [if_pos c8] at H
            have c8b0 : decide (x8_1 < (y105.length : Int)) = true := decide_eq_true c8
            clear c8
            replace H := Option.bind_eq_some_iff.mp H
            obtain ⟨t109, A90, H⟩ := H
            replace H : (if t109 = true then (some (5, rdOf ByteArray.empty y105 x8_1, 0, 0, 2)) else (lex_op.l0 k1 a0 y105 (y105.length : Int) (wrap64 (x8_1 + 1)))) = some (r1, r2, r3, r4, r5) := H
            have A9 := Aside0.mk A90
            clear A90
            by_cases c10 : t109 = true
            · subst c10
              have H1 : (some (5, rdOf ByteArray.empty y105 x8_1, 0, 0, 2)) = some (r1, r2, r3, r4, r5) := by rw [if_pos rfl] at H; exact H
              clear H
              have H := H1
              clear H1
              simp only [Option.some.injEq, Prod.mk.injEq] at H
              obtain ⟨rfl, rfl, rfl, rfl, rfl⟩ := H
              have p108 : 0 ≤ (x8_1 : Int) := of_decide_eq_true (by first | (with_reducible assumption) | assumption)
              have q108 : x8_1 < (y105.length : Int) := of_decide_eq_true (by first | (with_reducible assumption) | assumption)
              obtain ⟨ad108, e108, hx108_0⟩ := Kd.at_string (Kd.R_reads' HO_6.out).2.2 x8_1 p108 q108
              cases e108
              replace p108 := eq_true p108
              replace q108 := eq_true q108
              go_wp2_with (first | ((with_reducible refine gate_callee (f := 30) rfl ?_); refine goesL_ (some 14) rfl rfl Tryd.func30 (by kernel_rfl) rfl #[.string a0, .string (rdOf ByteArray.empty y105 x8_1)] rfl (by (try simp only [List.map_toArray, List.map_cons, List.map_nil]); first | done | rfl | (simp only [List.length_drop, List.length_take]; rfl)) ?_; (with_reducible refine (strings_HasPrefix.calls a0 (rdOf ByteArray.empty y105 x8_1) true _ A9.out).mono ?_); rintro e w' ⟨rfl, ⟨nd, rfl⟩⟩; refine ⟨_, rfl, ?_⟩; (try (rw [drewN_self wr]; generalize hq_ : World.drewN wr _ = wr; have n0_ : Aside0 (Kd.R Kd.string 9 wr w.heap.size (fun _ => True) (.slice (some ad108) y105.length co5) y105) := ⟨by rw [← hq_]; exact (by (with_reducible repeat (first | apply Kd.R_alloc | apply Kd.R_drewN | apply Kd.R_drew)); exact HO_6.out)⟩; have n1_ : Aside0 (wr.heap[gb104]? = some (.cells #[.int .i64 x105000_1, .string x105001_1, .int .i64 x105002_1, .int .i64 x105003_1] 28 (0, 0))) := ⟨by rw [← hq_]; exact (by (with_reducible repeat (first | refine blk_drewN ?_ _ | refine blk_drew ?_ | refine blk_alloc ?_ _)); exact BK104.out)⟩; have n2_ : Aside0 (Below w.heap.size w wr) := ⟨by rw [← hq_]; exact (by repeat (first | (with_reducible first | exact HB.out | apply below_alloc | apply pw_below_drewN | apply below_drew1 | refine below_set ?_ GE104.out) | exact HB.out))⟩; clear HO_6 BK104 HB hq_; have HO_6 := n0_; have BK104 := n1_; have HB := n2_; clear n0_ n1_ n2_)); have hcz11_0 : wr.cell? ⟨gb104, 0, none⟩ = some (.int .i64 x105000_1) := (blk_cell BK104.out 0).trans rfl; have hcz11_1 : wr.cell? ⟨gb104, 1, none⟩ = some (.string x105001_1) := (blk_cell BK104.out 1).trans rfl; have hcz11_2 : wr.cell? ⟨gb104, 2, none⟩ = some (.int .i64 x105002_1) := (blk_cell BK104.out 2).trans rfl; have hcz11_3 : wr.cell? ⟨gb104, 3, none⟩ = some (.int .i64 x105003_1) := (blk_cell BK104.out 3).trans rfl; have hfz11_0 := blk_frozen BK104.out 0; have hfz11_1 := blk_frozen BK104.out 1; have hfz11_2 := blk_frozen BK104.out 2; have hfz11_3 := blk_frozen BK104.out 3))
              refine bodyPost_ret (results_ct rfl _ _ gb104 28 #[.int .i64 5, .string (rdOf ByteArray.empty y105 x8_1), .int .i64 0, .int .i64 0] (0, 0) _ rfl (by (with_reducible repeat (first | refine blk_drewN ?_ _ | refine blk_drew ?_ | refine blk_alloc ?_ _)); refine blk_put (cs := #[.int .i64 5, .string (rdOf ByteArray.empty y105 x8_1), .int .i64 0, .int .i64 x105003_1]) ?_ 3 _ rfl; (with_reducible repeat (first | refine blk_drewN ?_ _ | refine blk_drew ?_ | refine blk_alloc ?_ _)); refine blk_put (cs := #[.int .i64 5, .string (rdOf ByteArray.empty y105 x8_1), .int .i64 x105002_1, .int .i64 x105003_1]) ?_ 2 _ rfl; (with_reducible repeat (first | refine blk_drewN ?_ _ | refine blk_drew ?_ | refine blk_alloc ?_ _)); refine blk_put (cs := #[.int .i64 5, .string x105001_1, .int .i64 x105002_1, .int .i64 x105003_1]) ?_ 1 _ rfl; (with_reducible repeat (first | refine blk_drewN ?_ _ | refine blk_drew ?_ | refine blk_alloc ?_ _)); refine blk_put (cs := #[.int .i64 x105000_1, .string x105001_1, .int .i64 x105002_1, .int .i64 x105003_1]) ?_ 0 _ rfl; (with_reducible repeat (first | refine blk_drewN ?_ _ | refine blk_drew ?_ | refine blk_alloc ?_ _)); exact BK104.out) Tryd.underlying28 rfl (by kernel_rfl)) rfl ?_
              exact ⟨by first | rfl | (simp [errW_none, errW_some] <;> rfl) | (simp [*, errW_none, errW_some] <;> rfl), by repeat (first | (with_reducible first | exact HB.out | apply below_alloc | apply pw_below_drewN | apply below_drew1 | refine below_set ?_ GE104.out) | exact HB.out)⟩
            · replace c10 := Bool.eq_false_iff.mpr c10
              subst c10
              have H1 : (lex_op.l0 k1 a0 y105 (y105.length : Int) (wrap64 (x8_1 + 1))) = some (r1, r2, r3, r4, r5) := by rw [if_neg (show ¬ (false = true) by decide)] at H; exact H
              clear H
              have H := H1
              clear H1
              have H' := Aside0.mk H
              clear H
              have p108 : 0 ≤ (x8_1 : Int) := of_decide_eq_true (by first | (with_reducible assumption) | assumption)
              have q108 : x8_1 < (y105.length : Int) := of_decide_eq_true (by first | (with_reducible assumption) | assumption)
              obtain ⟨ad108, e108, hx108_0⟩ := Kd.at_string (Kd.R_reads' HO_6.out).2.2 x8_1 p108 q108
              cases e108
              replace p108 := eq_true p108
              replace q108 := eq_true q108
              go_wp2_with (first | ((with_reducible refine gate_callee (f := 30) rfl ?_); refine goesL_ (some 14) rfl rfl Tryd.func30 (by kernel_rfl) rfl #[.string a0, .string (rdOf ByteArray.empty y105 x8_1)] rfl (by (try simp only [List.map_toArray, List.map_cons, List.map_nil]); first | done | rfl | (simp only [List.length_drop, List.length_take]; rfl)) ?_; (with_reducible refine (strings_HasPrefix.calls a0 (rdOf ByteArray.empty y105 x8_1) false _ A9.out).mono ?_); rintro e w' ⟨rfl, ⟨nd, rfl⟩⟩; refine ⟨_, rfl, ?_⟩))
              go_roundg k1
              case measure => have := HK1.out; omega
              case rel => exact ⟨(wrap64 (x8_1 + 1)), (x105000_1), (x105001_1), (x105002_1), (x105003_1), (by first | rfl | (simp; done) | (simp [*]; done)), H', ⟨by have := HK1.out; omega⟩, ⟨by (with_reducible repeat (first | apply Kd.R_alloc | apply Kd.R_drewN | apply Kd.R_drew)); exact HO_6.out⟩, ⟨by (with_reducible repeat (first | refine blk_drewN ?_ _ | refine blk_drew ?_ | refine blk_alloc ?_ _)); exact BK104.out⟩, ⟨by repeat (first | (with_reducible first | exact HB.out | apply below_alloc | apply pw_below_drewN | apply below_drew1 | refine below_set ?_ GE104.out) | exact HB.out)⟩⟩
          · rw [if_neg c8] at H
            exact absurd H (by simp)
        · rw [if_neg c7] at H
          exact absurd H (by simp)
      · rw [if_neg c6] at H
        have c6b0 : decide (x8_1 < (y105.length : Int)) = false := decide_eq_false c6
        clear c6
        by_cases c12 : 0 < (a0.size : Int)
        · rw [if_pos c12] at H
          have c12b0 : decide (0 < (a0.size : Int)) = true := decide_eq_true c12
          have c12b1 : decide (0 < a0.size) = true := decide_eq_true (by omega)
          clear c12
          replace H := Option.bind_eq_some_iff.mp H
          obtain ⟨t110, A140, H⟩ := H
          replace H : (if t110 ≥ 0 then (if 0 ≤ 1 then (if 1 ≤ (a0.size : Int) then (some (5, a0.extract 0 1, 0, 0, 1)) else (none)) else (none)) else (some (0, (⟨#[]⟩ : ByteArray), 0, 0, 0))) = some (r1, r2, r3, r4, r5) := H
          have A14 := Aside0.mk A140
          clear A140
          by_cases c15 : t110 ≥ 0
          · rw [if_pos c15] at H
            have c15b0 : decide (0 ≤ t110) = true := decide_eq_true c15
            clear c15
            by_cases c16 : 0 ≤ 1
            · rw [if_pos c16] at H
              have c16b0 := eq_true c16
              have c16b1 : decide (0 ≤ 1) = true := decide_eq_true c16
              clear c16
              by_cases c17 : 1 ≤ (a0.size : Int)
              · rw [if_pos c17] at H
                have c17b0 := eq_true c17
                have c17b1 : decide (1 ≤ (a0.size : Int)) = true := decide_eq_true c17
                clear c17
                simp only [Option.some.injEq, Prod.mk.injEq] at H
                obtain ⟨rfl, rfl, rfl, rfl, rfl⟩ := H
                have p13 : 0 ≤ (0 : Int) := (by omega)
                have q13 : 0 < a0.size := (by have : (0 : Int) < (a0.size : Int) := of_decide_eq_true (by first | (with_reducible assumption) | assumption); omega)
                have hx13 : ∀ h : 0 < a0.size, ((a0[0]'h).toNat : Int) = bt a0 0 := bt_at a0 0
                clear p13
                have qi13 : (0 < (a0.size : Int)) = True := eq_true (of_decide_eq_true (by first | (with_reducible assumption) | assumption))
                replace q13 := eq_true q13
                go_wp2_with (first | ((with_reducible refine gate_callee (f := 29) rfl ?_); refine goesL_ (some 20) rfl rfl Tryd.func29 (by kernel_rfl) rfl #[.string (⟨#[40, 41, 44, 46, 59, 42, 61, 60, 62, 43, 45, 47, 37, 38, 124, 94]⟩ : ByteArray), .int .u8 (bt a0 0)] rfl (by (try simp only [List.map_toArray, List.map_cons, List.map_nil]); first | done | rfl | (simp only [List.length_drop, List.length_take]; rfl)) ?_; (with_reducible refine (strings_IndexByte.calls (⟨#[40, 41, 44, 46, 59, 42, 61, 60, 62, 43, 45, 47, 37, 38, 124, 94]⟩ : ByteArray) (bt a0 0) t110 _ A14.out).mono ?_); rintro e w' ⟨rfl, ⟨nd, rfl⟩⟩; refine ⟨_, rfl, ?_⟩; (try (rw [drewN_self wr]; generalize hq_ : World.drewN wr _ = wr; have n0_ : Aside0 (Kd.R Kd.string 9 wr w.heap.size (fun _ => True) (.slice Ao5 y105.length co5) y105) := ⟨by rw [← hq_]; exact (by (with_reducible repeat (first | apply Kd.R_alloc | apply Kd.R_drewN | apply Kd.R_drew)); exact HO_6.out)⟩; have n1_ : Aside0 (wr.heap[gb104]? = some (.cells #[.int .i64 x105000_1, .string x105001_1, .int .i64 x105002_1, .int .i64 x105003_1] 28 (0, 0))) := ⟨by rw [← hq_]; exact (by (with_reducible repeat (first | refine blk_drewN ?_ _ | refine blk_drew ?_ | refine blk_alloc ?_ _)); exact BK104.out)⟩; have n2_ : Aside0 (Below w.heap.size w wr) := ⟨by rw [← hq_]; exact (by repeat (first | (with_reducible first | exact HB.out | apply below_alloc | apply pw_below_drewN | apply below_drew1 | refine below_set ?_ GE104.out) | exact HB.out))⟩; clear HO_6 BK104 HB hq_; have HO_6 := n0_; have BK104 := n1_; have HB := n2_; clear n0_ n1_ n2_)); have hcz18_0 : wr.cell? ⟨gb104, 0, none⟩ = some (.int .i64 x105000_1) := (blk_cell BK104.out 0).trans rfl; have hcz18_1 : wr.cell? ⟨gb104, 1, none⟩ = some (.string x105001_1) := (blk_cell BK104.out 1).trans rfl; have hcz18_2 : wr.cell? ⟨gb104, 2, none⟩ = some (.int .i64 x105002_1) := (blk_cell BK104.out 2).trans rfl; have hcz18_3 : wr.cell? ⟨gb104, 3, none⟩ = some (.int .i64 x105003_1) := (blk_cell BK104.out 3).trans rfl; have hfz18_0 := blk_frozen BK104.out 0; have hfz18_1 := blk_frozen BK104.out 1; have hfz18_2 := blk_frozen BK104.out 2; have hfz18_3 := blk_frozen BK104.out 3))
                refine bodyPost_ret (results_ct rfl _ _ gb104 28 #[.int .i64 5, .string (a0.extract 0 1), .int .i64 0, .int .i64 0] (0, 0) _ rfl (by (with_reducible repeat (first | refine blk_drewN ?_ _ | refine blk_drew ?_ | refine blk_alloc ?_ _)); refine blk_put (cs := #[.int .i64 5, .string (a0.extract 0 1), .int .i64 0, .int .i64 x105003_1]) ?_ 3 _ rfl; (with_reducible repeat (first | refine blk_drewN ?_ _ | refine blk_drew ?_ | refine blk_alloc ?_ _)); refine blk_put (cs := #[.int .i64 5, .string (a0.extract 0 1), .int .i64 x105002_1, .int .i64 x105003_1]) ?_ 2 _ rfl; (with_reducible repeat (first | refine blk_drewN ?_ _ | refine blk_drew ?_ | refine blk_alloc ?_ _)); refine blk_put (cs := #[.int .i64 5, .string x105001_1, .int .i64 x105002_1, .int .i64 x105003_1]) ?_ 1 _ rfl; (with_reducible repeat (first | refine blk_drewN ?_ _ | refine blk_drew ?_ | refine blk_alloc ?_ _)); refine blk_put (cs := #[.int .i64 x105000_1, .string x105001_1, .int .i64 x105002_1, .int .i64 x105003_1]) ?_ 0 _ rfl; (with_reducible repeat (first | refine blk_drewN ?_ _ | refine blk_drew ?_ | refine blk_alloc ?_ _)); exact BK104.out) Tryd.underlying28 rfl (by kernel_rfl)) rfl ?_
                exact ⟨by first | rfl | (simp [errW_none, errW_some] <;> rfl) | (simp [*, errW_none, errW_some] <;> rfl), by repeat (first | (with_reducible first | exact HB.out | apply below_alloc | apply pw_below_drewN | apply below_drew1 | refine below_set ?_ GE104.out) | exact HB.out)⟩
              · rw [if_neg c17] at H
                exact absurd H (by simp)
            · rw [if_neg c16] at H
              exact absurd H (by simp)
          · rw [if_neg c15] at H
            have c15b0 : decide (0 ≤ t110) = false := decide_eq_false c15
            clear c15
            simp only [Option.some.injEq, Prod.mk.injEq] at H
            obtain ⟨rfl, rfl, rfl, rfl, rfl⟩ := H
            have p13 : 0 ≤ (0 : Int) := (by omega)
            have q13 : 0 < a0.size := (by have : (0 : Int) < (a0.size : Int) := of_decide_eq_true (by first | (with_reducible assumption) | assumption); omega)
            have hx13 : ∀ h : 0 < a0.size, ((a0[0]'h).toNat : Int) = bt a0 0 := bt_at a0 0
            clear p13
            have qi13 : (0 < (a0.size : Int)) = True := eq_true (of_decide_eq_true (by first | (with_reducible assumption) | assumption))
            replace q13 := eq_true q13
            go_wp2_with (first | ((with_reducible refine gate_callee (f := 29) rfl ?_); refine goesL_ (some 20) rfl rfl Tryd.func29 (by kernel_rfl) rfl #[.string (⟨#[40, 41, 44, 46, 59, 42, 61, 60, 62, 43, 45, 47, 37, 38, 124, 94]⟩ : ByteArray), .int .u8 (bt a0 0)] rfl (by (try simp only [List.map_toArray, List.map_cons, List.map_nil]); first | done | rfl | (simp only [List.length_drop, List.length_take]; rfl)) ?_; (with_reducible refine (strings_IndexByte.calls (⟨#[40, 41, 44, 46, 59, 42, 61, 60, 62, 43, 45, 47, 37, 38, 124, 94]⟩ : ByteArray) (bt a0 0) t110 _ A14.out).mono ?_); rintro e w' ⟨rfl, ⟨nd, rfl⟩⟩; refine ⟨_, rfl, ?_⟩; (try (rw [drewN_self wr]; generalize hq_ : World.drewN wr _ = wr; have n0_ : Aside0 (Kd.R Kd.string 9 wr w.heap.size (fun _ => True) (.slice Ao5 y105.length co5) y105) := ⟨by rw [← hq_]; exact (by (with_reducible repeat (first | apply Kd.R_alloc | apply Kd.R_drewN | apply Kd.R_drew)); exact HO_6.out)⟩; have n1_ : Aside0 (wr.heap[gb104]? = some (.cells #[.int .i64 x105000_1, .string x105001_1, .int .i64 x105002_1, .int .i64 x105003_1] 28 (0, 0))) := ⟨by rw [← hq_]; exact (by (with_reducible repeat (first | refine blk_drewN ?_ _ | refine blk_drew ?_ | refine blk_alloc ?_ _)); exact BK104.out)⟩; have n2_ : Aside0 (Below w.heap.size w wr) := ⟨by rw [← hq_]; exact (by repeat (first | (with_reducible first | exact HB.out | apply below_alloc | apply pw_below_drewN | apply below_drew1 | refine below_set ?_ GE104.out) | exact HB.out))⟩; clear HO_6 BK104 HB hq_; have HO_6 := n0_; have BK104 := n1_; have HB := n2_; clear n0_ n1_ n2_)); have hcz19_0 : wr.cell? ⟨gb104, 0, none⟩ = some (.int .i64 x105000_1) := (blk_cell BK104.out 0).trans rfl; have hcz19_1 : wr.cell? ⟨gb104, 1, none⟩ = some (.string x105001_1) := (blk_cell BK104.out 1).trans rfl; have hcz19_2 : wr.cell? ⟨gb104, 2, none⟩ = some (.int .i64 x105002_1) := (blk_cell BK104.out 2).trans rfl; have hcz19_3 : wr.cell? ⟨gb104, 3, none⟩ = some (.int .i64 x105003_1) := (blk_cell BK104.out 3).trans rfl; have hfz19_0 := blk_frozen BK104.out 0; have hfz19_1 := blk_frozen BK104.out 1; have hfz19_2 := blk_frozen BK104.out 2; have hfz19_3 := blk_frozen BK104.out 3))
            refine bodyPost_ret (results_ct rfl _ _ gb104 28 #[.int .i64 0, .string (⟨#[]⟩ : ByteArray), .int .i64 0, .int .i64 0] (0, 0) _ rfl (by (with_reducible repeat (first | refine blk_drewN ?_ _ | refine blk_drew ?_ | refine blk_alloc ?_ _)); refine blk_put (cs := #[.int .i64 0, .string (⟨#[]⟩ : ByteArray), .int .i64 0, .int .i64 x105003_1]) ?_ 3 _ rfl; (with_reducible repeat (first | refine blk_drewN ?_ _ | refine blk_drew ?_ | refine blk_alloc ?_ _)); refine blk_put (cs := #[.int .i64 0, .string (⟨#[]⟩ : ByteArray), .int .i64 x105002_1, .int .i64 x105003_1]) ?_ 2 _ rfl; (with_reducible repeat (first | refine blk_drewN ?_ _ | refine blk_drew ?_ | refine blk_alloc ?_ _)); refine blk_put (cs := #[.int .i64 0, .string x105001_1, .int .i64 x105002_1, .int .i64 x105003_1]) ?_ 1 _ rfl; (with_reducible repeat (first | refine blk_drewN ?_ _ | refine blk_drew ?_ | refine blk_alloc ?_ _)); refine blk_put (cs := #[.int .i64 x105000_1, .string x105001_1, .int .i64 x105002_1, .int .i64 x105003_1]) ?_ 0 _ rfl; (with_reducible repeat (first | refine blk_drewN ?_ _ | refine blk_drew ?_ | refine blk_alloc ?_ _)); exact BK104.out) Tryd.underlying28 rfl (by kernel_rfl)) rfl ?_
            exact ⟨by first | rfl | (simp [errW_none, errW_some] <;> rfl) | (simp [*, errW_none, errW_some] <;> rfl), by repeat (first | (with_reducible first | exact HB.out | apply below_alloc | apply pw_below_drewN | apply below_drew1 | refine below_set ?_ GE104.out) | exact HB.out)⟩
        · rw [if_neg c12] at H
          exact absurd H (by simp)

end Go.Proofs.YtobhcpfdgfkeiaaDoor.Lx

namespace Go.Proofs.YtobhcpfdgfkeiaaDoor.Lx
open Go.RowKit Go.Proofs.YtobhcpfdgfkeiaaDoorW.PrintWords Go.Proofs.YtobhcpfdgfkeiaaDoorW.PrintLast Go.Proofs.YtobhcpfdgfkeiaaDoorW.PrintMore Go.Proofs.YtobhcpfdgfkeiaaDoor.Lf Go.Proofs.YtobhcpfdgfkeiaaDoor.Ext
attribute [local go_sem] max2_int min2_int max_two min_two max_three min_three max_four min_four   -- for this text's walks alone
set_option linter.unusedVariables false
set_option linter.unusedSimpArgs false

/-! ### lex_token: function 18 -/
def lex_token.f (k : Nat) (a0 : ByteArray) : Option (Int × ByteArray × Int × Int × Int) := if 0 < (a0.size : Int) then ((lex_letter.f (bt a0 0)).bind fun t112 => (if t112 = true then ((lex_name.f a0).bind fun bt113 => (some (bt113.1, bt113.2.1, bt113.2.2.1, bt113.2.2.2.1, bt113.2.2.2.2))) else ((lex_digit.f (bt a0 0)).bind fun t118 => (if t118 = true then ((lex_number.f a0).bind fun bt119 => (some (bt119.1, bt119.2.1, bt119.2.2.1, bt119.2.2.2.1, bt119.2.2.2.2))) else (if (bt a0 0) = 39 then ((lex_text.f a0).bind fun bt124 => (some (bt124.1, bt124.2.1, bt124.2.2.1, bt124.2.2.2.1, bt124.2.2.2.2))) else ((lex_op.f k a0).bind fun bt129 => (some (bt129.1, bt129.2.1, bt129.2.2.1, bt129.2.2.2.1, bt129.2.2.2.2)))))))) else (none)
theorem lex_token.mono : ∀ a0 k, LeO (lex_token.f k a0) (lex_token.f (k + 1) a0) := by
  intro a0 k
  unfold lex_token.f
  repeat' first
      | (with_reducible exact lex_op.mono _ _)
      | (with_reducible exact LeO.refl _)
      | (with_reducible exact LeO.none _)
      | (with_reducible refine LeO.ite ?_ ?_)
      | (with_reducible refine LeO.bind ?_ (fun _ => ?_))
      | exact lex_op.mono _ _
      | exact LeO.none _
      | refine LeO.ite ?_ ?_
      | refine LeO.bind ?_ (fun _ => ?_)
set_option maxHeartbeats 8000000 in
set_option maxRecDepth 100000 in
theorem lex_token.calls (k : Nat) (a0 : ByteArray) (r1 : Int) (r2 : ByteArray) (r3 : Int) (r4 : Int) (r5 : Int) (w : World) (hgw : Wd w) (h : lex_token.f k a0 = some (r1, r2, r3, r4, r5)) :
    Calls Tryd.prog 18 #[.string a0] w fun e w' => e = .returned (.tuple #[.agg #[.int .i64 r1, .string r2, .int .i64 r3, .int .i64 r4], .int .i64 r5]) ∧ Below w.heap.size w w' := by
  have hu28 := Tryd.underlying28
  have HB := Aside0.mk (Below.refl w.heap.size w)
  have H : (if 0 < (a0.size : Int) then ((lex_letter.f (bt a0 0)).bind fun t112 => (if t112 = true then ((lex_name.f a0).bind fun bt113 => (some (bt113.1, bt113.2.1, bt113.2.2.1, bt113.2.2.2.1, bt113.2.2.2.2))) else ((lex_digit.f (bt a0 0)).bind fun t118 => (if t118 = true then ((lex_number.f a0).bind fun bt119 => (some (bt119.1, bt119.2.1, bt119.2.2.1, bt119.2.2.2.1, bt119.2.2.2.2))) else (if (bt a0 0) = 39 then ((lex_text.f a0).bind fun bt124 => (some (bt124.1, bt124.2.1, bt124.2.2.1, bt124.2.2.2.1, bt124.2.2.2.2))) else ((lex_op.f k a0).bind fun bt129 => (some (bt129.1, bt129.2.1, bt129.2.2.1, bt129.2.2.2.1, bt129.2.2.2.2)))))))) else (none)) = some (r1, r2, r3, r4, r5) := h
  clear h
  by_cases c2 : 0 < (a0.size : Int)
  · rw [if_pos c2] at H
    have c2b0 : decide (0 < (a0.size : Int)) = true := decide_eq_true c2
    have c2b1 : decide (0 < a0.size) = true := decide_eq_true (by omega)
    clear c2
    replace H := Option.bind_eq_some_iff.mp H
    obtain ⟨t112, A40, H⟩ := H
    replace H : (if t112 = true then ((lex_name.f a0).bind fun bt113 => (some (bt113.1, bt113.2.1, bt113.2.2.1, bt113.2.2.2.1, bt113.2.2.2.2))) else ((lex_digit.f (bt a0 0)).bind fun t118 => (if t118 = true then ((lex_number.f a0).bind fun bt119 => (some (bt119.1, bt119.2.1, bt119.2.2.1, bt119.2.2.2.1, bt119.2.2.2.2))) else (if (bt a0 0) = 39 then ((lex_text.f a0).bind fun bt124 => (some (bt124.1, bt124.2.1, bt124.2.2.1, bt124.2.2.2.1, bt124.2.2.2.2))) else ((lex_op.f k a0).bind fun bt129 => (some (bt129.1, bt129.2.1, bt129.2.2.1, bt129.2.2.2.1, bt129.2.2.2.2))))))) = some (r1, r2, r3, r4, r5) := H
    have A4 := Aside0.mk A40
    clear A40
    by_cases c5 : t112 = true
    · subst c5
      have H1 : ((lex_name.f a0).bind fun bt113 => (some (bt113.1, bt113.2.1, bt113.2.2.1, bt113.2.2.2.1, bt113.2.2.2.2))) = some (r1, r2, r3, r4, r5) := by rw [if_pos rfl] at H; exact H
      clear H
      have H := H1
      clear H1
      replace H := Option.bind_eq_some_iff.mp H
      obtain ⟨⟨t113, t114, t115, t116, t117⟩, A60, H⟩ := H
      replace H : (some (t113, t114, t115, t116, t117)) = some (r1, r2, r3, r4, r5) := H
      have A6 := Aside0.mk A60
      clear A60
      simp only [Option.some.injEq, Prod.mk.injEq] at H
      obtain ⟨rfl, rfl, rfl, rfl, rfl⟩ := H
      go_enter Tryd.func18, Tryd.ntmps18
      go_wp2_with (first | ((with_reducible refine gate_dst (N := 2) rfl ?_); refine box_event ?hg (N := 2) ?hd (cs := #[.int .i64 0, .string (⟨#[]⟩ : ByteArray), .int .i64 0, .int .i64 0]) (t := 28) ?hr ?_; (case hd => rfl); (case hg => rfl); (case hr => first | (go_simp; done) | (go_simp; rfl)); intro gb111 hg w7 hbox hb; have n0_ := Aside0.mk (below_step (by repeat (first | (with_reducible first | exact HB.out | apply below_alloc | apply pw_below_drewN | apply below_drew1) | exact HB.out)) hb); have n1_ := Aside0.mk (hbox); have n2_ := Aside0.mk ((by rw [hg]; exact (below_size (by repeat (first | (with_reducible first | exact HB.out | apply below_alloc | apply pw_below_drewN | apply below_drew1) | exact HB.out))) : w.heap.size ≤ gb111)); have n3_ := Aside0.mk ((by rw [hg]; exact (below_size (by repeat (first | (with_reducible first | exact HB.out | apply below_alloc | apply pw_below_drewN | apply below_drew1) | exact HB.out))) : w.heap.size ≤ gb111)); clear HB; have HB := n0_; have BK111 := n1_; have GW111 := n2_; have GE111 := n3_; clear n0_ n1_ n2_ n3_; clear hb hbox hg; have p3 : 0 ≤ (0 : Int) := (by omega); have q3 : 0 < a0.size := (by have : (0 : Int) < (a0.size : Int) := of_decide_eq_true (by first | (with_reducible assumption) | assumption); omega); have hx3 : ∀ h : 0 < a0.size, ((a0[0]'h).toNat : Int) = bt a0 0 := bt_at a0 0; clear p3; have qi3 : (0 < (a0.size : Int)) = True := eq_true (of_decide_eq_true (by first | (with_reducible assumption) | assumption)); replace q3 := eq_true q3) | ((with_reducible refine gate_callee (f := 33) rfl ?_); refine goesL_ (some 7) rfl rfl Tryd.func33 (by kernel_rfl) rfl #[.int .u8 (bt a0 0)] rfl (by (try simp only [List.map_toArray, List.map_cons, List.map_nil]); first | done | rfl | (simp only [List.length_drop, List.length_take]; rfl)) ?_; (with_reducible refine (lex_letter.calls (bt a0 0) true _ A4.out).mono ?_); rintro e w' ⟨rfl, ⟨nd, rfl⟩⟩; refine ⟨_, rfl, ?_⟩; (try (rw [drewN_self w7]; generalize hq_ : World.drewN w7 _ = w7; have n0_ : Aside0 (w7.heap[gb111]? = some (.cells #[.int .i64 0, .string (⟨#[]⟩ : ByteArray), .int .i64 0, .int .i64 0] 28 (0, 0))) := ⟨by rw [← hq_]; exact (by (with_reducible repeat (first | refine blk_drewN ?_ _ | refine blk_drew ?_ | refine blk_alloc ?_ _)); exact BK111.out)⟩; have n1_ : Aside0 (Below w.heap.size w w7) := ⟨by rw [← hq_]; exact (by repeat (first | (with_reducible first | exact HB.out | apply below_alloc | apply pw_below_drewN | apply below_drew1 | refine below_set ?_ GE111.out) | exact HB.out))⟩; clear BK111 HB hq_; have BK111 := n0_; have HB := n1_; clear n0_ n1_))) | ((with_reducible refine gate_callee (f := 34) rfl ?_); refine goesL_ (some 9) rfl rfl Tryd.func34 (by kernel_rfl) rfl #[.string a0] rfl (by (try simp only [List.map_toArray, List.map_cons, List.map_nil]); first | done | rfl | (simp only [List.length_drop, List.length_take]; rfl)) ?_; (with_reducible refine (lex_name.calls a0 t113 t114 t115 t116 t117 _ ?hwd69 A6.out).mono ?_); (case hwd69 => exact Wd.below hgw (by repeat (first | (with_reducible first | exact HB.out | apply below_alloc | apply pw_below_drewN | apply below_drew1) | exact HB.out))); rintro e w8 ⟨rfl, hb⟩; refine ⟨_, rfl, ?_⟩; have n0_ := Aside0.mk (blk_below (g := gb111) (o := .cells #[.int .i64 0, .string (⟨#[]⟩ : ByteArray), .int .i64 0, .int .i64 0] 28 (0, 0)) (by (with_reducible repeat (first | refine blk_drewN ?_ _ | refine blk_drew ?_ | refine blk_alloc ?_ _)); exact BK111.out) hb); have n1_ := Aside0.mk (below_step (by repeat (first | (with_reducible first | exact HB.out | apply below_alloc | apply pw_below_drewN | apply below_drew1 | refine below_set ?_ GE111.out) | exact HB.out)) hb); clear BK111; clear HB; have BK111 := n0_; have HB := n1_; clear n0_ n1_; (try clear hb); (try clear hb2); (try clear hk); (try clear hi); have hcz9_0 : w8.cell? ⟨gb111, 0, none⟩ = some (.int .i64 0) := (blk_cell BK111.out 0).trans rfl; have hcz9_1 : w8.cell? ⟨gb111, 1, none⟩ = some (.string (⟨#[]⟩ : ByteArray)) := (blk_cell BK111.out 1).trans rfl; have hcz9_2 : w8.cell? ⟨gb111, 2, none⟩ = some (.int .i64 0) := (blk_cell BK111.out 2).trans rfl; have hcz9_3 : w8.cell? ⟨gb111, 3, none⟩ = some (.int .i64 0) := (blk_cell BK111.out 3).trans rfl; have hfz9_0 := blk_frozen BK111.out 0; have hfz9_1 := blk_frozen BK111.out 1; have hfz9_2 := blk_frozen BK111.out 2; have hfz9_3 := blk_frozen BK111.out 3))
      refine bodyPost_ret (results_ct rfl _ _ gb111 28 #[.int .i64 t113, .string t114, .int .i64 t115, .int .i64 t116] (0, 0) _ rfl (by (with_reducible repeat (first | refine blk_drewN ?_ _ | refine blk_drew ?_ | refine blk_alloc ?_ _)); refine blk_put (cs := #[.int .i64 t113, .string t114, .int .i64 t115, .int .i64 0]) ?_ 3 _ rfl; (with_reducible repeat (first | refine blk_drewN ?_ _ | refine blk_drew ?_ | refine blk_alloc ?_ _)); refine blk_put (cs := #[.int .i64 t113, .string t114, .int .i64 0, .int .i64 0]) ?_ 2 _ rfl; (with_reducible repeat (first | refine blk_drewN ?_ _ | refine blk_drew ?_ | refine blk_alloc ?_ _)); refine blk_put (cs := #[.int .i64 t113, .string (⟨#[]⟩ : ByteArray), .int .i64 0, .int .i64 0]) ?_ 1 _ rfl; (with_reducible repeat (first | refine blk_drewN ?_ _ | refine blk_drew ?_ | refine blk_alloc ?_ _)); refine blk_put (cs := #[.int .i64 0, .string (⟨#[]⟩ : ByteArray), .int .i64 0, .int .i64 0]) ?_ 0 _ rfl; (with_reducible repeat (first | refine blk_drewN ?_ _ | refine blk_drew ?_ | refine blk_alloc ?_ _)); exact BK111.out) Tryd.underlying28 rfl (by kernel_rfl)) rfl ?_
      exact ⟨by first | rfl | (simp [errW_none, errW_some] <;> rfl) | (simp [*, errW_none, errW_some] <;> rfl), by repeat (first | (with_reducible first | exact HB.out | apply below_alloc | apply pw_below_drewN | apply below_drew1 | refine below_set ?_ GE111.out) | exact HB.out)⟩
    · replace c5 := Bool.eq_false_iff.mpr c5
      subst c5
      have H1 : ((lex_digit.f (bt a0 0)).bind fun t118 => (if t118 = true then ((lex_number.f a0).bind fun bt119 => (some (bt119.1, bt119.2.1, bt119.2.2.1, bt119.2.2.2.1, bt119.2.2.2.2))) else (if (bt a0 0) = 39 then ((lex_text.f a0).bind fun bt124 => (some (bt124.1, bt124.2.1, bt124.2.2.1, bt124.2.2.2.1, bt124.2.2.2.2))) else ((lex_op.f k a0).bind fun bt129 => (some (bt129.1, bt129.2.1, bt129.2.2.1, bt129.2.2.2.1, bt129.2.2.2.2)))))) = some (r1, r2, r3, r4, r5) := by rw [if_neg (show ¬ (false = true) by decide)] at H; exact H
      clear H
      have H := H1
      clear H1
      replace H := Option.bind_eq_some_iff.mp H
      obtain ⟨t118, A110, H⟩ := H
      replace H : (if t118 = true then ((lex_number.f a0).bind fun bt119 => (some (bt119.1, bt119.2.1, bt119.2.2.1, bt119.2.2.2.1, bt119.2.2.2.2))) else (if (bt a0 0) = 39 then ((lex_text.f a0).bind fun bt124 => (some (bt124.1, bt124.2.1, bt124.2.2.1, bt124.2.2.2.1, bt124.2.2.2.2))) else ((lex_op.f k a0).bind fun bt129 => (some (bt129.1, bt129.2.1, bt129.2.2.1, bt129.2.2.2.1, bt129.2.2.2.2))))) = some (r1, r2, r3, r4, r5) := H
      have A11 := Aside0.mk A110
      clear A110
      by_cases c12 : t118 = true
      · subst c12
        have H1 : ((lex_number.f a0).bind fun bt119 => (some (bt119.1, bt119.2.1, bt119.2.2.1, bt119.2.2.2.1, bt119.2.2.2.2))) = some (r1, r2, r3, r4, r5) := by rw [if_pos rfl] at H; exact H
        clear H
        have H := H1
        clear H1
        replace H := Option.bind_eq_some_iff.mp H
        obtain ⟨⟨t119, t120, t121, t122, t123⟩, A130, H⟩ := H
        replace H : (some (t119, t120, t121, t122, t123)) = some (r1, r2, r3, r4, r5) := H
        have A13 := Aside0.mk A130
        clear A130
        simp only [Option.some.injEq, Prod.mk.injEq] at H
        obtain ⟨rfl, rfl, rfl, rfl, rfl⟩ := H
        go_enter Tryd.func18, Tryd.ntmps18
        go_wp2_with (first | ((with_reducible refine gate_dst (N := 2) rfl ?_); refine box_event ?hg (N := 2) ?hd (cs := #[.int .i64 0, .string (⟨#[]⟩ : ByteArray), .int .i64 0, .int .i64 0]) (t := 28) ?hr ?_; (case hd => rfl); (case hg => rfl); (case hr => first | (go_simp; done) | (go_simp; rfl)); intro gb111 hg w14 hbox hb; have n0_ := Aside0.mk (below_step (by repeat (first | (with_reducible first | exact HB.out | apply below_alloc | apply pw_below_drewN | apply below_drew1) | exact HB.out)) hb); have n1_ := Aside0.mk (hbox); have n2_ := Aside0.mk ((by rw [hg]; exact (below_size (by repeat (first | (with_reducible first | exact HB.out | apply below_alloc | apply pw_below_drewN | apply below_drew1) | exact HB.out))) : w.heap.size ≤ gb111)); have n3_ := Aside0.mk ((by rw [hg]; exact (below_size (by repeat (first | (with_reducible first | exact HB.out | apply below_alloc | apply pw_below_drewN | apply below_drew1) | exact HB.out))) : w.heap.size ≤ gb111)); clear HB; have HB := n0_; have BK111 := n1_; have GW111 := n2_; have GE111 := n3_; clear n0_ n1_ n2_ n3_; clear hb hbox hg; have p3 : 0 ≤ (0 : Int) := (by omega); have q3 : 0 < a0.size := (by have : (0 : Int) < (a0.size : Int) := of_decide_eq_true (by first | (with_reducible assumption) | assumption); omega); have hx3 : ∀ h : 0 < a0.size, ((a0[0]'h).toNat : Int) = bt a0 0 := bt_at a0 0; clear p3; have qi3 : (0 < (a0.size : Int)) = True := eq_true (of_decide_eq_true (by first | (with_reducible assumption) | assumption)); replace q3 := eq_true q3) | ((with_reducible refine gate_callee (f := 33) rfl ?_); refine goesL_ (some 7) rfl rfl Tryd.func33 (by kernel_rfl) rfl #[.int .u8 (bt a0 0)] rfl (by (try simp only [List.map_toArray, List.map_cons, List.map_nil]); first | done | rfl | (simp only [List.length_drop, List.length_take]; rfl)) ?_; (with_reducible refine (lex_letter.calls (bt a0 0) false _ A4.out).mono ?_); rintro e w' ⟨rfl, ⟨nd, rfl⟩⟩; refine ⟨_, rfl, ?_⟩; (try (rw [drewN_self w14]; generalize hq_ : World.drewN w14 _ = w14; have n0_ : Aside0 (w14.heap[gb111]? = some (.cells #[.int .i64 0, .string (⟨#[]⟩ : ByteArray), .int .i64 0, .int .i64 0] 28 (0, 0))) := ⟨by rw [← hq_]; exact (by (with_reducible repeat (first | refine blk_drewN ?_ _ | refine blk_drew ?_ | refine blk_alloc ?_ _)); exact BK111.out)⟩; have n1_ : Aside0 (Below w.heap.size w w14) := ⟨by rw [← hq_]; exact (by repeat (first | (with_reducible first | exact HB.out | apply below_alloc | apply pw_below_drewN | apply below_drew1 | refine below_set ?_ GE111.out) | exact HB.out))⟩; clear BK111 HB hq_; have BK111 := n0_; have HB := n1_; clear n0_ n1_)); have p10 : 0 ≤ (0 : Int) := (by omega); have q10 : 0 < a0.size := (by have : (0 : Int) < (a0.size : Int) := of_decide_eq_true (by first | (with_reducible assumption) | assumption); omega); have hx10 : ∀ h : 0 < a0.size, ((a0[0]'h).toNat : Int) = bt a0 0 := bt_at a0 0; clear p10; have qi10 : (0 < (a0.size : Int)) = True := eq_true (of_decide_eq_true (by first | (with_reducible assumption) | assumption)); replace q10 := eq_true q10) | ((with_reducible refine gate_callee (f := 35) rfl ?_); refine goesL_ (some 15) rfl rfl Tryd.func35 (by kernel_rfl) rfl #[.int .u8 (bt a0 0)] rfl (by (try simp only [List.map_toArray, List.map_cons, List.map_nil]); first | done | rfl | (simp only [List.length_drop, List.length_take]; rfl)) ?_; (with_reducible refine (lex_digit.calls (bt a0 0) true _ A11.out).mono ?_); rintro e w' ⟨rfl, ⟨nd, rfl⟩⟩; refine ⟨_, rfl, ?_⟩; (try (rw [drewN_self w14]; generalize hq_ : World.drewN w14 _ = w14; have n0_ : Aside0 (w14.heap[gb111]? = some (.cells #[.int .i64 0, .string (⟨#[]⟩ : ByteArray), .int .i64 0, .int .i64 0] 28 (0, 0))) := ⟨by rw [← hq_]; exact (by (with_reducible repeat (first | refine blk_drewN ?_ _ | refine blk_drew ?_ | refine blk_alloc ?_ _)); exact BK111.out)⟩; have n1_ : Aside0 (Below w.heap.size w w14) := ⟨by rw [← hq_]; exact (by repeat (first | (with_reducible first | exact HB.out | apply below_alloc | apply pw_below_drewN | apply below_drew1 | refine below_set ?_ GE111.out) | exact HB.out))⟩; clear BK111 HB hq_; have BK111 := n0_; have HB := n1_; clear n0_ n1_))) | ((with_reducible refine gate_callee (f := 36) rfl ?_); refine goesL_ (some 17) rfl rfl Tryd.func36 (by kernel_rfl) rfl #[.string a0] rfl (by (try simp only [List.map_toArray, List.map_cons, List.map_nil]); first | done | rfl | (simp only [List.length_drop, List.length_take]; rfl)) ?_; (with_reducible refine (lex_number.calls a0 t119 t120 t121 t122 t123 _ ?hwd70 A13.out).mono ?_); (case hwd70 => exact Wd.below hgw (by repeat (first | (with_reducible first | exact HB.out | apply below_alloc | apply pw_below_drewN | apply below_drew1) | exact HB.out))); rintro e w15 ⟨rfl, hb⟩; refine ⟨_, rfl, ?_⟩; have n0_ := Aside0.mk (blk_below (g := gb111) (o := .cells #[.int .i64 0, .string (⟨#[]⟩ : ByteArray), .int .i64 0, .int .i64 0] 28 (0, 0)) (by (with_reducible repeat (first | refine blk_drewN ?_ _ | refine blk_drew ?_ | refine blk_alloc ?_ _)); exact BK111.out) hb); have n1_ := Aside0.mk (below_step (by repeat (first | (with_reducible first | exact HB.out | apply below_alloc | apply pw_below_drewN | apply below_drew1 | refine below_set ?_ GE111.out) | exact HB.out)) hb); clear BK111; clear HB; have BK111 := n0_; have HB := n1_; clear n0_ n1_; (try clear hb); (try clear hb2); (try clear hk); (try clear hi); have hcz16_0 : w15.cell? ⟨gb111, 0, none⟩ = some (.int .i64 0) := (blk_cell BK111.out 0).trans rfl; have hcz16_1 : w15.cell? ⟨gb111, 1, none⟩ = some (.string (⟨#[]⟩ : ByteArray)) := (blk_cell BK111.out 1).trans rfl; have hcz16_2 : w15.cell? ⟨gb111, 2, none⟩ = some (.int .i64 0) := (blk_cell BK111.out 2).trans rfl; have hcz16_3 : w15.cell? ⟨gb111, 3, none⟩ = some (.int .i64 0) := (blk_cell BK111.out 3).trans rfl; have hfz16_0 := blk_frozen BK111.out 0; have hfz16_1 := blk_frozen BK111.out 1; have hfz16_2 := blk_frozen BK111.out 2; have hfz16_3 := blk_frozen BK111.out 3))
        refine bodyPost_ret (results_ct rfl _ _ gb111 28 #[.int .i64 t119, .string t120, .int .i64 t121, .int .i64 t122] (0, 0) _ rfl (by (with_reducible repeat (first | refine blk_drewN ?_ _ | refine blk_drew ?_ | refine blk_alloc ?_ _)); refine blk_put (cs := #[.int .i64 t119, .string t120, .int .i64 t121, .int .i64 0]) ?_ 3 _ rfl; (with_reducible repeat (first | refine blk_drewN ?_ _ | refine blk_drew ?_ | refine blk_alloc ?_ _)); refine blk_put (cs := #[.int .i64 t119, .string t120, .int .i64 0, .int .i64 0]) ?_ 2 _ rfl; (with_reducible repeat (first | refine blk_drewN ?_ _ | refine blk_drew ?_ | refine blk_alloc ?_ _)); refine blk_put (cs := #[.int .i64 t119, .string (⟨#[]⟩ : ByteArray), .int .i64 0, .int .i64 0]) ?_ 1 _ rfl; (with_reducible repeat (first | refine blk_drewN ?_ _ | refine blk_drew ?_ | refine blk_alloc ?_ _)); refine blk_put (cs := #[.int .i64 0, .string (⟨#[]⟩ : ByteArray), .int .i64 0, .int .i64 0]) ?_ 0 _ rfl; (with_reducible repeat (first | refine blk_drewN ?_ _ | refine blk_drew ?_ | refine blk_alloc ?_ _)); exact BK111.out) Tryd.underlying28 rfl (by kernel_rfl)) rfl ?_
        exact ⟨by first | rfl | (simp [errW_none, errW_some] <;> rfl) | (simp [*, errW_none, errW_some] <;> rfl), by repeat (first | (with_reducible first | exact HB.out | apply below_alloc | apply pw_below_drewN | apply below_drew1 | refine below_set ?_ GE111.out) | exact HB.out)⟩
      · replace c12 := Bool.eq_false_iff.mpr c12
        subst c12
        have H1 : (if (bt a0 0) = 39 then ((lex_text.f a0).bind fun bt124 => (some (bt124.1, bt124.2.1, bt124.2.2.1, bt124.2.2.2.1, bt124.2.2.2.2))) else ((lex_op.f k a0).bind fun bt129 => (some (bt129.1, bt129.2.1, bt129.2.2.1, bt129.2.2.2.1, bt129.2.2.2.2)))) = some (r1, r2, r3, r4, r5) := by rw [if_neg (show ¬ (false = true) by decide)] at H; exact H
        clear H
        have H := H1
        clear H1
        by_cases c18 : (bt a0 0) = 39
        · rw [if_pos c18] at H
          have c18b0 : ((bt a0 0) == 39) = true := beq_iff_eq.mpr c18
          have c18b1 : ((bt a0 0) != 39) = false := bne_eq_false_iff_eq.mpr c18
          clear c18
          replace H := Option.bind_eq_some_iff.mp H
          obtain ⟨⟨t124, t125, t126, t127, t128⟩, A190, H⟩ := H
          replace H : (some (t124, t125, t126, t127, t128)) = some (r1, r2, r3, r4, r5) := H
          have A19 := Aside0.mk A190
          clear A190
          simp only [Option.some.injEq, Prod.mk.injEq] at H
          obtain ⟨rfl, rfl, rfl, rfl, rfl⟩ := H
          go_enter Tryd.func18, Tryd.ntmps18
          go_wp2_with (first | ((with_reducible refine gate_dst (N := 2) rfl ?_); refine box_event ?hg (N := 2) ?hd (cs := #[.int .i64 0, .string (⟨#[]⟩ : ByteArray), .int .i64 0, .int .i64 0]) (t := 28) ?hr ?_; (case hd => rfl); (case hg => rfl); (case hr => first | (go_simp; done) | (go_simp; rfl)); intro gb111 hg w20 hbox hb; have n0_ := Aside0.mk (below_step (by repeat (first | (with_reducible first | exact HB.out | apply below_alloc | apply pw_below_drewN | apply below_drew1) | exact HB.out)) hb); have n1_ := Aside0.mk (hbox); have n2_ := Aside0.mk ((by rw [hg]; exact (below_size (by repeat (first | (with_reducible first | exact HB.out | apply below_alloc | apply pw_below_drewN | apply below_drew1) | exact HB.out))) : w.heap.size ≤ gb111)); have n3_ := Aside0.mk ((by rw [hg]; exact (below_size (by repeat (first | (with_reducible first | exact HB.out | apply below_alloc | apply pw_below_drewN | apply below_drew1) | exact HB.out))) : w.heap.size ≤ gb111)); clear HB; have HB := n0_; have BK111 := n1_; have GW111 := n2_; have GE111 := n3_; clear n0_ n1_ n2_ n3_; clear hb hbox hg; have p3 : 0 ≤ (0 : Int) := (by omega); have q3 : 0 < a0.size := (by have : (0 : Int) < (a0.size : Int) := of_decide_eq_true (by first | (with_reducible assumption) | assumption); omega); have hx3 : ∀ h : 0 < a0.size, ((a0[0]'h).toNat : Int) = bt a0 0 := bt_at a0 0; clear p3; have qi3 : (0 < (a0.size : Int)) = True := eq_true (of_decide_eq_true (by first | (with_reducible assumption) | assumption)); replace q3 := eq_true q3) | ((with_reducible refine gate_callee (f := 33) rfl ?_); refine goesL_ (some 7) rfl rfl Tryd.func33 (by kernel_rfl) rfl #[.int .u8 (bt a0 0)] rfl (by (try simp only [List.map_toArray, List.map_cons, List.map_nil]); first | done | rfl | (simp only [List.length_drop, List.length_take]; rfl)) ?_; (with_reducible refine (lex_letter.calls (bt a0 0) false _ A4.out).mono ?_); rintro e w' ⟨rfl, ⟨nd, rfl⟩⟩; refine ⟨_, rfl, ?_⟩; (try (rw [drewN_self w20]; generalize hq_ : World.drewN w20 _ = w20; have n0_ : Aside0 (w20.heap[gb111]? = some (.cells #[.int .i64 0, .string (⟨#[]⟩ : ByteArray), .int .i64 0, .int .i64 0] 28 (0, 0))) := ⟨by rw [← hq_]; exact (by (with_reducible repeat (first | refine blk_drewN ?_ _ | refine blk_drew ?_ | refine blk_alloc ?_ _)); exact BK111.out)⟩; have n1_ : Aside0 (Below w.heap.size w w20) := ⟨by rw [← hq_]; exact (by repeat (first | (with_reducible first | exact HB.out | apply below_alloc | apply pw_below_drewN | apply below_drew1 | refine below_set ?_ GE111.out) | exact HB.out))⟩; clear BK111 HB hq_; have BK111 := n0_; have HB := n1_; clear n0_ n1_)); have p10 : 0 ≤ (0 : Int) := (by omega); have q10 : 0 < a0.size := (by have : (0 : Int) < (a0.size : Int) := of_decide_eq_true (by first | (with_reducible assumption) | assumption); omega); have hx10 : ∀ h : 0 < a0.size, ((a0[0]'h).toNat : Int) = bt a0 0 := bt_at a0 0; clear p10; have qi10 : (0 < (a0.size : Int)) = True := eq_true (of_decide_eq_true (by first | (with_reducible assumption) | assumption)); replace q10 := eq_true q10) | ((with_reducible refine gate_callee (f := 35) rfl ?_); refine goesL_ (some 15) rfl rfl Tryd.func35 (by kernel_rfl) rfl #[.int .u8 (bt a0 0)] rfl (by (try simp only [List.map_toArray, List.map_cons, List.map_nil]); first | done | rfl | (simp only [List.length_drop, List.length_take]; rfl)) ?_; (with_reducible refine (lex_digit.calls (bt a0 0) false _ A11.out).mono ?_); rintro e w' ⟨rfl, ⟨nd, rfl⟩⟩; refine ⟨_, rfl, ?_⟩; (try (rw [drewN_self w20]; generalize hq_ : World.drewN w20 _ = w20; have n0_ : Aside0 (w20.heap[gb111]? = some (.cells #[.int .i64 0, .string (⟨#[]⟩ : ByteArray), .int .i64 0, .int .i64 0] 28 (0, 0))) := ⟨by rw [← hq_]; exact (by (with_reducible repeat (first | refine blk_drewN ?_ _ | refine blk_drew ?_ | refine blk_alloc ?_ _)); exact BK111.out)⟩; have n1_ : Aside0 (Below w.heap.size w w20) := ⟨by rw [← hq_]; exact (by repeat (first | (with_reducible first | exact HB.out | apply below_alloc | apply pw_below_drewN | apply below_drew1 | refine below_set ?_ GE111.out) | exact HB.out))⟩; clear BK111 HB hq_; have BK111 := n0_; have HB := n1_; clear n0_ n1_)); have p17 : 0 ≤ (0 : Int) := (by omega); have q17 : 0 < a0.size := (by have : (0 : Int) < (a0.size : Int) := of_decide_eq_true (by first | (with_reducible assumption) | assumption); omega); have hx17 : ∀ h : 0 < a0.size, ((a0[0]'h).toNat : Int) = bt a0 0 := bt_at a0 0; clear p17; have qi17 : (0 < (a0.size : Int)) = True := eq_true (of_decide_eq_true (by first | (with_reducible assumption) | assumption)); replace q17 := eq_true q17) | ((with_reducible refine gate_callee (f := 37) rfl ?_); refine goesL_ (some 25) rfl rfl Tryd.func37 (by kernel_rfl) rfl #[.string a0] rfl (by (try simp only [List.map_toArray, List.map_cons, List.map_nil]); first | done | rfl | (simp only [List.length_drop, List.length_take]; rfl)) ?_; (with_reducible refine (lex_text.calls a0 t124 t125 t126 t127 t128 _ A19.out).mono ?_); rintro e w21 ⟨rfl, hb⟩; refine ⟨_, rfl, ?_⟩; have n0_ := Aside0.mk (blk_below (g := gb111) (o := .cells #[.int .i64 0, .string (⟨#[]⟩ : ByteArray), .int .i64 0, .int .i64 0] 28 (0, 0)) (by (with_reducible repeat (first | refine blk_drewN ?_ _ | refine blk_drew ?_ | refine blk_alloc ?_ _)); exact BK111.out) hb); have n1_ := Aside0.mk (below_step (by repeat (first | (with_reducible first | exact HB.out | apply below_alloc | apply pw_below_drewN | apply below_drew1 | refine below_set ?_ GE111.out) | exact HB.out)) hb); clear BK111; clear HB; have BK111 := n0_; have HB := n1_; clear n0_ n1_; (try clear hb); (try clear hb2); (try clear hk); (try clear hi); have hcz22_0 : w21.cell? ⟨gb111, 0, none⟩ = some (.int .i64 0) := (blk_cell BK111.out 0).trans rfl; have hcz22_1 : w21.cell? ⟨gb111, 1, none⟩ = some (.string (⟨#[]⟩ : ByteArray)) := (blk_cell BK111.out 1).trans rfl; have hcz22_2 : w21.cell? ⟨gb111, 2, none⟩ = some (.int .i64 0) := (blk_cell BK111.out 2).trans rfl; have hcz22_3 : w21.cell? ⟨gb111, 3, none⟩ = some (.int .i64 0) := (blk_cell BK111.out 3).trans rfl; have hfz22_0 := blk_frozen BK111.out 0; have hfz22_1 := blk_frozen BK111.out 1; have hfz22_2 := blk_frozen BK111.out 2; have hfz22_3 := blk_frozen BK111.out 3))
          refine bodyPost_ret (results_ct rfl _ _ gb111 28 #[.int .i64 t124, .string t125, .int .i64 t126, .int .i64 t127] (0, 0) _ rfl (by (with_reducible repeat (first | refine blk_drewN ?_ _ | refine blk_drew ?_ | refine blk_alloc ?_ _)); refine blk_put (cs := #[.int .i64 t124, .string t125, .int .i64 t126, .int .i64 0]) ?_ 3 _ rfl; (with_reducible repeat (first | refine blk_drewN ?_ _ | refine blk_drew ?_ | refine blk_alloc ?_ _)); refine blk_put (cs := #[.int .i64 t124, .string t125, .int .i64 0, .int .i64 0]) ?_ 2 _ rfl; (with_reducible repeat (first | refine blk_drewN ?_ _ | refine blk_drew ?_ | refine blk_alloc ?_ _)); refine blk_put (cs := #[.int .i64 t124, .string (⟨#[]⟩ : ByteArray), .int .i64 0, .int .i64 0]) ?_ 1 _ rfl; (with_reducible repeat (first | refine blk_drewN ?_ _ | refine blk_drew ?_ | refine blk_alloc ?_ _)); refine blk_put (cs := #[.int .i64 0, .string (⟨#[]⟩ : ByteArray), .int .i64 0, .int .i64 0]) ?_ 0 _ rfl; (with_reducible repeat (first | refine blk_drewN ?_ _ | refine blk_drew ?_ | refine blk_alloc ?_ _)); exact BK111.out) Tryd.underlying28 rfl (by kernel_rfl)) rfl ?_
          exact ⟨by first | rfl | (simp [errW_none, errW_some] <;> rfl) | (simp [*, errW_none, errW_some] <;> rfl), by repeat (first | (with_reducible first | exact HB.out | apply below_alloc | apply pw_below_drewN | apply below_drew1 | refine below_set ?_ GE111.out) | exact HB.out)⟩
        · rw [if_neg c18] at H
          have c18b0 : ((bt a0 0) == 39) = false := beq_eq_false_iff_ne.mpr c18
          have c18b1 : ((bt a0 0) != 39) = true := bne_iff_ne.mpr c18
          replace H := Option.bind_eq_some_iff.mp H
          obtain ⟨⟨t129, t130, t131, t132, t133⟩, A230, H⟩ := H
          replace H : (some (t129, t130, t131, t132, t133)) = some (r1, r2, r3, r4, r5) := H
          have A23 := Aside0.mk A230
          clear A230
          simp only [Option.some.injEq, Prod.mk.injEq] at H
          obtain ⟨rfl, rfl, rfl, rfl, rfl⟩ := H
          go_enter Tryd.func18, Tryd.ntmps18
          go_wp2_with (first | ((with_reducible refine gate_dst (N := 2) rfl ?_); refine box_event ?hg (N := 2) ?hd (cs := #[.int .i64 0, .string (⟨#[]⟩ : ByteArray), .int .i64 0, .int .i64 0]) (t := 28) ?hr ?_; (case hd => rfl); (case hg => rfl); (case hr => first | (go_simp; done) | (go_simp; rfl)); intro gb111 hg w24 hbox hb; have n0_ := Aside0.mk (below_step (by repeat (first | (with_reducible first | exact HB.out | apply below_alloc | apply pw_below_drewN | apply below_drew1) | exact HB.out)) hb); have n1_ := Aside0.mk (hbox); have n2_ := Aside0.mk ((by rw [hg]; exact (below_size (by repeat (first | (with_reducible first | exact HB.out | apply below_alloc | apply pw_below_drewN | apply below_drew1) | exact HB.out))) : w.heap.size ≤ gb111)); have n3_ := Aside0.mk ((by rw [hg]; exact (below_size (by repeat (first | (with_reducible first | exact HB.out | apply below_alloc | apply pw_below_drewN | apply below_drew1) | exact HB.out))) : w.heap.size ≤ gb111)); clear HB; have HB := n0_; have BK111 := n1_; have GW111 := n2_; have GE111 := n3_; clear n0_ n1_ n2_ n3_; clear hb hbox hg; have p3 : 0 ≤ (0 : Int) := (by omega); have q3 : 0 < a0.size := (by have : (0 : Int) < (a0.size : Int) := of_decide_eq_true (by first | (with_reducible assumption) | assumption); omega); have hx3 : ∀ h : 0 < a0.size, ((a0[0]'h).toNat : Int) = bt a0 0 := bt_at a0 0; clear p3; have qi3 : (0 < (a0.size : Int)) = True := eq_true (of_decide_eq_true (by first | (with_reducible assumption) | assumption)); replace q3 := eq_true q3) | ((with_reducible refine gate_callee (f := 33) rfl ?_); refine goesL_ (some 7) rfl rfl Tryd.func33 (by kernel_rfl) rfl #[.int .u8 (bt a0 0)] rfl (by (try simp only [List.map_toArray, List.map_cons, List.map_nil]); first | done | rfl | (simp only [List.length_drop, List.length_take]; rfl)) ?_; (with_reducible refine (lex_letter.calls (bt a0 0) false _ A4.out).mono ?_); rintro e w' ⟨rfl, ⟨nd, rfl⟩⟩; refine ⟨_, rfl, ?_⟩; (try (rw [drewN_self w24]; generalize hq_ : World.drewN w24 _ = w24; have n0_ : Aside0 (w24.heap[gb111]? = some (.cells #[.int .i64 0, .string (⟨#[]⟩ : ByteArray), .int .i64 0, .int .i64 0] 28 (0, 0))) := ⟨by rw [← hq_]; exact (by (with_reducible repeat (first | refine blk_drewN ?_ _ | refine blk_drew ?_ | refine blk_alloc ?_ _)); exact BK111.out)⟩; have n1_ : Aside0 (Below w.heap.size w w24) := ⟨by rw [← hq_]; exact (by repeat (first | (with_reducible first | exact HB.out | apply below_alloc | apply pw_below_drewN | apply below_drew1 | refine below_set ?_ GE111.out) | exact HB.out))⟩; clear BK111 HB hq_; have BK111 := n0_; have HB := n1_; clear n0_ n1_)); have p10 : 0 ≤ (0 : Int) := (by omega); have q10 : 0 < a0.size := (by have : (0 : Int) < (a0.size : Int) := of_decide_eq_true (by first | (with_reducible assumption) | assumption); omega); have hx10 : ∀ h : 0 < a0.size, ((a0[0]'h).toNat : Int) = bt a0 0 := bt_at a0 0; clear p10; have qi10 : (0 < (a0.size : Int)) = True := eq_true (of_decide_eq_true (by first | (with_reducible assumption) | assumption)); replace q10 := eq_true q10) | ((with_reducible refine gate_callee (f := 35) rfl ?_); refine goesL_ (some 15) rfl rfl Tryd.func35 (by kernel_rfl) rfl #[.int .u8 (bt a0 0)] rfl (by (try simp only [List.map_toArray, List.map_cons, List.map_nil]); first | done | rfl | (simp only [List.length_drop, List.length_take]; rfl)) ?_; (with_reducible refine (lex_digit.calls (bt a0 0) false _ A11.out).mono ?_); rintro e w' ⟨rfl, ⟨nd, rfl⟩⟩; refine ⟨_, rfl, ?_⟩; (try (rw [drewN_self w24]; generalize hq_ : World.drewN w24 _ = w24; have n0_ : Aside0 (w24.heap[gb111]? = some (.cells #[.int .i64 0, .string (⟨#[]⟩ : ByteArray), .int .i64 0, .int .i64 0] 28 (0, 0))) := ⟨by rw [← hq_]; exact (by (with_reducible repeat (first | refine blk_drewN ?_ _ | refine blk_drew ?_ | refine blk_alloc ?_ _)); exact BK111.out)⟩; have n1_ : Aside0 (Below w.heap.size w w24) := ⟨by rw [← hq_]; exact (by repeat (first | (with_reducible first | exact HB.out | apply below_alloc | apply pw_below_drewN | apply below_drew1 | refine below_set ?_ GE111.out) | exact HB.out))⟩; clear BK111 HB hq_; have BK111 := n0_; have HB := n1_; clear n0_ n1_)); have p17 : 0 ≤ (0 : Int) := (by omega); have q17 : 0 < a0.size := (by have : (0 : Int) < (a0.size : Int) := of_decide_eq_true (by first | (with_reducible assumption) | assumption); omega); have hx17 : ∀ h : 0 < a0.size, ((a0[0]'h).toNat : Int) = bt a0 0 := bt_at a0 0; clear p17; have qi17 : (0 < (a0.size : Int)) = True := eq_true (of_decide_eq_true (by first | (with_reducible assumption) | assumption)); replace q17 := eq_true q17) | ((with_reducible refine gate_callee (f := 38) rfl ?_); refine goesL_ (some 29) rfl rfl Tryd.func38 (by kernel_rfl) rfl #[.string a0] rfl (by (try simp only [List.map_toArray, List.map_cons, List.map_nil]); first | done | rfl | (simp only [List.length_drop, List.length_take]; rfl)) ?_; (with_reducible refine (lex_op.calls k a0 t129 t130 t131 t132 t133 _ A23.out).mono ?_); rintro e w25 ⟨rfl, hb⟩; refine ⟨_, rfl, ?_⟩; have n0_ := Aside0.mk (blk_below (g := gb111) (o := .cells #[.int .i64 0, .string (⟨#[]⟩ : ByteArray), .int .i64 0, .int .i64 0] 28 (0, 0)) (by (with_reducible repeat (first | refine blk_drewN ?_ _ | refine blk_drew ?_ | refine blk_alloc ?_ _)); exact BK111.out) hb); have n1_ := Aside0.mk (below_step (by repeat (first | (with_reducible first | exact HB.out | apply below_alloc | apply pw_below_drewN | apply below_drew1 | refine below_set ?_ GE111.out) | exact HB.out)) hb); clear BK111; clear HB; have BK111 := n0_; have HB := n1_; clear n0_ n1_; (try clear hb); (try clear hb2); (try clear hk); (try clear hi); have hcz26_0 : w25.cell? ⟨gb111, 0, none⟩ = some (.int .i64 0) := (blk_cell BK111.out 0).trans rfl; have hcz26_1 : w25.cell? ⟨gb111, 1, none⟩ = some (.string (⟨#[]⟩ : ByteArray)) := (blk_cell BK111.out 1).trans rfl; have hcz26_2 : w25.cell? ⟨gb111, 2, none⟩ = some (.int .i64 0) := (blk_cell BK111.out 2).trans rfl; have hcz26_3 : w25.cell? ⟨gb111, 3, none⟩ = some (.int .i64 0) := (blk_cell BK111.out 3).trans rfl; have hfz26_0 := blk_frozen BK111.out 0; have hfz26_1 := blk_frozen BK111.out 1; have hfz26_2 := blk_frozen BK111.out 2; have hfz26_3 := blk_frozen BK111.out 3))
          refine bodyPost_ret (results_ct rfl _ _ gb111 28 #[.int .i64 t129, .string t130, .int .i64 t131, .int .i64 t132] (0, 0) _ rfl (by (with_reducible repeat (first | refine blk_drewN ?_ _ | refine blk_drew ?_ | refine blk_alloc ?_ _)); refine blk_put (cs := #[.int .i64 t129, .string t130, .int .i64 t131, .int .i64 0]) ?_ 3 _ rfl; (with_reducible repeat (first | refine blk_drewN ?_ _ | refine blk_drew ?_ | refine blk_alloc ?_ _)); refine blk_put (cs := #[.int .i64 t129, .string t130, .int .i64 0, .int .i64 0]) ?_ 2 _ rfl; (with_reducible repeat (first | refine blk_drewN ?_ _ | refine blk_drew ?_ | refine blk_alloc ?_ _)); refine blk_put (cs := #[.int .i64 t129, .string (⟨#[]⟩ : ByteArray), .int .i64 0, .int .i64 0]) ?_ 1 _ rfl; (with_reducible repeat (first | refine blk_drewN ?_ _ | refine blk_drew ?_ | refine blk_alloc ?_ _)); refine blk_put (cs := #[.int .i64 0, .string (⟨#[]⟩ : ByteArray), .int .i64 0, .int .i64 0]) ?_ 0 _ rfl; (with_reducible repeat (first | refine blk_drewN ?_ _ | refine blk_drew ?_ | refine blk_alloc ?_ _)); exact BK111.out) Tryd.underlying28 rfl (by kernel_rfl)) rfl ?_
          exact ⟨by first | rfl | (simp [errW_none, errW_some] <;> rfl) | (simp [*, errW_none, errW_some] <;> rfl), by repeat (first | (with_reducible first | exact HB.out | apply below_alloc | apply pw_below_drewN | apply below_drew1 | refine below_set ?_ GE111.out) | exact HB.out)⟩
  · rw [if_neg c2] at H
    exact absurd H (by simp)

end Go.Proofs.YtobhcpfdgfkeiaaDoor.Lx

namespace Go.Proofs.YtobhcpfdgfkeiaaDoor.Lx
open Go.RowKit Go.Proofs.YtobhcpfdgfkeiaaDoorW.PrintWords Go.Proofs.YtobhcpfdgfkeiaaDoorW.PrintLast Go.Proofs.YtobhcpfdgfkeiaaDoorW.PrintMore Go.Proofs.YtobhcpfdgfkeiaaDoor.Lf Go.Proofs.YtobhcpfdgfkeiaaDoor.Ext
attribute [local go_sem] max2_int min2_int max_two min_two max_three min_three max_four min_four   -- for this text's walks alone
set_option linter.unusedVariables false
set_option linter.unusedSimpArgs false

/-! ### lex_Tokens: function 10 -/
def lex_Tokens.l0 : Nat → ByteArray → List (S28) → Int → Option ((List (S28)) × Int × Int)
  | 0, _, _, _ => none
  | k + 1, x0, x2, x3 => if x3 < (x0.size : Int) then (if 0 ≤ x3 then (if x3 ≤ (x0.size : Int) then ((lex_token.f k (x0.extract (x3 : Int).toNat x0.size)).bind fun bt135 => (if bt135.2.2.2.2 = 0 then (some (([] : List (S28)), x3, 10)) else (if x2.length < 3518437208883 then (if 0 ≤ (wrap64 (x3 + bt135.2.2.2.2)) then (if (wrap64 (x3 + bt135.2.2.2.2)) ≤ (x0.size : Int) then ((lex_skip.f k (x0.extract ((wrap64 (x3 + bt135.2.2.2.2)) : Int).toNat x0.size)).bind fun t144 => (lex_Tokens.l0 k x0 (x2 ++ [(⟨bt135.1, bt135.2.1, bt135.2.2.1, x3⟩ : S28)]) (wrap64 ((wrap64 (x3 + bt135.2.2.2.2)) + t144)))) else (none)) else (none)) else (none)))) else (none)) else (none)) else (some (x2, 0, 0))
def lex_Tokens.f (k : Nat) (a0 : ByteArray) : Option ((List (S28)) × Int × Int) := if (a0.size : Int) > 4000 then (some (([] : List (S28)), 0, 2)) else ((lex_skip.f k a0).bind fun t134 => (lex_Tokens.l0 k a0 ([] : List (S28)) t134))
theorem lex_Tokens.mono_l : ∀ k, (∀ y0 y1 y2, LeO (lex_Tokens.l0 k y0 y1 y2) (lex_Tokens.l0 (k + 1) y0 y1 y2))
  | 0 => fun _ _ _ r h => by simp [lex_Tokens.l0] at h
  | k + 1 => by
    have ih0 := lex_Tokens.mono_l k
    · intro y0 y1 y2
      unfold lex_Tokens.l0
      repeat' first
      | (with_reducible exact ih0 _ _ _)
      | (with_reducible exact lex_skip.mono _ _)
      | (with_reducible exact lex_token.mono _ _)
      | (with_reducible exact LeO.refl _)
      | (with_reducible exact LeO.none _)
      | (with_reducible refine LeO.ite ?_ ?_)
      | (with_reducible refine LeO.bind ?_ (fun _ => ?_))
      | exact ih0 _ _ _
      | exact lex_skip.mono _ _
      | exact lex_token.mono _ _
      | exact LeO.none _
      | refine LeO.ite ?_ ?_
      | refine LeO.bind ?_ (fun _ => ?_)
theorem lex_Tokens.mono : ∀ a0 k, LeO (lex_Tokens.f k a0) (lex_Tokens.f (k + 1) a0) := by
  intro a0 k
  have ih0 := lex_Tokens.mono_l k
  unfold lex_Tokens.f
  repeat' first
      | (with_reducible exact ih0 _ _ _)
      | (with_reducible exact lex_skip.mono _ _)
      | (with_reducible exact lex_token.mono _ _)
      | (with_reducible exact LeO.refl _)
      | (with_reducible exact LeO.none _)
      | (with_reducible refine LeO.ite ?_ ?_)
      | (with_reducible refine LeO.bind ?_ (fun _ => ?_))
      | exact ih0 _ _ _
      | exact lex_skip.mono _ _
      | exact lex_token.mono _ _
      | exact LeO.none _
      | refine LeO.ite ?_ ?_
      | refine LeO.bind ?_ (fun _ => ?_)
end Go.Proofs.YtobhcpfdgfkeiaaDoor.Lx

namespace Go.Proofs.YtobhcpfdgfkeiaaDoor.Lx
open Go.RowKit Go.Proofs.YtobhcpfdgfkeiaaDoorW.PrintWords Go.Proofs.YtobhcpfdgfkeiaaDoorW.PrintLast Go.Proofs.YtobhcpfdgfkeiaaDoorW.PrintMore Go.Proofs.YtobhcpfdgfkeiaaDoor.Lf Go.Proofs.YtobhcpfdgfkeiaaDoor.Ext
attribute [local go_sem] max2_int min2_int max_two min_two max_three min_three max_four min_four   -- for this text's walks alone
set_option linter.unusedVariables false
set_option linter.unusedSimpArgs false

set_option maxHeartbeats 8000000 in
set_option maxRecDepth 100000 in
theorem lex_Tokens.calls (k : Nat) (a0 : ByteArray) (r1 : List (S28)) (r2 : Int) (r3 : Int) (w : World) (hgw : Wd w) (h : lex_Tokens.f k a0 = some (r1, r2, r3)) :
    Calls Tryd.prog 10 #[.string a0] w fun e w' => ∃ v0_ : Value, e = .returned (.tuple #[v0_, .int .i64 r2, .int .i64 r3]) ∧ Kd.R k28 28 w' w.heap.size (fun _ => True) v0_ r1 ∧ Below w.heap.size w w' := by
  have hu28 := Tryd.underlying28
  have HB := Aside0.mk (Below.refl w.heap.size w)
  have H : (if (a0.size : Int) > 4000 then (some (([] : List (S28)), 0, 2)) else ((lex_skip.f k a0).bind fun t134 => (lex_Tokens.l0 k a0 ([] : List (S28)) t134))) = some (r1, r2, r3) := h
  clear h
  by_cases c2 : (a0.size : Int) > 4000
  · rw [if_pos c2] at H
    have c2b0 : decide (4000 < (a0.size : Int)) = true := decide_eq_true c2
    have c2b1 : decide (4000 < a0.size) = true := decide_eq_true (by omega)
    clear c2
    simp only [Option.some.injEq, Prod.mk.injEq] at H
    obtain ⟨rfl, rfl, rfl⟩ := H
    go_enter Tryd.func10, Tryd.ntmps10
    go_wp2
    go_ret3
    exact ⟨_, by first | rfl | (simp [errW_none, errW_some] <;> rfl) | (simp [*, errW_none, errW_some] <;> rfl), by first | exact Kd.R_nil _ _ _ _ _ | exact Kd.N_nil _ _ _ _ _ | exact Kd.V_nil _ _ _ _ _ | exact Kd.Q_nil _ _ _ _ _ | exact Kd.S_nil _ _ _ _ _, by repeat (first | (with_reducible first | exact HB.out | apply below_alloc | apply pw_below_drewN | apply below_drew1) | exact HB.out)⟩
  · rw [if_neg c2] at H
    have c2b0 : decide (4000 < (a0.size : Int)) = false := decide_eq_false c2
    have c2b1 : decide (4000 < a0.size) = false := decide_eq_false (by omega)
    clear c2
    replace H := Option.bind_eq_some_iff.mp H
    obtain ⟨t134, A30, H⟩ := H
    replace H : (lex_Tokens.l0 k a0 ([] : List (S28)) t134) = some (r1, r2, r3) := H
    have A3 := Aside0.mk A30
    clear A30
    have H' := Aside0.mk H
    clear H
    go_enter Tryd.func10, Tryd.ntmps10
    go_wp2_with (first | ((with_reducible refine gate_callee (f := 17) rfl ?_); refine goesL_ (some 11) rfl rfl Tryd.func17 (by kernel_rfl) rfl #[.string a0] rfl (by (try simp only [List.map_toArray, List.map_cons, List.map_nil]); first | done | rfl | (simp only [List.length_drop, List.length_take]; rfl)) ?_; (with_reducible refine (lex_skip.calls k a0 t134 _ A3.out).mono ?_); rintro e w' ⟨rfl, ⟨nd, rfl⟩⟩; refine ⟨_, rfl, ?_⟩))
    go_loopg [2, 3] k (fun kq v2 v3 w' => ∃ (x2_1 : List (S28)) (x3_1 : Int), v3 = .int .i64 x3_1 ∧ Aside0 (lex_Tokens.l0 kq a0 x2_1 x3_1 = some (r1, r2, r3)) ∧ Aside0 (kq ≤ k) ∧ Aside0 (Kd.R k28 28 w' w.heap.size (fun _ => True) v2 x2_1) ∧ Aside0 (Below w.heap.size w w'))
    case atStart => exact ⟨(([] : List (S28))), (t134), (by first | rfl | (simp; done) | (simp [*]; done)), H', ⟨Nat.le_refl _⟩, ⟨by first | exact Kd.R_nil _ _ _ _ _ | exact Kd.N_nil _ _ _ _ _ | exact Kd.V_nil _ _ _ _ _ | exact Kd.Q_nil _ _ _ _ _ | exact Kd.S_nil _ _ _ _ _⟩, ⟨by repeat (first | (with_reducible first | exact HB.out | apply below_alloc | apply pw_below_drewN | apply below_drew1) | exact HB.out)⟩⟩
    case round =>
      clear H'
      try clear c1
      try clear c2
      try clear c2b0
      try clear c2b1
      try clear p2
      obtain ⟨x2_1, x3_1, rfl, HA, HK1, HO_2, HB⟩ := hrel
      cases gk with
      | zero => exact absurd HA.out (by simp [lex_Tokens.l0])
      | succ k1 =>
        have H := HA.out
        clear HA
        simp only [lex_Tokens.l0] at H
        by_cases c4 : x3_1 < (a0.size : Int)
        · rw [if_pos c4] at H
          have c4b0 : decide (x3_1 < (a0.size : Int)) = true := decide_eq_true c4
          clear c4
          by_cases c5 : 0 ≤ x3_1
          · rw [if_pos c5] at H
            have c5b0 := eq_true c5
            have c5b1 : decide (0 ≤ x3_1) = true := decide_eq_true c5
            clear c5
            by_cases c6 : x3_1 ≤ (a0.size : Int)
            · rw [if_pos c6] at H
              have c6b0 := eq_true c6
              have c6b1 : decide (x3_1 ≤ (a0.size : Int)) = true := decide_eq_true c6
              clear c6
              replace H := Option.bind_eq_some_iff.mp H
              obtain ⟨⟨t135, t136, t137, t138, t139⟩, A70, H⟩ := H
              replace H : (if t139 = 0 then (some (([] : List (S28)), x3_1, 10)) else (if x2_1.length < 3518437208883 then (if 0 ≤ (wrap64 (x3_1 + t139)) then (if (wrap64 (x3_1 + t139)) ≤ (a0.size : Int) then ((lex_skip.f k1 (a0.extract ((wrap64 (x3_1 + t139)) : Int).toNat a0.size)).bind fun t144 => (lex_Tokens.l0 k1 a0 (x2_1 ++ [(⟨t135, t136, t137, x3_1⟩ : S28)]) (wrap64 ((wrap64 (x3_1 + t139)) + t144)))) else (none)) else (none)) else (none))) = some (r1, r2, r3) := H
              have A7 := Aside0.mk A70
              clear A70
              by_cases c8 : t139 = 0
              · rw [if_pos c8] at H
                have c8b0 : (t139 == 0) = true := beq_iff_eq.mpr c8
                have c8b1 : (t139 != 0) = false := bne_eq_false_iff_eq.mpr c8
                clear c8
                simp only [Option.some.injEq, Prod.mk.injEq] at H
                obtain ⟨rfl, rfl, rfl⟩ := H
                go_wp2_with (first | ((with_reducible refine gate_callee (f := 18) rfl ?_); refine goesL_ (some 26) rfl rfl Tryd.func18 (by kernel_rfl) rfl #[.string (a0.extract (x3_1 : Int).toNat a0.size)] rfl (by (try simp only [List.map_toArray, List.map_cons, List.map_nil]); first | done | rfl | (simp only [List.length_drop, List.length_take]; rfl)) ?_; (with_reducible refine (lex_token.calls k1 (a0.extract (x3_1 : Int).toNat a0.size) t135 t136 t137 t138 t139 _ ?hwd71 A7.out).mono ?_); (case hwd71 => exact Wd.below hgw (by repeat (first | (with_reducible first | exact HB.out | apply below_alloc | apply pw_below_drewN | apply below_drew1) | exact HB.out))); rintro e w9 ⟨rfl, hb⟩; refine ⟨_, rfl, ?_⟩; have n0_ := Aside0.mk (Kd.R_below (by (with_reducible repeat (first | apply Kd.R_alloc | apply Kd.R_drewN | apply Kd.R_drew)); exact HO_2.out) hb); have n1_ := Aside0.mk (below_step (by repeat (first | (with_reducible first | exact HB.out | apply below_alloc | apply pw_below_drewN | apply below_drew1) | exact HB.out)) hb); clear HO_2; clear HB; have HO_2 := n0_; have HB := n1_; clear n0_ n1_; (try clear hb); (try clear hb2); (try clear hk); (try clear hi)) | ((with_reducible refine gate_dst (N := 5) rfl ?_); refine box_event ?hg (N := 5) ?hd (cs := #[.int .i64 0, .string (⟨#[]⟩ : ByteArray), .int .i64 0, .int .i64 0]) (t := 28) ?hr ?_; (case hd => rfl); (case hg => rfl); (case hr => first | (go_simp; done) | (go_simp; rfl)); intro gb140 hg w10 hbox hb; have n0_ := Aside0.mk (Kd.R_below (Kd.R_elderB (by (with_reducible repeat (first | apply Kd.R_alloc | apply Kd.R_drewN | apply Kd.R_drew)); exact HO_2.out) gb140 (Nat.le_of_eq hg.symm)) hb); have n1_ := Aside0.mk (below_step (by repeat (first | (with_reducible first | exact HB.out | apply below_alloc | apply pw_below_drewN | apply below_drew1) | exact HB.out)) hb); have n2_ := Aside0.mk (hbox); have n3_ := Aside0.mk ((by rw [hg]; exact (below_size (by repeat (first | (with_reducible first | exact HB.out | apply below_alloc | apply pw_below_drewN | apply below_drew1) | exact HB.out))) : w.heap.size ≤ gb140)); have n4_ := Aside0.mk ((by rw [hg]; exact (below_size (by repeat (first | (with_reducible first | exact HB.out | apply below_alloc | apply pw_below_drewN | apply below_drew1) | exact HB.out))) : w.heap.size ≤ gb140)); clear HO_2; clear HB; have HO_2 := n0_; have HB := n1_; have BK140 := n2_; have GW140 := n3_; have GE140 := n4_; clear n0_ n1_ n2_ n3_ n4_; clear hb hbox hg; have hcz11_0 : w10.cell? ⟨gb140, 0, none⟩ = some (.int .i64 0) := (blk_cell BK140.out 0).trans rfl; have hcz11_1 : w10.cell? ⟨gb140, 1, none⟩ = some (.string (⟨#[]⟩ : ByteArray)) := (blk_cell BK140.out 1).trans rfl; have hcz11_2 : w10.cell? ⟨gb140, 2, none⟩ = some (.int .i64 0) := (blk_cell BK140.out 2).trans rfl; have hcz11_3 : w10.cell? ⟨gb140, 3, none⟩ = some (.int .i64 0) := (blk_cell BK140.out 3).trans rfl; have hfz11_0 := blk_frozen BK140.out 0; have hfz11_1 := blk_frozen BK140.out 1; have hfz11_2 := blk_frozen BK140.out 2; have hfz11_3 := blk_frozen BK140.out 3))
                go_ret3
                exact ⟨_, by first | rfl | (simp [errW_none, errW_some] <;> rfl) | (simp [*, errW_none, errW_some] <;> rfl), by first | exact Kd.R_nil _ _ _ _ _ | exact Kd.N_nil _ _ _ _ _ | exact Kd.V_nil _ _ _ _ _ | exact Kd.Q_nil _ _ _ _ _ | exact Kd.S_nil _ _ _ _ _, by repeat (first | (with_reducible first | exact HB.out | apply below_alloc | apply pw_below_drewN | apply below_drew1 | refine below_set ?_ GE140.out) | exact HB.out)⟩
              · rw [if_neg c8] at H
                have c8b0 : (t139 == 0) = false := beq_eq_false_iff_ne.mpr c8
                have c8b1 : (t139 != 0) = true := bne_iff_ne.mpr c8
                by_cases c12 : x2_1.length < 3518437208883
                · rw [if_pos c12] at H
                  have LMc12 := Aside0.mk c12
                  clear c12
                  obtain ⟨y141, hy141⟩ : ∃ y_ : List (S28), y_ = (x2_1 ++ [(⟨t135, t136, t137, x3_1⟩ : S28)]) := ⟨_, rfl⟩
                  replace H : (if 0 ≤ (wrap64 (x3_1 + t139)) then (if (wrap64 (x3_1 + t139)) ≤ (a0.size : Int) then ((lex_skip.f k1 (a0.extract ((wrap64 (x3_1 + t139)) : Int).toNat a0.size)).bind fun t144 => (lex_Tokens.l0 k1 a0 y141 (wrap64 ((wrap64 (x3_1 + t139)) + t144)))) else (none)) else (none)) = some (r1, r2, r3) := by first | (rw [hy141]; with_reducible exact H) | (have H2_ := (Option.bind_some _ _).symm.trans H; rw [hy141]; with_reducible exact H2_) | (have H2_ := (Option.bind_some _ _).symm.trans H; with_reducible exact H2_) | with_reducible exact H | (rw [hy141]; exact H) | exact H
                  have Ny141 := Aside0.mk hy141
                  clear hy141
                  obtain ⟨ji13, hji13⟩ : ∃ j_ : Int, (wrap64 (x3_1 + t139)) = j_ := ⟨_, rfl⟩
                  replace H : (if 0 ≤ (ji13) then (if (ji13) ≤ (a0.size : Int) then ((lex_skip.f k1 (a0.extract ((ji13) : Int).toNat a0.size)).bind fun t144 => (lex_Tokens.l0 k1 a0 y141 (wrap64 ((ji13) + t144)))) else (none)) else (none)) = some (r1, r2, r3) := by first | (rw [hji13] at H; exact H) | (simp only [hji13] at H ⊢; exact H)
                  (try rw [hji13] at A7)
                  have hji13w : (IntKind.i64.wrap (x3_1 + t139)) = ji13 := (i64_w _).trans hji13
                  by_cases c14 : 0 ≤ (ji13)
                  · rw [if_pos c14] at H
                    have c14b0 := eq_true c14
                    have c14b1 : decide (0 ≤ (ji13)) = true := decide_eq_true c14
                    clear c14
                    by_cases c15 : (ji13) ≤ (a0.size : Int)
                    · rw [if_pos c15] at H
                      have c15b0 := eq_true c15
                      have c15b1 : decide ((ji13) ≤ (a0.size : Int)) = true := decide_eq_true c15
                      clear c15
                      replace H := Option.bind_eq_some_iff.mp H
                      obtain ⟨t144, A160, H⟩ := H
                      replace H : (lex_Tokens.l0 k1 a0 y141 (wrap64 ((ji13) + t144))) = some (r1, r2, r3) := H
                      have A16 := Aside0.mk A160
                      clear A160
                      have H' := Aside0.mk H
                      clear H
                      go_upto_region 10 with (first | ((with_reducible refine gate_callee (f := 18) rfl ?_); refine goesL_ (some 26) rfl rfl Tryd.func18 (by kernel_rfl) rfl #[.string (a0.extract (x3_1 : Int).toNat a0.size)] rfl (by (try simp only [List.map_toArray, List.map_cons, List.map_nil]); first | done | rfl | (simp only [List.length_drop, List.length_take]; rfl)) ?_; (with_reducible refine (lex_token.calls k1 (a0.extract (x3_1 : Int).toNat a0.size) t135 t136 t137 t138 t139 _ ?hwd72 A7.out).mono ?_); (case hwd72 => exact Wd.below hgw (by repeat (first | (with_reducible first | exact HB.out | apply below_alloc | apply pw_below_drewN | apply below_drew1) | exact HB.out))); rintro e w17 ⟨rfl, hb⟩; refine ⟨_, rfl, ?_⟩; have n0_ := Aside0.mk (Kd.R_below (by (with_reducible repeat (first | apply Kd.R_alloc | apply Kd.R_drewN | apply Kd.R_drew)); exact HO_2.out) hb); have n1_ := Aside0.mk (below_step (by repeat (first | (with_reducible first | exact HB.out | apply below_alloc | apply pw_below_drewN | apply below_drew1) | exact HB.out)) hb); clear HO_2; clear HB; have HO_2 := n0_; have HB := n1_; clear n0_ n1_; (try clear hb); (try clear hb2); (try clear hk); (try clear hi)) | ((with_reducible refine gate_dst (N := 5) rfl ?_); refine box_event ?hg (N := 5) ?hd (cs := #[.int .i64 0, .string (⟨#[]⟩ : ByteArray), .int .i64 0, .int .i64 0]) (t := 28) ?hr ?_; (case hd => rfl); (case hg => rfl); (case hr => first | (go_simp; done) | (go_simp; rfl)); intro gb140 hg w18 hbox hb; have n0_ := Aside0.mk (Kd.R_below (Kd.R_elderB (by (with_reducible repeat (first | apply Kd.R_alloc | apply Kd.R_drewN | apply Kd.R_drew)); exact HO_2.out) gb140 (Nat.le_of_eq hg.symm)) hb); have n1_ := Aside0.mk (below_step (by repeat (first | (with_reducible first | exact HB.out | apply below_alloc | apply pw_below_drewN | apply below_drew1) | exact HB.out)) hb); have n2_ := Aside0.mk (hbox); have n3_ := Aside0.mk ((by rw [hg]; exact (below_size (by repeat (first | (with_reducible first | exact HB.out | apply below_alloc | apply pw_below_drewN | apply below_drew1) | exact HB.out))) : w.heap.size ≤ gb140)); have n4_ := Aside0.mk ((by rw [hg]; exact (below_size (by repeat (first | (with_reducible first | exact HB.out | apply below_alloc | apply pw_below_drewN | apply below_drew1) | exact HB.out))) : w.heap.size ≤ gb140)); clear HO_2; clear HB; have HO_2 := n0_; have HB := n1_; have BK140 := n2_; have GW140 := n3_; have GE140 := n4_; clear n0_ n1_ n2_ n3_ n4_; clear hb hbox hg; have hcz19_0 : w18.cell? ⟨gb140, 0, none⟩ = some (.int .i64 0) := (blk_cell BK140.out 0).trans rfl; have hcz19_1 : w18.cell? ⟨gb140, 1, none⟩ = some (.string (⟨#[]⟩ : ByteArray)) := (blk_cell BK140.out 1).trans rfl; have hcz19_2 : w18.cell? ⟨gb140, 2, none⟩ = some (.int .i64 0) := (blk_cell BK140.out 2).trans rfl; have hcz19_3 : w18.cell? ⟨gb140, 3, none⟩ = some (.int .i64 0) := (blk_cell BK140.out 3).trans rfl; have hfz19_0 := blk_frozen BK140.out 0; have hfz19_1 := blk_frozen BK140.out 1; have hfz19_2 := blk_frozen BK140.out 2; have hfz19_3 := blk_frozen BK140.out 3))
                      have hblk : (((((w18.setCell ⟨gb140, 0, none⟩ (.int .i64 t135)).setCell ⟨gb140, 1, none⟩ (.string t136)).setCell ⟨gb140, 2, none⟩ (.int .i64 t137)).setCell ⟨gb140, 3, none⟩ (.int .i64 t138)).setCell ⟨gb140, 3, none⟩ (.int .i64 x3_1)).heap[gb140]? = some (.cells #[.int .i64 t135, .string t136, .int .i64 t137, .int .i64 x3_1] 28 (0, 0)) := by
                        refine blk_put (cs := #[.int .i64 t135, .string t136, .int .i64 t137, .int .i64 t138]) ?_ 3 _ rfl
                        exact tok_blk BK140.out _ _ _ _
                      have hkr := show Kd.R k28 28 (((((w18.setCell ⟨gb140, 0, none⟩ (.int .i64 t135)).setCell ⟨gb140, 1, none⟩ (.string t136)).setCell ⟨gb140, 2, none⟩ (.int .i64 t137)).setCell ⟨gb140, 3, none⟩ (.int .i64 t138)).setCell ⟨gb140, 3, none⟩ (.int .i64 x3_1)) w.heap.size (fun k_ => k_ ≠ gb140) _ _ from Kd.R_mono (Kd.R_far (p := ⟨gb140, 3, none⟩) (Kd.R_far (p := ⟨gb140, 3, none⟩) (Kd.R_far (p := ⟨gb140, 2, none⟩) (Kd.R_far (p := ⟨gb140, 1, none⟩) (Kd.R_far (p := ⟨gb140, 0, none⟩) (Kd.R_mono HO_2.out (fun k_ hk => (⟨hk, hk.2⟩ : _ ∧ k_ ≠ gb140))) (fun _ hk => hk.2) (.int .i64 t135)) (fun _ hk => hk.2) (.string t136)) (fun _ hk => hk.2) (.int .i64 t137)) (fun _ hk => hk.2) (.int .i64 t138)) (fun _ hk => hk.2) (.int .i64 x3_1)) (fun _ hk => hk.1.2)
                      have hbw : Below w.heap.size w (((((w18.setCell ⟨gb140, 0, none⟩ (.int .i64 t135)).setCell ⟨gb140, 1, none⟩ (.string t136)).setCell ⟨gb140, 2, none⟩ (.int .i64 t137)).setCell ⟨gb140, 3, none⟩ (.int .i64 t138)).setCell ⟨gb140, 3, none⟩ (.int .i64 x3_1)) := below_set (tok_below HB.out GE140.out _ _ _ _) GE140.out
                      have HO0 := HO_2
                      clear HO_2 HB
                      generalize (((((w18.setCell ⟨gb140, 0, none⟩ (.int .i64 t135)).setCell ⟨gb140, 1, none⟩ (.string t136)).setCell ⟨gb140, 2, none⟩ (.int .i64 t137)).setCell ⟨gb140, 3, none⟩ (.int .i64 t138)).setCell ⟨gb140, 3, none⟩ (.int .i64 x3_1)) = w19 at *
                      have HBK := Aside0.mk hblk
                      have HKR := Aside0.mk hkr
                      have HB := Aside0.mk hbw
                      clear hblk hkr hbw hcz19_0 hcz19_1 hcz19_2 hcz19_3 hfz19_0 hfz19_1 hfz19_2 hfz19_3
                      have hcw_0 : w19.cell? ⟨gb140, 0, none⟩ = some (.int .i64 t135) := (blk_cell HBK.out 0).trans rfl
                      have hcw_1 : w19.cell? ⟨gb140, 1, none⟩ = some (.string t136) := (blk_cell HBK.out 1).trans rfl
                      have hcw_2 : w19.cell? ⟨gb140, 2, none⟩ = some (.int .i64 t137) := (blk_cell HBK.out 2).trans rfl
                      have hcw_3 : w19.cell? ⟨gb140, 3, none⟩ = some (.int .i64 x3_1) := (blk_cell HBK.out 3).trans rfl
                      go_wp2_with (first | ((with_reducible refine gate_builtin (b := .append) (xs := #[.tmp 34, .tmp 36]) rfl ?_); at_builtin; refine Kd.R_append k28 (w0 := w) w.heap.size rfl (.tmp 34) (.tmp 36) 23 28 (.agg #[(.int .i64 0), (.string ⟨#[]⟩), (.int .i64 0), (.int .i64 0)]) 40 rfl Tryd.underlying23 info28 rfl (by decide) (by omega) u2 x2_1 (⟨t135, t136, t137, x3_1⟩ : S28) [.int .i64 t135, .string t136, .int .i64 t137, .int .i64 x3_1] (fun k_ => k_ ≠ gb140) (fun _ => False) rfl (by first | (go_simp; done) | (go_simp; rfl)) ?aP (fun _ hk => hk.elim) ?aF ?aO ?aB ?aS ?aL ?_; (case aP => exact k28_mkM _ _ _ (⟨t135, t136, t137, x3_1⟩ : S28)); (case aB => exact (by repeat (first | (with_reducible first | exact HB.out | apply below_alloc | apply pw_below_drewN | apply below_drew1 | refine below_set ?_ GE140.out) | exact HB.out))); (case aF => exact (fun k_ hk => Kd.freshB (g := gb140) (o := .cells #[.int .i64 t135, .string t136, .int .i64 t137, .int .i64 x3_1] 28 (0, 0)) (by (with_reducible repeat (first | refine blk_drewN ?_ _ | refine blk_drew ?_ | refine blk_alloc ?_ _)); exact HBK.out) k_ hk)); (case aO => exact (by (with_reducible repeat (first | apply Kd.R_alloc | apply Kd.R_drewN | apply Kd.R_drew)); exact HKR.out)); (case aS => exact (below_size (by repeat (first | (with_reducible first | exact HB.out | apply below_alloc | apply pw_below_drewN | apply below_drew1 | refine below_set ?_ GE140.out) | exact HB.out)))); (case aL => have := LMc12.out; omega); intro v142 w20 ho hb hg hat; rw [← Ny141.out] at ho; have n1_ := Aside0.mk (hb); have n2_ := Aside0.mk (ho); clear HB; have HB := n1_; have HO143 := n2_; clear n1_ n2_; clear ho hb hg hat) | ((with_reducible refine gate_callee (f := 17) rfl ?_); refine goesL_ (some 20) rfl rfl Tryd.func17 (by kernel_rfl) rfl #[.string (a0.extract ((ji13) : Int).toNat a0.size)] rfl (by (try simp only [List.map_toArray, List.map_cons, List.map_nil]); first | done | (simp only [hji13]; rfl) | rfl | (simp only [List.length_drop, List.length_take]; rfl)) ?_; (with_reducible refine (lex_skip.calls k1 (a0.extract ((ji13) : Int).toNat a0.size) t144 _ A16.out).mono ?_); rintro e w' ⟨rfl, ⟨nd, rfl⟩⟩; refine ⟨_, rfl, ?_⟩))
                      go_roundg k1
                      case measure => have := HK1.out; omega
                      case rel => exact ⟨(y141), (wrap64 ((ji13) + t144)), (by first | rfl | (simp; done) | (simp only [← hji13] <;> (first | rfl | simp)) | (simp [*]; done)), H', ⟨by have := HK1.out; omega⟩, ⟨by (with_reducible repeat (first | apply Kd.R_alloc | apply Kd.R_drewN | apply Kd.R_drew)); exact Kd.R_mono HO143.out (fun _ hk => trivial)⟩, ⟨by repeat (first | (with_reducible first | exact HB.out | apply below_alloc | apply pw_below_drewN | apply below_drew1 | refine below_set ?_ GE140.out) | exact HB.out)⟩⟩
                    · rw [if_neg c15] at H
                      exact absurd H (by simp)
                  · rw [if_neg c14] at H
                    exact absurd H (by simp)
                · rw [if_neg c12] at H
                  exact absurd H (by simp)
            · rw [if_neg c6] at H
              exact absurd H (by simp)
          · rw [if_neg c5] at H
            exact absurd H (by simp)
        · rw [if_neg c4] at H
          have c4b0 : decide (x3_1 < (a0.size : Int)) = false := decide_eq_false c4
          clear c4
          simp only [Option.some.injEq, Prod.mk.injEq] at H
          obtain ⟨rfl, rfl, rfl⟩ := H
          go_wp2
          go_ret3
          exact ⟨_, by first | rfl | (simp [errW_none, errW_some] <;> rfl) | (simp [*, errW_none, errW_some] <;> rfl), by (with_reducible repeat (first | apply Kd.R_alloc | apply Kd.R_drewN | apply Kd.R_drew)); exact HO_2.out, by repeat (first | (with_reducible first | exact HB.out | apply below_alloc | apply pw_below_drewN | apply below_drew1) | exact HB.out)⟩

end Go.Proofs.YtobhcpfdgfkeiaaDoor.Lx

namespace Go.Proofs.YtobhcpfdgfkeiaaDoor.Lx
open Go.RowKit Go.Proofs.YtobhcpfdgfkeiaaDoorW.PrintWords Go.Proofs.YtobhcpfdgfkeiaaDoorW.PrintLast Go.Proofs.YtobhcpfdgfkeiaaDoorW.PrintMore Go.Proofs.YtobhcpfdgfkeiaaDoor.Lf Go.Proofs.YtobhcpfdgfkeiaaDoor.Ext
attribute [local go_sem] max2_int min2_int max_two min_two max_three min_three max_four min_four   -- for this text's walks alone
set_option linter.unusedVariables false
set_option linter.unusedSimpArgs false

/-! ### lex_only: function 27 -/
def lex_only.f (k : Nat) (a0 : ByteArray) : Option (Int × ByteArray × Int × Int) := (lex_Tokens.f k a0).bind fun bt146 => (if bt146.2.2 = 0 then (if (bt146.1.length : Int) = 1 then (if 0 < (bt146.1.length : Int) then (if ((rd_T28 bt146.1 0).f1).toList = a0.toList then (some ((rd_T28 bt146.1 0).f0, (rd_T28 bt146.1 0).f1, (rd_T28 bt146.1 0).f2, (rd_T28 bt146.1 0).f3)) else (some (0, (⟨#[]⟩ : ByteArray), 0, 0))) else (none)) else (some (0, (⟨#[]⟩ : ByteArray), 0, 0))) else (some (0, (⟨#[]⟩ : ByteArray), 0, 0)))
theorem lex_only.mono : ∀ a0 k, LeO (lex_only.f k a0) (lex_only.f (k + 1) a0) := by
  intro a0 k
  unfold lex_only.f
  repeat' first
      | (with_reducible exact lex_Tokens.mono _ _)
      | (with_reducible exact LeO.refl _)
      | (with_reducible exact LeO.none _)
      | (with_reducible refine LeO.ite ?_ ?_)
      | (with_reducible refine LeO.bind ?_ (fun _ => ?_))
      | exact lex_Tokens.mono _ _
      | exact LeO.none _
      | refine LeO.ite ?_ ?_
      | refine LeO.bind ?_ (fun _ => ?_)
set_option maxHeartbeats 8000000 in
set_option maxRecDepth 100000 in
theorem lex_only.calls (k : Nat) (a0 : ByteArray) (r1 : Int) (r2 : ByteArray) (r3 : Int) (r4 : Int) (w : World) (hgw : Wd w) (h : lex_only.f k a0 = some (r1, r2, r3, r4)) :
    Calls Tryd.prog 27 #[.string a0] w fun e w' => e = .returned (.agg #[.int .i64 r1, .string r2, .int .i64 r3, .int .i64 r4]) ∧ Below w.heap.size w w' := by
  have hu28 := Tryd.underlying28
  have HB := Aside0.mk (Below.refl w.heap.size w)
  have H : ((lex_Tokens.f k a0).bind fun bt146 => (if bt146.2.2 = 0 then (if (bt146.1.length : Int) = 1 then (if 0 < (bt146.1.length : Int) then (if ((rd_T28 bt146.1 0).f1).toList = a0.toList then (some ((rd_T28 bt146.1 0).f0, (rd_T28 bt146.1 0).f1, (rd_T28 bt146.1 0).f2, (rd_T28 bt146.1 0).f3)) else (some (0, (⟨#[]⟩ : ByteArray), 0, 0))) else (none)) else (some (0, (⟨#[]⟩ : ByteArray), 0, 0))) else (some (0, (⟨#[]⟩ : ByteArray), 0, 0)))) = some (r1, r2, r3, r4) := h
  clear h
  replace H := Option.bind_eq_some_iff.mp H
  obtain ⟨⟨t146, t147, t148⟩, A20, H⟩ := H
  replace H : (if t148 = 0 then (if (t146.length : Int) = 1 then (if 0 < (t146.length : Int) then (if ((rd_T28 t146 0).f1).toList = a0.toList then (some ((rd_T28 t146 0).f0, (rd_T28 t146 0).f1, (rd_T28 t146 0).f2, (rd_T28 t146 0).f3)) else (some (0, (⟨#[]⟩ : ByteArray), 0, 0))) else (none)) else (some (0, (⟨#[]⟩ : ByteArray), 0, 0))) else (some (0, (⟨#[]⟩ : ByteArray), 0, 0))) = some (r1, r2, r3, r4) := H
  have A2 := Aside0.mk A20
  clear A20
  by_cases c3 : t148 = 0
  · rw [if_pos c3] at H
    have c3b0 : (t148 == 0) = true := beq_iff_eq.mpr c3
    have c3b1 : (t148 != 0) = false := bne_eq_false_iff_eq.mpr c3
    clear c3
    by_cases c4 : (t146.length : Int) = 1
    · rw [if_pos c4] at H
      have c4b0 : ((t146.length : Int) == 1) = true := beq_iff_eq.mpr c4
      have c4b1 : ((t146.length : Int) != 1) = false := bne_eq_false_iff_eq.mpr c4
      clear c4
      by_cases c5 : 0 < (t146.length : Int)
      · rw [if_pos c5] at H
        have c5b0 : decide (0 < (t146.length : Int)) = true := decide_eq_true c5
        have c5b1 : decide (0 < t146.length) = true := decide_eq_true (by omega)
        clear c5
        by_cases c6 : ((rd_T28 t146 0).f1).toList = a0.toList
        · rw [if_pos c6] at H
          have c6b0 : (((rd_T28 t146 0).f1).toList == a0.toList) = true := beq_iff_eq.mpr c6
          have c6b1 : (((rd_T28 t146 0).f1).toList != a0.toList) = false := bne_eq_false_iff_eq.mpr c6
          clear c6
          simp only [Option.some.injEq, Prod.mk.injEq] at H
          obtain ⟨rfl, rfl, rfl, rfl⟩ := H
          go_enter Tryd.func27, Tryd.ntmps27
          go_wp2_with (first | ((with_reducible refine gate_dst (N := 2) rfl ?_); (try (refine gate_guard (by rfl) ?_; dsimp only)); refine box_event ?hg (N := 2) ?hd (cs := #[.int .i64 0, .string (⟨#[]⟩ : ByteArray), .int .i64 0, .int .i64 0]) (t := 28) ?hr ?_; (case hd => rfl); (case hg => rfl); (case hr => first | (go_simp; done) | (go_simp; rfl)); intro gb145 hg w7 hbox hb; have n0_ := Aside0.mk (below_step (by repeat (first | (with_reducible first | exact HB.out | apply below_alloc | apply pw_below_drewN | apply below_drew1) | exact HB.out)) hb); have n1_ := Aside0.mk (hbox); have n2_ := Aside0.mk ((by rw [hg]; exact (below_size (by repeat (first | (with_reducible first | exact HB.out | apply below_alloc | apply pw_below_drewN | apply below_drew1) | exact HB.out))) : w.heap.size ≤ gb145)); have n3_ := Aside0.mk ((by rw [hg]; exact (below_size (by repeat (first | (with_reducible first | exact HB.out | apply below_alloc | apply pw_below_drewN | apply below_drew1) | exact HB.out))) : w.heap.size ≤ gb145)); clear HB; have HB := n0_; have BK145 := n1_; have GW145 := n2_; have GE145 := n3_; clear n0_ n1_ n2_ n3_; clear hb hbox hg) | ((with_reducible refine gate_callee (f := 10) rfl ?_); refine goesL_ (some 8) rfl rfl Tryd.func10 (by kernel_rfl) rfl #[.string a0] rfl (by (try simp only [List.map_toArray, List.map_cons, List.map_nil]); first | done | rfl | (simp only [List.length_drop, List.length_take]; rfl)) ?_; (with_reducible refine (lex_Tokens.calls k a0 t146 t147 t148 _ ?hwd75 A2.out).mono ?_); (case hwd75 => exact Wd.below hgw (by repeat (first | (with_reducible first | exact HB.out | apply below_alloc | apply pw_below_drewN | apply below_drew1) | exact HB.out))); rintro e w8 ⟨v149, rfl, ho0, hb⟩; refine ⟨_, rfl, ?_⟩; have n0_ := Aside0.mk (Kd.R_lower (Kd.R_newB ho0 (g := gb145) (o := .cells #[.int .i64 0, .string (⟨#[]⟩ : ByteArray), .int .i64 0, .int .i64 0] 28 (0, 0)) (by (with_reducible repeat (first | refine blk_drewN ?_ _ | refine blk_drew ?_ | refine blk_alloc ?_ _)); exact BK145.out)) (below_size (by repeat (first | (with_reducible first | exact HB.out | apply below_alloc | apply pw_below_drewN | apply below_drew1 | refine below_set ?_ GE145.out) | exact HB.out)))); have n1_ := Aside0.mk (blk_below (g := gb145) (o := .cells #[.int .i64 0, .string (⟨#[]⟩ : ByteArray), .int .i64 0, .int .i64 0] 28 (0, 0)) (by (with_reducible repeat (first | refine blk_drewN ?_ _ | refine blk_drew ?_ | refine blk_alloc ?_ _)); exact BK145.out) hb); have n2_ := Aside0.mk (below_step (by repeat (first | (with_reducible first | exact HB.out | apply below_alloc | apply pw_below_drewN | apply below_drew1 | refine below_set ?_ GE145.out) | exact HB.out)) hb); clear BK145; clear HB; have HO150 := n0_; have BK145 := n1_; have HB := n2_; clear n0_ n1_ n2_; (try clear hb); (try clear hb2); (try clear hk); (try clear hi); (try clear ho0); obtain ⟨Ao9, co9, eo9⟩ := Kd.R_slice HO150.out; subst eo9; have p151 : 0 ≤ (0 : Int) := (by omega); have q151 : 0 < (t146.length : Int) := of_decide_eq_true (by first | (with_reducible assumption) | assumption); obtain ⟨ad151, e151, hx151_0, hx151_1, hx151_2, hx151_3⟩ := at_T28 (Kd.R_reads' HO150.out).2.2 0 p151 q151; cases e151; have qi151 : (0 < t146.length) = True := eq_true (by omega); (try rw [show ((0 : Int)).toNat = 0 from rfl] at hx151_0); (try rw [show 0 * 4 = 0 from rfl] at hx151_0); (try rw [Addr.add_zero'] at hx151_0); (try rw [show ((0 : Int)).toNat = 0 from rfl] at hx151_1); (try rw [show 0 * 4 = 0 from rfl] at hx151_1); (try rw [Addr.add_zero'] at hx151_1); (try rw [show ((0 : Int)).toNat = 0 from rfl] at hx151_2); (try rw [show 0 * 4 = 0 from rfl] at hx151_2); (try rw [Addr.add_zero'] at hx151_2); (try rw [show ((0 : Int)).toNat = 0 from rfl] at hx151_3); (try rw [show 0 * 4 = 0 from rfl] at hx151_3); (try rw [Addr.add_zero'] at hx151_3); replace p151 := eq_true p151; replace q151 := eq_true q151; have p152 : 0 ≤ (0 : Int) := (by omega); have q152 : 0 < (t146.length : Int) := of_decide_eq_true (by first | (with_reducible assumption) | assumption); obtain ⟨ad152, e152, hx152_0, hx152_1, hx152_2, hx152_3⟩ := at_T28 (Kd.R_reads' HO150.out).2.2 0 p152 q152; obtain rfl : ad151 = ad152 := (by injection e152); have qi152 : (0 < t146.length) = True := eq_true (by omega); (try rw [show ((0 : Int)).toNat = 0 from rfl] at hx152_0); (try rw [show 0 * 4 = 0 from rfl] at hx152_0); (try rw [Addr.add_zero'] at hx152_0); (try rw [show ((0 : Int)).toNat = 0 from rfl] at hx152_1); (try rw [show 0 * 4 = 0 from rfl] at hx152_1); (try rw [Addr.add_zero'] at hx152_1); (try rw [show ((0 : Int)).toNat = 0 from rfl] at hx152_2); (try rw [show 0 * 4 = 0 from rfl] at hx152_2); (try rw [Addr.add_zero'] at hx152_2); (try rw [show ((0 : Int)).toNat = 0 from rfl] at hx152_3); (try rw [show 0 * 4 = 0 from rfl] at hx152_3); (try rw [Addr.add_zero'] at hx152_3); replace p152 := eq_true p152; replace q152 := eq_true q152; have hcz10_0 : w8.cell? ⟨gb145, 0, none⟩ = some (.int .i64 0) := (blk_cell BK145.out 0).trans rfl; have hcz10_1 : w8.cell? ⟨gb145, 1, none⟩ = some (.string (⟨#[]⟩ : ByteArray)) := (blk_cell BK145.out 1).trans rfl; have hcz10_2 : w8.cell? ⟨gb145, 2, none⟩ = some (.int .i64 0) := (blk_cell BK145.out 2).trans rfl; have hcz10_3 : w8.cell? ⟨gb145, 3, none⟩ = some (.int .i64 0) := (blk_cell BK145.out 3).trans rfl; have hfz10_0 := blk_frozen BK145.out 0; have hfz10_1 := blk_frozen BK145.out 1; have hfz10_2 := blk_frozen BK145.out 2; have hfz10_3 := blk_frozen BK145.out 3))
          refine bodyPost_ret (results_cell_row rfl _ _ gb145 28 #[.int .i64 ((rd_T28 t146 0).f0), .string ((rd_T28 t146 0).f1), .int .i64 ((rd_T28 t146 0).f2), .int .i64 ((rd_T28 t146 0).f3)] (0, 0) _ rfl (by (with_reducible repeat (first | refine blk_drewN ?_ _ | refine blk_drew ?_ | refine blk_alloc ?_ _)); refine blk_put (cs := #[.int .i64 ((rd_T28 t146 0).f0), .string ((rd_T28 t146 0).f1), .int .i64 ((rd_T28 t146 0).f2), .int .i64 0]) ?_ 3 _ rfl; (with_reducible repeat (first | refine blk_drewN ?_ _ | refine blk_drew ?_ | refine blk_alloc ?_ _)); refine blk_put (cs := #[.int .i64 ((rd_T28 t146 0).f0), .string ((rd_T28 t146 0).f1), .int .i64 0, .int .i64 0]) ?_ 2 _ rfl; (with_reducible repeat (first | refine blk_drewN ?_ _ | refine blk_drew ?_ | refine blk_alloc ?_ _)); refine blk_put (cs := #[.int .i64 ((rd_T28 t146 0).f0), .string (⟨#[]⟩ : ByteArray), .int .i64 0, .int .i64 0]) ?_ 1 _ rfl; (with_reducible repeat (first | refine blk_drewN ?_ _ | refine blk_drew ?_ | refine blk_alloc ?_ _)); refine blk_put (cs := #[.int .i64 0, .string (⟨#[]⟩ : ByteArray), .int .i64 0, .int .i64 0]) ?_ 0 _ rfl; (with_reducible repeat (first | refine blk_drewN ?_ _ | refine blk_drew ?_ | refine blk_alloc ?_ _)); exact BK145.out) Tryd.underlying28 rfl (by kernel_rfl)) rfl ?_
          exact ⟨by first | rfl | (simp [errW_none, errW_some] <;> rfl) | (simp [*, errW_none, errW_some] <;> rfl), by repeat (first | (with_reducible first | exact HB.out | apply below_alloc | apply pw_below_drewN | apply below_drew1 | refine below_set ?_ GE145.out) | exact HB.out)⟩
        · rw [if_neg c6] at H
          have c6b0 : (((rd_T28 t146 0).f1).toList == a0.toList) = false := beq_eq_false_iff_ne.mpr c6
          have c6b1 : (((rd_T28 t146 0).f1).toList != a0.toList) = true := bne_iff_ne.mpr c6
          simp only [Option.some.injEq, Prod.mk.injEq] at H
          obtain ⟨rfl, rfl, rfl, rfl⟩ := H
          go_enter Tryd.func27, Tryd.ntmps27
          go_wp2_with (first | ((with_reducible refine gate_dst (N := 2) rfl ?_); (try (refine gate_guard (by rfl) ?_; dsimp only)); refine box_event ?hg (N := 2) ?hd (cs := #[.int .i64 0, .string (⟨#[]⟩ : ByteArray), .int .i64 0, .int .i64 0]) (t := 28) ?hr ?_; (case hd => rfl); (case hg => rfl); (case hr => first | (go_simp; done) | (go_simp; rfl)); intro gb145 hg w11 hbox hb; have n0_ := Aside0.mk (below_step (by repeat (first | (with_reducible first | exact HB.out | apply below_alloc | apply pw_below_drewN | apply below_drew1) | exact HB.out)) hb); have n1_ := Aside0.mk (hbox); have n2_ := Aside0.mk ((by rw [hg]; exact (below_size (by repeat (first | (with_reducible first | exact HB.out | apply below_alloc | apply pw_below_drewN | apply below_drew1) | exact HB.out))) : w.heap.size ≤ gb145)); have n3_ := Aside0.mk ((by rw [hg]; exact (below_size (by repeat (first | (with_reducible first | exact HB.out | apply below_alloc | apply pw_below_drewN | apply below_drew1) | exact HB.out))) : w.heap.size ≤ gb145)); clear HB; have HB := n0_; have BK145 := n1_; have GW145 := n2_; have GE145 := n3_; clear n0_ n1_ n2_ n3_; clear hb hbox hg) | ((with_reducible refine gate_callee (f := 10) rfl ?_); refine goesL_ (some 8) rfl rfl Tryd.func10 (by kernel_rfl) rfl #[.string a0] rfl (by (try simp only [List.map_toArray, List.map_cons, List.map_nil]); first | done | rfl | (simp only [List.length_drop, List.length_take]; rfl)) ?_; (with_reducible refine (lex_Tokens.calls k a0 t146 t147 t148 _ ?hwd76 A2.out).mono ?_); (case hwd76 => exact Wd.below hgw (by repeat (first | (with_reducible first | exact HB.out | apply below_alloc | apply pw_below_drewN | apply below_drew1) | exact HB.out))); rintro e w12 ⟨v149, rfl, ho0, hb⟩; refine ⟨_, rfl, ?_⟩; have n0_ := Aside0.mk (Kd.R_lower (Kd.R_newB ho0 (g := gb145) (o := .cells #[.int .i64 0, .string (⟨#[]⟩ : ByteArray), .int .i64 0, .int .i64 0] 28 (0, 0)) (by (with_reducible repeat (first | refine blk_drewN ?_ _ | refine blk_drew ?_ | refine blk_alloc ?_ _)); exact BK145.out)) (below_size (by repeat (first | (with_reducible first | exact HB.out | apply below_alloc | apply pw_below_drewN | apply below_drew1 | refine below_set ?_ GE145.out) | exact HB.out)))); have n1_ := Aside0.mk (blk_below (g := gb145) (o := .cells #[.int .i64 0, .string (⟨#[]⟩ : ByteArray), .int .i64 0, .int .i64 0] 28 (0, 0)) (by (with_reducible repeat (first | refine blk_drewN ?_ _ | refine blk_drew ?_ | refine blk_alloc ?_ _)); exact BK145.out) hb); have n2_ := Aside0.mk (below_step (by repeat (first | (with_reducible first | exact HB.out | apply below_alloc | apply pw_below_drewN | apply below_drew1 | refine below_set ?_ GE145.out) | exact HB.out)) hb); clear BK145; clear HB; have HO150 := n0_; have BK145 := n1_; have HB := n2_; clear n0_ n1_ n2_; (try clear hb); (try clear hb2); (try clear hk); (try clear hi); (try clear ho0); obtain ⟨Ao13, co13, eo13⟩ := Kd.R_slice HO150.out; subst eo13; have p151 : 0 ≤ (0 : Int) := (by omega); have q151 : 0 < (t146.length : Int) := of_decide_eq_true (by first | (with_reducible assumption) | assumption); obtain ⟨ad151, e151, hx151_0, hx151_1, hx151_2, hx151_3⟩ := at_T28 (Kd.R_reads' HO150.out).2.2 0 p151 q151; cases e151; have qi151 : (0 < t146.length) = True := eq_true (by omega); (try rw [show ((0 : Int)).toNat = 0 from rfl] at hx151_0); (try rw [show 0 * 4 = 0 from rfl] at hx151_0); (try rw [Addr.add_zero'] at hx151_0); (try rw [show ((0 : Int)).toNat = 0 from rfl] at hx151_1); (try rw [show 0 * 4 = 0 from rfl] at hx151_1); (try rw [Addr.add_zero'] at hx151_1); (try rw [show ((0 : Int)).toNat = 0 from rfl] at hx151_2); (try rw [show 0 * 4 = 0 from rfl] at hx151_2); (try rw [Addr.add_zero'] at hx151_2); (try rw [show ((0 : Int)).toNat = 0 from rfl] at hx151_3); (try rw [show 0 * 4 = 0 from rfl] at hx151_3); (try rw [Addr.add_zero'] at hx151_3); replace p151 := eq_true p151; replace q151 := eq_true q151; have hcz14_0 : w12.cell? ⟨gb145, 0, none⟩ = some (.int .i64 0) := (blk_cell BK145.out 0).trans rfl; have hcz14_1 : w12.cell? ⟨gb145, 1, none⟩ = some (.string (⟨#[]⟩ : ByteArray)) := (blk_cell BK145.out 1).trans rfl; have hcz14_2 : w12.cell? ⟨gb145, 2, none⟩ = some (.int .i64 0) := (blk_cell BK145.out 2).trans rfl; have hcz14_3 : w12.cell? ⟨gb145, 3, none⟩ = some (.int .i64 0) := (blk_cell BK145.out 3).trans rfl; have hfz14_0 := blk_frozen BK145.out 0; have hfz14_1 := blk_frozen BK145.out 1; have hfz14_2 := blk_frozen BK145.out 2; have hfz14_3 := blk_frozen BK145.out 3))
          refine bodyPost_ret (results_cell_row rfl _ _ gb145 28 #[.int .i64 0, .string (⟨#[]⟩ : ByteArray), .int .i64 0, .int .i64 0] (0, 0) _ rfl (by (with_reducible repeat (first | refine blk_drewN ?_ _ | refine blk_drew ?_ | refine blk_alloc ?_ _)); refine blk_put (cs := #[.int .i64 0, .string (⟨#[]⟩ : ByteArray), .int .i64 0, .int .i64 0]) ?_ 3 _ rfl; (with_reducible repeat (first | refine blk_drewN ?_ _ | refine blk_drew ?_ | refine blk_alloc ?_ _)); refine blk_put (cs := #[.int .i64 0, .string (⟨#[]⟩ : ByteArray), .int .i64 0, .int .i64 0]) ?_ 2 _ rfl; (with_reducible repeat (first | refine blk_drewN ?_ _ | refine blk_drew ?_ | refine blk_alloc ?_ _)); refine blk_put (cs := #[.int .i64 0, .string (⟨#[]⟩ : ByteArray), .int .i64 0, .int .i64 0]) ?_ 1 _ rfl; (with_reducible repeat (first | refine blk_drewN ?_ _ | refine blk_drew ?_ | refine blk_alloc ?_ _)); refine blk_put (cs := #[.int .i64 0, .string (⟨#[]⟩ : ByteArray), .int .i64 0, .int .i64 0]) ?_ 0 _ rfl; (with_reducible repeat (first | refine blk_drewN ?_ _ | refine blk_drew ?_ | refine blk_alloc ?_ _)); exact BK145.out) Tryd.underlying28 rfl (by kernel_rfl)) rfl ?_
          exact ⟨by first | rfl | (simp [errW_none, errW_some] <;> rfl) | (simp [*, errW_none, errW_some] <;> rfl), by repeat (first | (with_reducible first | exact HB.out | apply below_alloc | apply pw_below_drewN | apply below_drew1 | refine below_set ?_ GE145.out) | exact HB.out)⟩
      · rw [if_neg c5] at H
        exact absurd H (by simp)
    · rw [if_neg c4] at H
      have c4b0 : ((t146.length : Int) == 1) = false := beq_eq_false_iff_ne.mpr c4
      have c4b1 : ((t146.length : Int) != 1) = true := bne_iff_ne.mpr c4
      simp only [Option.some.injEq, Prod.mk.injEq] at H
      obtain ⟨rfl, rfl, rfl, rfl⟩ := H
      go_enter Tryd.func27, Tryd.ntmps27
      go_wp2_with (first | ((with_reducible refine gate_dst (N := 2) rfl ?_); (try (refine gate_guard (by rfl) ?_; dsimp only)); refine box_event ?hg (N := 2) ?hd (cs := #[.int .i64 0, .string (⟨#[]⟩ : ByteArray), .int .i64 0, .int .i64 0]) (t := 28) ?hr ?_; (case hd => rfl); (case hg => rfl); (case hr => first | (go_simp; done) | (go_simp; rfl)); intro gb145 hg w15 hbox hb; have n0_ := Aside0.mk (below_step (by repeat (first | (with_reducible first | exact HB.out | apply below_alloc | apply pw_below_drewN | apply below_drew1) | exact HB.out)) hb); have n1_ := Aside0.mk (hbox); have n2_ := Aside0.mk ((by rw [hg]; exact (below_size (by repeat (first | (with_reducible first | exact HB.out | apply below_alloc | apply pw_below_drewN | apply below_drew1) | exact HB.out))) : w.heap.size ≤ gb145)); have n3_ := Aside0.mk ((by rw [hg]; exact (below_size (by repeat (first | (with_reducible first | exact HB.out | apply below_alloc | apply pw_below_drewN | apply below_drew1) | exact HB.out))) : w.heap.size ≤ gb145)); clear HB; have HB := n0_; have BK145 := n1_; have GW145 := n2_; have GE145 := n3_; clear n0_ n1_ n2_ n3_; clear hb hbox hg) | ((with_reducible refine gate_callee (f := 10) rfl ?_); refine goesL_ (some 8) rfl rfl Tryd.func10 (by kernel_rfl) rfl #[.string a0] rfl (by (try simp only [List.map_toArray, List.map_cons, List.map_nil]); first | done | rfl | (simp only [List.length_drop, List.length_take]; rfl)) ?_; (with_reducible refine (lex_Tokens.calls k a0 t146 t147 t148 _ ?hwd77 A2.out).mono ?_); (case hwd77 => exact Wd.below hgw (by repeat (first | (with_reducible first | exact HB.out | apply below_alloc | apply pw_below_drewN | apply below_drew1) | exact HB.out))); rintro e w16 ⟨v149, rfl, ho0, hb⟩; refine ⟨_, rfl, ?_⟩; have n0_ := Aside0.mk (Kd.R_lower (Kd.R_newB ho0 (g := gb145) (o := .cells #[.int .i64 0, .string (⟨#[]⟩ : ByteArray), .int .i64 0, .int .i64 0] 28 (0, 0)) (by (with_reducible repeat (first | refine blk_drewN ?_ _ | refine blk_drew ?_ | refine blk_alloc ?_ _)); exact BK145.out)) (below_size (by repeat (first | (with_reducible first | exact HB.out | apply below_alloc | apply pw_below_drewN | apply below_drew1 | refine below_set ?_ GE145.out) | exact HB.out)))); have n1_ := Aside0.mk (blk_below (g := gb145) (o := .cells #[.int .i64 0, .string (⟨#[]⟩ : ByteArray), .int .i64 0, .int .i64 0] 28 (0, 0)) (by (with_reducible repeat (first | refine blk_drewN ?_ _ | refine blk_drew ?_ | refine blk_alloc ?_ _)); exact BK145.out) hb); have n2_ := Aside0.mk (below_step (by repeat (first | (with_reducible first | exact HB.out | apply below_alloc | apply pw_below_drewN | apply below_drew1 | refine below_set ?_ GE145.out) | exact HB.out)) hb); clear BK145; clear HB; have HO150 := n0_; have BK145 := n1_; have HB := n2_; clear n0_ n1_ n2_; (try clear hb); (try clear hb2); (try clear hk); (try clear hi); (try clear ho0); obtain ⟨Ao17, co17, eo17⟩ := Kd.R_slice HO150.out; subst eo17; have hcz18_0 : w16.cell? ⟨gb145, 0, none⟩ = some (.int .i64 0) := (blk_cell BK145.out 0).trans rfl; have hcz18_1 : w16.cell? ⟨gb145, 1, none⟩ = some (.string (⟨#[]⟩ : ByteArray)) := (blk_cell BK145.out 1).trans rfl; have hcz18_2 : w16.cell? ⟨gb145, 2, none⟩ = some (.int .i64 0) := (blk_cell BK145.out 2).trans rfl; have hcz18_3 : w16.cell? ⟨gb145, 3, none⟩ = some (.int .i64 0) := (blk_cell BK145.out 3).trans rfl; have hfz18_0 := blk_frozen BK145.out 0; have hfz18_1 := blk_frozen BK145.out 1; have hfz18_2 := blk_frozen BK145.out 2; have hfz18_3 := blk_frozen BK145.out 3))
      refine bodyPost_ret (results_cell_row rfl _ _ gb145 28 #[.int .i64 0, .string (⟨#[]⟩ : ByteArray), .int .i64 0, .int .i64 0] (0, 0) _ rfl (by (with_reducible repeat (first | refine blk_drewN ?_ _ | refine blk_drew ?_ | refine blk_alloc ?_ _)); refine blk_put (cs := #[.int .i64 0, .string (⟨#[]⟩ : ByteArray), .int .i64 0, .int .i64 0]) ?_ 3 _ rfl; (with_reducible repeat (first | refine blk_drewN ?_ _ | refine blk_drew ?_ | refine blk_alloc ?_ _)); refine blk_put (cs := #[.int .i64 0, .string (⟨#[]⟩ : ByteArray), .int .i64 0, .int .i64 0]) ?_ 2 _ rfl; (with_reducible repeat (first | refine blk_drewN ?_ _ | refine blk_drew ?_ | refine blk_alloc ?_ _)); refine blk_put (cs := #[.int .i64 0, .string (⟨#[]⟩ : ByteArray), .int .i64 0, .int .i64 0]) ?_ 1 _ rfl; (with_reducible repeat (first | refine blk_drewN ?_ _ | refine blk_drew ?_ | refine blk_alloc ?_ _)); refine blk_put (cs := #[.int .i64 0, .string (⟨#[]⟩ : ByteArray), .int .i64 0, .int .i64 0]) ?_ 0 _ rfl; (with_reducible repeat (first | refine blk_drewN ?_ _ | refine blk_drew ?_ | refine blk_alloc ?_ _)); exact BK145.out) Tryd.underlying28 rfl (by kernel_rfl)) rfl ?_
      exact ⟨by first | rfl | (simp [errW_none, errW_some] <;> rfl) | (simp [*, errW_none, errW_some] <;> rfl), by repeat (first | (with_reducible first | exact HB.out | apply below_alloc | apply pw_below_drewN | apply below_drew1 | refine below_set ?_ GE145.out) | exact HB.out)⟩
  · rw [if_neg c3] at H
    have c3b0 : (t148 == 0) = false := beq_eq_false_iff_ne.mpr c3
    have c3b1 : (t148 != 0) = true := bne_iff_ne.mpr c3
    simp only [Option.some.injEq, Prod.mk.injEq] at H
    obtain ⟨rfl, rfl, rfl, rfl⟩ := H
    go_enter Tryd.func27, Tryd.ntmps27
    go_wp2_with (first | ((with_reducible refine gate_dst (N := 2) rfl ?_); (try (refine gate_guard (by rfl) ?_; dsimp only)); refine box_event ?hg (N := 2) ?hd (cs := #[.int .i64 0, .string (⟨#[]⟩ : ByteArray), .int .i64 0, .int .i64 0]) (t := 28) ?hr ?_; (case hd => rfl); (case hg => rfl); (case hr => first | (go_simp; done) | (go_simp; rfl)); intro gb145 hg w19 hbox hb; have n0_ := Aside0.mk (below_step (by repeat (first | (with_reducible first | exact HB.out | apply below_alloc | apply pw_below_drewN | apply below_drew1) | exact HB.out)) hb); have n1_ := Aside0.mk (hbox); have n2_ := Aside0.mk ((by rw [hg]; exact (below_size (by repeat (first | (with_reducible first | exact HB.out | apply below_alloc | apply pw_below_drewN | apply below_drew1) | exact HB.out))) : w.heap.size ≤ gb145)); have n3_ := Aside0.mk ((by rw [hg]; exact (below_size (by repeat (first | (with_reducible first | exact HB.out | apply below_alloc | apply pw_below_drewN | apply below_drew1) | exact HB.out))) : w.heap.size ≤ gb145)); clear HB; have HB := n0_; have BK145 := n1_; have GW145 := n2_; have GE145 := n3_; clear n0_ n1_ n2_ n3_; clear hb hbox hg) | ((with_reducible refine gate_callee (f := 10) rfl ?_); refine goesL_ (some 8) rfl rfl Tryd.func10 (by kernel_rfl) rfl #[.string a0] rfl (by (try simp only [List.map_toArray, List.map_cons, List.map_nil]); first | done | rfl | (simp only [List.length_drop, List.length_take]; rfl)) ?_; (with_reducible refine (lex_Tokens.calls k a0 t146 t147 t148 _ ?hwd78 A2.out).mono ?_); (case hwd78 => exact Wd.below hgw (by repeat (first | (with_reducible first | exact HB.out | apply below_alloc | apply pw_below_drewN | apply below_drew1) | exact HB.out))); rintro e w20 ⟨v149, rfl, ho0, hb⟩; refine ⟨_, rfl, ?_⟩; have n0_ := Aside0.mk (Kd.R_lower (Kd.R_newB ho0 (g := gb145) (o := .cells #[.int .i64 0, .string (⟨#[]⟩ : ByteArray), .int .i64 0, .int .i64 0] 28 (0, 0)) (by (with_reducible repeat (first | refine blk_drewN ?_ _ | refine blk_drew ?_ | refine blk_alloc ?_ _)); exact BK145.out)) (below_size (by repeat (first | (with_reducible first | exact HB.out | apply below_alloc | apply pw_below_drewN | apply below_drew1 | refine below_set ?_ GE145.out) | exact HB.out)))); have n1_ := Aside0.mk (blk_below (g := gb145) (o := .cells #[.int .i64 0, .string (⟨#[]⟩ : ByteArray), .int .i64 0, .int .i64 0] 28 (0, 0)) (by (with_reducible repeat (first | refine blk_drewN ?_ _ | refine blk_drew ?_ | refine blk_alloc ?_ _)); exact BK145.out) hb); have n2_ := Aside0.mk (below_step (by repeat (first | (with_reducible first | exact HB.out | apply below_alloc | apply pw_below_drewN | apply below_drew1 | refine below_set ?_ GE145.out) | exact HB.out)) hb); clear BK145; clear HB; have HO150 := n0_; have BK145 := n1_; have HB := n2_; clear n0_ n1_ n2_; (try clear hb); (try clear hb2); (try clear hk); (try clear hi); (try clear ho0); have hcz21_0 : w20.cell? ⟨gb145, 0, none⟩ = some (.int .i64 0) := (blk_cell BK145.out 0).trans rfl; have hcz21_1 : w20.cell? ⟨gb145, 1, none⟩ = some (.string (⟨#[]⟩ : ByteArray)) := (blk_cell BK145.out 1).trans rfl; have hcz21_2 : w20.cell? ⟨gb145, 2, none⟩ = some (.int .i64 0) := (blk_cell BK145.out 2).trans rfl; have hcz21_3 : w20.cell? ⟨gb145, 3, none⟩ = some (.int .i64 0) := (blk_cell BK145.out 3).trans rfl; have hfz21_0 := blk_frozen BK145.out 0; have hfz21_1 := blk_frozen BK145.out 1; have hfz21_2 := blk_frozen BK145.out 2; have hfz21_3 := blk_frozen BK145.out 3))
    refine bodyPost_ret (results_cell_row rfl _ _ gb145 28 #[.int .i64 0, .string (⟨#[]⟩ : ByteArray), .int .i64 0, .int .i64 0] (0, 0) _ rfl (by (with_reducible repeat (first | refine blk_drewN ?_ _ | refine blk_drew ?_ | refine blk_alloc ?_ _)); refine blk_put (cs := #[.int .i64 0, .string (⟨#[]⟩ : ByteArray), .int .i64 0, .int .i64 0]) ?_ 3 _ rfl; (with_reducible repeat (first | refine blk_drewN ?_ _ | refine blk_drew ?_ | refine blk_alloc ?_ _)); refine blk_put (cs := #[.int .i64 0, .string (⟨#[]⟩ : ByteArray), .int .i64 0, .int .i64 0]) ?_ 2 _ rfl; (with_reducible repeat (first | refine blk_drewN ?_ _ | refine blk_drew ?_ | refine blk_alloc ?_ _)); refine blk_put (cs := #[.int .i64 0, .string (⟨#[]⟩ : ByteArray), .int .i64 0, .int .i64 0]) ?_ 1 _ rfl; (with_reducible repeat (first | refine blk_drewN ?_ _ | refine blk_drew ?_ | refine blk_alloc ?_ _)); refine blk_put (cs := #[.int .i64 0, .string (⟨#[]⟩ : ByteArray), .int .i64 0, .int .i64 0]) ?_ 0 _ rfl; (with_reducible repeat (first | refine blk_drewN ?_ _ | refine blk_drew ?_ | refine blk_alloc ?_ _)); exact BK145.out) Tryd.underlying28 rfl (by kernel_rfl)) rfl ?_
    exact ⟨by first | rfl | (simp [errW_none, errW_some] <;> rfl) | (simp [*, errW_none, errW_some] <;> rfl), by repeat (first | (with_reducible first | exact HB.out | apply below_alloc | apply pw_below_drewN | apply below_drew1 | refine below_set ?_ GE145.out) | exact HB.out)⟩

/-! ### lex_Name: function 12 -/
def lex_Name.f (k : Nat) (a0 : ByteArray) : Option (Bool) := (lex_only.f k a0).bind fun bt153 => (some (bt153.1 == 1))
theorem lex_Name.mono : ∀ a0 k, LeO (lex_Name.f k a0) (lex_Name.f (k + 1) a0) := by
  intro a0 k
  unfold lex_Name.f
  repeat' first
      | (with_reducible exact lex_only.mono _ _)
      | (with_reducible exact LeO.refl _)
      | (with_reducible exact LeO.none _)
      | (with_reducible refine LeO.ite ?_ ?_)
      | (with_reducible refine LeO.bind ?_ (fun _ => ?_))
      | exact lex_only.mono _ _
      | exact LeO.none _
      | refine LeO.ite ?_ ?_
      | refine LeO.bind ?_ (fun _ => ?_)
set_option maxHeartbeats 8000000 in
set_option maxRecDepth 100000 in
theorem lex_Name.calls (k : Nat) (a0 : ByteArray) (r : Bool) (w : World) (hgw : Wd w) (h : lex_Name.f k a0 = some r) :
    Calls Tryd.prog 12 #[.string a0] w fun e w' => e = .returned (.bool r) ∧ Below w.heap.size w w' := by
  have hfd0 : ∀ (v0 v1 v2 v3 : Value) (w : World), (Instr.field 28 (.agg #[v0, v1, v2, v3]) 0).run Tryd.prog w = .ok v0 w := fun _ _ _ _ _ => by kernel_rfl
  have HB := Aside0.mk (Below.refl w.heap.size w)
  have H : ((lex_only.f k a0).bind fun bt153 => (some (bt153.1 == 1))) = some r := h
  clear h
  replace H := Option.bind_eq_some_iff.mp H
  obtain ⟨⟨t153, t154, t155, t156⟩, A20, H⟩ := H
  replace H : (some (t153 == 1)) = some r := H
  have A2 := Aside0.mk A20
  clear A20
  obtain rfl := Option.some.inj H
  go_enter Tryd.func12, Tryd.ntmps12
  go_wp2_with (first | ((with_reducible refine gate_callee (f := 27) rfl ?_); refine goesL_ (some 4) rfl rfl Tryd.func27 (by kernel_rfl) rfl #[.string a0] rfl (by (try simp only [List.map_toArray, List.map_cons, List.map_nil]); first | done | rfl | (simp only [List.length_drop, List.length_take]; rfl)) ?_; (with_reducible refine (lex_only.calls k a0 t153 t154 t155 t156 _ ?hwd73 A2.out).mono ?_); (case hwd73 => exact Wd.below hgw (by repeat (first | (with_reducible first | exact HB.out | apply below_alloc | apply pw_below_drewN | apply below_drew1) | exact HB.out))); rintro e w3 ⟨rfl, hb⟩; refine ⟨_, rfl, ?_⟩; have n0_ := Aside0.mk (below_step (by repeat (first | (with_reducible first | exact HB.out | apply below_alloc | apply pw_below_drewN | apply below_drew1) | exact HB.out)) hb); clear HB; have HB := n0_; clear n0_; (try clear hb); (try clear hb2); (try clear hk); (try clear hi)))
  go_ret
  exact ⟨by first | rfl | (simp [errW_none, errW_some] <;> rfl) | (simp [*, errW_none, errW_some] <;> rfl), by repeat (first | (with_reducible first | exact HB.out | apply below_alloc | apply pw_below_drewN | apply below_drew1) | exact HB.out)⟩

/-! ### lex_Word: function 13 -/
def lex_Word.f (k : Nat) (a0 : ByteArray) : Option (Bool) := (lex_only.f k a0).bind fun bt157 => (some (bt157.1 == 2))
theorem lex_Word.mono : ∀ a0 k, LeO (lex_Word.f k a0) (lex_Word.f (k + 1) a0) := by
  intro a0 k
  unfold lex_Word.f
  repeat' first
      | (with_reducible exact lex_only.mono _ _)
      | (with_reducible exact LeO.refl _)
      | (with_reducible exact LeO.none _)
      | (with_reducible refine LeO.ite ?_ ?_)
      | (with_reducible refine LeO.bind ?_ (fun _ => ?_))
      | exact lex_only.mono _ _
      | exact LeO.none _
      | refine LeO.ite ?_ ?_
      | refine LeO.bind ?_ (fun _ => ?_)
set_option maxHeartbeats 8000000 in
set_option maxRecDepth 100000 in
theorem lex_Word.calls (k : Nat) (a0 : ByteArray) (r : Bool) (w : World) (hgw : Wd w) (h : lex_Word.f k a0 = some r) :
    Calls Tryd.prog 13 #[.string a0] w fun e w' => e = .returned (.bool r) ∧ Below w.heap.size w w' := by
  have hfd0 : ∀ (v0 v1 v2 v3 : Value) (w : World), (Instr.field 28 (.agg #[v0, v1, v2, v3]) 0).run Tryd.prog w = .ok v0 w := fun _ _ _ _ _ => by kernel_rfl
  have HB := Aside0.mk (Below.refl w.heap.size w)
  have H : ((lex_only.f k a0).bind fun bt157 => (some (bt157.1 == 2))) = some r := h
  clear h
  replace H := Option.bind_eq_some_iff.mp H
  obtain ⟨⟨t157, t158, t159, t160⟩, A20, H⟩ := H
  replace H : (some (t157 == 2)) = some r := H
  have A2 := Aside0.mk A20
  clear A20
  obtain rfl := Option.some.inj H
  go_enter Tryd.func13, Tryd.ntmps13
  go_wp2_with (first | ((with_reducible refine gate_callee (f := 27) rfl ?_); refine goesL_ (some 4) rfl rfl Tryd.func27 (by kernel_rfl) rfl #[.string a0] rfl (by (try simp only [List.map_toArray, List.map_cons, List.map_nil]); first | done | rfl | (simp only [List.length_drop, List.length_take]; rfl)) ?_; (with_reducible refine (lex_only.calls k a0 t157 t158 t159 t160 _ ?hwd74 A2.out).mono ?_); (case hwd74 => exact Wd.below hgw (by repeat (first | (with_reducible first | exact HB.out | apply below_alloc | apply pw_below_drewN | apply below_drew1) | exact HB.out))); rintro e w3 ⟨rfl, hb⟩; refine ⟨_, rfl, ?_⟩; have n0_ := Aside0.mk (below_step (by repeat (first | (with_reducible first | exact HB.out | apply below_alloc | apply pw_below_drewN | apply below_drew1) | exact HB.out)) hb); clear HB; have HB := n0_; clear n0_; (try clear hb); (try clear hb2); (try clear hk); (try clear hi)))
  go_ret
  exact ⟨by first | rfl | (simp [errW_none, errW_some] <;> rfl) | (simp [*, errW_none, errW_some] <;> rfl), by repeat (first | (with_reducible first | exact HB.out | apply below_alloc | apply pw_below_drewN | apply below_drew1) | exact HB.out)⟩

end Go.Proofs.YtobhcpfdgfkeiaaDoor.Lx
