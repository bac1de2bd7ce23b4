/-
  Texts of this claim, joined: part 6.
-/
import Derived.Test.YtobhcpfdgfkeiaaDoorJC2
import Derived.Test.YtobhcpfdgfkeiaaDoorJO3
import Derived.Test.YtobhcpfdgfkeiaaDoorCards
import Derived.Test.YtobhcpfdgfkeiaaDoorTie
import Derived.Test.YtobhcpfdgfkeiaaDoorJC0
import Derived.Test.YtobhcpfdgfkeiaaDoorJO4
import Derived.Test.YtobhcpfdgfkeiaaDoorWSized
import Derived.WalkKit
import Derived.ProofKit
import Derived.OpenShut
import Derived.ShutString
import Derived.ChangeOld
import Derived.Below
import Derived.SizedLaws
import Derived.Deep.DeepHandedRow
import Derived.Lay
namespace Go.Proofs.YtobhcpfdgfkeiaaDoor.Lp
open Go.RowKit Go.Proofs.YtobhcpfdgfkeiaaDoorW.PrintWords Go.Proofs.YtobhcpfdgfkeiaaDoor.Ext Go.Proofs.YtobhcpfdgfkeiaaDoor.Lx Go.Proofs.YtobhcpfdgfkeiaaDoor.Lf
set_option linter.unusedVariables false

def opsL : List Bytes := [[40], [41], [44], [46], [59], [42], [61], [43], [47], [37], [38], [94], [60, 62], [60, 61], [62, 61], [60, 60], [62, 62], [124, 124], [60], [62], [124], [45]]
def opsB : List ByteArray := [(⟨#[40]⟩ : ByteArray), (⟨#[41]⟩ : ByteArray), (⟨#[44]⟩ : ByteArray), (⟨#[46]⟩ : ByteArray), (⟨#[59]⟩ : ByteArray), (⟨#[42]⟩ : ByteArray), (⟨#[61]⟩ : ByteArray), (⟨#[43]⟩ : ByteArray), (⟨#[47]⟩ : ByteArray), (⟨#[37]⟩ : ByteArray), (⟨#[38]⟩ : ByteArray), (⟨#[94]⟩ : ByteArray), (⟨#[60, 62]⟩ : ByteArray), (⟨#[60, 61]⟩ : ByteArray), (⟨#[62, 61]⟩ : ByteArray), (⟨#[60, 60]⟩ : ByteArray), (⟨#[62, 62]⟩ : ByteArray), (⟨#[124, 124]⟩ : ByteArray), (⟨#[60]⟩ : ByteArray), (⟨#[62]⟩ : ByteArray), (⟨#[124]⟩ : ByteArray), (⟨#[45]⟩ : ByteArray)]
/-- may this op stand there, whatever follows? -/
def okOp (tight : Bool) (w : Bytes) : Bool := if tight then (opsL.take 18).contains w else opsL.contains w
def sep (tight : Bool) : Bytes := if tight then [] else [32]
def jn (tight : Bool) : List Bytes → Bytes
  | [] => []
  | w :: W => w ++ (match W with | [] => [] | _ :: _ => sep tight ++ jn tight W)
theorem jn_snoc (tight : Bool) (w : Bytes) : ∀ W : List Bytes, jn tight (W ++ [w]) = (match W with | [] => w | _ :: _ => jn tight W ++ (sep tight ++ w))
  | [] => by simp [jn]
  | [v] => by simp [jn]
  | v :: u :: W => by
    have ih := jn_snoc tight w (u :: W)
    simp only [List.cons_append] at ih ⊢
    rw [jn, ih]
    simp only [jn, List.append_assoc]

theorem dbl_fin : (([40, 41, 44, 46, 59, 42, 61, 43, 47, 37, 38, 94] : Bytes).all fun c => (List.range 256).all fun n => !double c (UInt8.ofNat n)) = true := by decide +kernel
theorem dbl_no {c : UInt8} (h : c ∈ ([40, 41, 44, 46, 59, 42, 61, 43, 47, 37, 38, 94] : Bytes)) (d : UInt8) : double c d = false := by
  have := List.all_eq_true.mp (List.all_eq_true.mp dbl_fin c h) d.toNat (List.mem_range.mpr d.toNat_lt)
  simpa using this
theorem opLen_one {c : UInt8} (h : c ∈ ([40, 41, 44, 46, 59, 42, 61, 43, 47, 37, 38, 94] : Bytes)) (r : Bytes) : opLen (c :: r) = 1 := by
  have hs : single c = true := by
    have hf : (([40, 41, 44, 46, 59, 42, 61, 43, 47, 37, 38, 94] : Bytes).all single) = true := by decide +kernel
    exact List.all_eq_true.mp hf c h
  cases r with
  | nil => simp only [opLen]; rw [if_pos hs]
  | cons d r => simp only [opLen]; rw [dbl_no h d, if_neg (by decide), if_pos hs]
theorem tok_one {c : UInt8} {r : Bytes} (h1 : isLet c = false) (h2 : isDig c = false) (h3 : ¬ c.toNat = 39) (h : opLen (c :: r) = 1) : tokL (c :: r) = some ⟨5, ⟨([c] : Bytes).toArray⟩, 0, 1⟩ := by
  rw [tokL_cons, h1, h2, if_neg (by decide), if_neg (by decide), if_neg h3, h, if_neg (by decide)]; rfl
theorem tok_two {a b : UInt8} {r : Bytes} (h1 : isLet a = false) (h2 : isDig a = false) (h3 : ¬ a.toNat = 39) (h : double a b = true) : tokL (a :: b :: r) = some ⟨5, ⟨([a, b] : Bytes).toArray⟩, 0, 2⟩ := by
  have ho : opLen (a :: b :: r) = 2 := by simp only [opLen]; rw [if_pos h]
  rw [tokL_cons, h1, h2, if_neg (by decide), if_neg (by decide), if_neg h3, ho, if_neg (by decide)]; rfl
theorem rem_ne {c : UInt8} (h : (c == 45) = false) (l : Bytes) : isRem (c :: l) = false := by
  cases l with
  | nil => rfl
  | cons d l => simp only [isRem]; rw [h, Bool.false_and]
theorem tok_op18 {w : Bytes} (h : w ∈ opsL.take 18) (r : Bytes) : ∃ c l, w ++ r = c :: l ∧ isBlank c = false ∧ isRem (c :: l) = false ∧ tokL (c :: l) = some ⟨5, ⟨w.toArray⟩, 0, w.length⟩ := by
  have one : ∀ c : UInt8, c ∈ ([40, 41, 44, 46, 59, 42, 61, 43, 47, 37, 38, 94] : Bytes) → ∃ c' l, [c] ++ r = c' :: l ∧ isBlank c' = false ∧ isRem (c' :: l) = false ∧ tokL (c' :: l) = some ⟨5, ⟨([c] : Bytes).toArray⟩, 0, ([c] : Bytes).length⟩ := by
    intro c hc
    have hf : (([40, 41, 44, 46, 59, 42, 61, 43, 47, 37, 38, 94] : Bytes).all fun c => !isBlank c && !(c == 45) && !isLet c && !isDig c && !decide (c.toNat = 39)) = true := by decide +kernel
    have := List.all_eq_true.mp hf c hc
    simp only [Bool.and_eq_true, Bool.not_eq_true', decide_eq_false_iff_not] at this
    obtain ⟨⟨⟨⟨a1, a2⟩, a3⟩, a4⟩, a5⟩ := this
    exact ⟨c, r, rfl, a1, rem_ne a2 r, tok_one a3 a4 a5 (opLen_one hc r)⟩
  simp only [opsL, List.take_succ_cons, List.take_zero, List.mem_cons, List.not_mem_nil, or_false] at h
  rcases h with rfl | rfl | rfl | rfl | rfl | rfl | rfl | rfl | rfl | rfl | rfl | rfl | rfl | rfl | rfl | rfl | rfl | rfl
  · exact one 40 (by decide)
  · exact one 41 (by decide)
  · exact one 44 (by decide)
  · exact one 46 (by decide)
  · exact one 59 (by decide)
  · exact one 42 (by decide)
  · exact one 61 (by decide)
  · exact one 43 (by decide)
  · exact one 47 (by decide)
  · exact one 37 (by decide)
  · exact one 38 (by decide)
  · exact one 94 (by decide)
  · exact ⟨60, 62 :: r, rfl, by decide, rem_ne (by decide) _, tok_two (by decide) (by decide) (by decide) (by decide)⟩
  · exact ⟨60, 61 :: r, rfl, by decide, rem_ne (by decide) _, tok_two (by decide) (by decide) (by decide) (by decide)⟩
  · exact ⟨62, 61 :: r, rfl, by decide, rem_ne (by decide) _, tok_two (by decide) (by decide) (by decide) (by decide)⟩
  · exact ⟨60, 60 :: r, rfl, by decide, rem_ne (by decide) _, tok_two (by decide) (by decide) (by decide) (by decide)⟩
  · exact ⟨62, 62 :: r, rfl, by decide, rem_ne (by decide) _, tok_two (by decide) (by decide) (by decide) (by decide)⟩
  · exact ⟨124, 124 :: r, rfl, by decide, rem_ne (by decide) _, tok_two (by decide) (by decide) (by decide) (by decide)⟩
theorem tok_op {w : Bytes} (h : w ∈ opsL) (r : Bytes) (hr : r = [] ∨ ∃ r', r = 32 :: r') : ∃ c l, w ++ r = c :: l ∧ isBlank c = false ∧ isRem (c :: l) = false ∧ tokL (c :: l) = some ⟨5, ⟨w.toArray⟩, 0, w.length⟩ := by
  by_cases h18 : w ∈ opsL.take 18
  · exact tok_op18 h18 r
  · have hl : w ∈ ([[60], [62], [124], [45]] : List Bytes) := by
      have e : opsL = opsL.take 18 ++ [[60], [62], [124], [45]] := rfl
      rw [e, List.mem_append] at h
      rcases h with h | h
      · exact absurd h h18
      · exact h
    simp only [List.mem_cons, List.not_mem_nil, or_false] at hl
    rcases hr with rfl | ⟨r', rfl⟩
    · rcases hl with rfl | rfl | rfl | rfl
      · exact ⟨60, [], rfl, by decide, rfl, tok_one (by decide) (by decide) (by decide) rfl⟩
      · exact ⟨62, [], rfl, by decide, rfl, tok_one (by decide) (by decide) (by decide) rfl⟩
      · exact ⟨124, [], rfl, by decide, rfl, tok_one (by decide) (by decide) (by decide) rfl⟩
      · exact ⟨45, [], rfl, by decide, rfl, tok_one (by decide) (by decide) (by decide) rfl⟩
    · rcases hl with rfl | rfl | rfl | rfl
      · exact ⟨60, 32 :: r', rfl, by decide, rfl, tok_one (by decide) (by decide) (by decide) rfl⟩
      · exact ⟨62, 32 :: r', rfl, by decide, rfl, tok_one (by decide) (by decide) (by decide) rfl⟩
      · exact ⟨124, 32 :: r', rfl, by decide, rfl, tok_one (by decide) (by decide) (by decide) rfl⟩
      · exact ⟨45, 32 :: r', rfl, by decide, rfl, tok_one (by decide) (by decide) (by decide) rfl⟩

theorem ops_from (tight : Bool) : ∀ (W : List Bytes) (acc : List Tup) (i : Nat), (∀ w, w ∈ W → okOp tight w = true) → ∃ P : List Tup, fromAt mkT acc i (jn tight W) = (acc ++ P, 0, 0) ∧ P.map (fun q => (q.1, q.2.1)) = W.map (fun w => ((5 : Int), (⟨w.toArray⟩ : ByteArray)))
  | [], acc, i, _ => ⟨[], by rw [List.append_nil]; exact fromAt_nil mkT acc i, rfl⟩
  | w :: W, acc, i, h => by
    have hw := h w (List.mem_cons_self ..)
    have hW : ∀ v, v ∈ W → okOp tight v = true := fun v hv => h v (List.mem_cons_of_mem _ hv)
    have key : ∀ r : Bytes, jn tight (w :: W) = w ++ r → (∃ P : List Tup, fromAt mkT (acc ++ [mkT 5 ⟨w.toArray⟩ 0 i]) (i + w.length) r = (acc ++ [mkT 5 ⟨w.toArray⟩ 0 i] ++ P, 0, 0) ∧ P.map (fun q => (q.1, q.2.1)) = W.map (fun w => ((5 : Int), (⟨w.toArray⟩ : ByteArray)))) →
        (∃ c l, w ++ r = c :: l ∧ isBlank c = false ∧ isRem (c :: l) = false ∧ tokL (c :: l) = some ⟨5, ⟨w.toArray⟩, 0, w.length⟩) → ∃ P : List Tup, fromAt mkT acc i (jn tight (w :: W)) = (acc ++ P, 0, 0) ∧ P.map (fun q => (q.1, q.2.1)) = (w :: W).map (fun w => ((5 : Int), (⟨w.toArray⟩ : ByteArray))) := by
      rintro r e ⟨P, hP, hm⟩ ⟨c, l, e2, hb, hrm, ht⟩
      refine ⟨mkT 5 ⟨w.toArray⟩ 0 i :: P, ?_, ?_⟩
      · rw [e, e2, fromAt_tok mkT acc i hb hrm, ht]
        simp only
        rw [← e2, List.drop_left, hP, List.append_assoc]; rfl
      · rw [List.map_cons, List.map_cons, hm]; rfl
    cases W with
    | nil =>
      refine key [] (by simp [jn]) ⟨[], by rw [List.append_nil]; exact fromAt_nil mkT _ _, rfl⟩ ?_
      cases tight with
      | true => exact tok_op18 (by simpa [okOp] using hw) []
      | false => exact tok_op (by simpa [okOp] using hw) [] (Or.inl rfl)
    | cons v W =>
      cases tight with
      | true =>
        exact key (jn true (v :: W)) (by simp [jn, sep]) (ops_from true (v :: W) _ _ hW) (tok_op18 (by simpa [okOp] using hw) _)
      | false =>
        refine key (32 :: jn false (v :: W)) (by simp [jn, sep]) ?_ (tok_op (by simpa [okOp] using hw) _ (Or.inr ⟨_, rfl⟩))
        rw [fromAt_blank mkT _ _ (by decide)]
        exact ops_from false (v :: W) _ _ hW

theorem bits_pos (x : Int) : 0 ≤ Go.bits .and .i64 x 65535 := by
  have h : ((BitVec.ofInt 64 x) &&& (BitVec.ofInt 64 65535)).toNat ≤ 65535 := by
    rw [BitVec.toNat_and]; exact Nat.and_le_right
  have e : Go.bits .and .i64 x 65535 = IntKind.wrap .i64 (((BitVec.ofInt 64 x) &&& (BitVec.ofInt 64 65535)).toNat : Int) := rfl
  rw [e]
  generalize ((BitVec.ofInt 64 x) &&& (BitVec.ofInt 64 65535)).toNat = m at h
  unfold IntKind.wrap
  simp only [IntKind.bits, IntKind.signed]
  simp
  omega

theorem opsB_len : opsB.length = 22 := rfl
theorem opsB_size (m : Int) : (rdOf ByteArray.empty opsB m).size ≤ 2 := by
  unfold rdOf
  generalize m.toNat = n
  have hf : ∀ n : Fin 22, (opsB.getD n.val ByteArray.empty).size ≤ 2 := by decide +kernel
  by_cases h : n < 22
  · exact hf ⟨n, h⟩
  · rw [List.getD_eq_getElem?_getD, List.getElem?_eq_none (by rw [opsB_len]; omega)]; decide

theorem l0_step (k : Nat) (x0 : List Int) (t : Bool) (s : ByteArray) (W : List ByteArray) (j : Nat) (hj : j < x0.length) (hj2 : j < 20) (hW : W.length = j) (hs : s.size ≤ 3 * j) : ∃ m : Int, 0 ≤ m ∧ m < 22 ∧ (t = true → m < 18) ∧
    umlautlaw17_LexOps.l0 (k + 5) x0 t opsB s W (j : Int) = umlautlaw17_LexOps.l0 k x0 t opsB ((if t = false ∧ 0 < j then s ++ (⟨#[32]⟩ : ByteArray) else s) ++ rdOf ByteArray.empty opsB m) (W ++ [rdOf ByteArray.empty opsB m]) ((j + 1 : Nat) : Int) := by
  have hl := opsB_len
  have e0 : (opsB.length : Int) = 22 := by rw [hl]; rfl
  have hw1 : wrap64 ((j : Int) + 1) = ((j + 1 : Nat) : Int) := wrap_add1 j (by omega)
  have hb := bits_pos (rd x0 (j : Int))
  generalize hz : Int.tmod (Go.bits .and .i64 (rd x0 (j : Int)) 65535) 22 = z
  have hz0 : 0 ≤ z ∧ z < 22 := by
    rw [← hz, Int.tmod_eq_emod_of_nonneg hb]; omega
  have j4 : ∀ (x9 : Int) (b : Bool), 0 ≤ x9 → x9 < 22 → (t = true → x9 < 18) → b = decide (t = false ∧ 0 < j) → ∃ m : Int, 0 ≤ m ∧ m < 22 ∧ (t = true → m < 18) ∧
      umlautlaw17_LexOps.j4 (k + 1) x0 t opsB s W (j : Int) x9 b = umlautlaw17_LexOps.l0 k x0 t opsB ((if t = false ∧ 0 < j then s ++ (⟨#[32]⟩ : ByteArray) else s) ++ rdOf ByteArray.empty opsB m) (W ++ [rdOf ByteArray.empty opsB m]) ((j + 1 : Nat) : Int) := by
    intro x9 b h0 h22 h18 hbd
    have s1 := opsB_size 1
    have s9 := opsB_size x9
    have hwl : 0 < W.length → 0 ≤ wrap64 ((W.length : Int) - 1) ∧ wrap64 ((W.length : Int) - 1) < (W.length : Int) := by
      intro h; unfold wrap64; omega
    have hsp : (s ++ (⟨#[32]⟩ : ByteArray)).size = s.size + 1 := by rw [ByteArray.size_append]; rfl
    simp only [umlautlaw17_LexOps.j4]
    rw [hw1, e0, hsp]
    cases b with
    | true =>
      have hb2 := of_decide_eq_true hbd.symm
      rw [if_pos rfl, if_pos (by omega), if_pos hb2]
      obtain ⟨rfl, hj0⟩ := hb2
      rw [if_neg (by decide)]
      refine ⟨x9, h0, h22, fun h => h18 h, ?_⟩
      rw [if_pos h0, if_pos h22, if_pos (by omega), if_pos (by omega)]
    | false =>
      have hb2 := of_decide_eq_false hbd.symm
      rw [if_neg (by decide), if_neg hb2]
      cases t with
      | false =>
        rw [if_neg (by decide)]
        refine ⟨x9, h0, h22, fun h => h18 h, ?_⟩
        rw [if_pos h0, if_pos h22, if_pos (by omega), if_pos (by omega)]
      | true =>
        rw [if_pos rfl]
        have A9 : ∃ m : Int, 0 ≤ m ∧ m < 22 ∧ (true = true → m < 18) ∧ (if 0 ≤ x9 then (if x9 < 22 then (if s.size + (rdOf ByteArray.empty opsB x9).size ≤ 9223372036854775807 then (if W.length < 8796093022208 then (umlautlaw17_LexOps.l0 k x0 true opsB (s ++ (rdOf ByteArray.empty opsB x9)) (W ++ [rdOf ByteArray.empty opsB x9]) ((j + 1 : Nat) : Int)) else (none)) else (none)) else (none)) else (none)) = umlautlaw17_LexOps.l0 k x0 true opsB (s ++ rdOf ByteArray.empty opsB m) (W ++ [rdOf ByteArray.empty opsB m]) ((j + 1 : Nat) : Int) := by
          refine ⟨x9, h0, h22, fun h => h18 h, ?_⟩
          rw [if_pos h0, if_pos h22, if_pos (by omega), if_pos (by omega)]
        have A1 : ∃ m : Int, 0 ≤ m ∧ m < 22 ∧ (true = true → m < 18) ∧ (if x9 ≥ 6 then (if (1 : Int) < 22 then (if s.size + (rdOf ByteArray.empty opsB 1).size ≤ 9223372036854775807 then (if W.length < 8796093022208 then (umlautlaw17_LexOps.l0 k x0 true opsB (s ++ (rdOf ByteArray.empty opsB 1)) (W ++ [rdOf ByteArray.empty opsB 1]) ((j + 1 : Nat) : Int)) else (none)) else (none)) else (none)) else (if 0 ≤ x9 then (if x9 < 22 then (if s.size + (rdOf ByteArray.empty opsB x9).size ≤ 9223372036854775807 then (if W.length < 8796093022208 then (umlautlaw17_LexOps.l0 k x0 true opsB (s ++ (rdOf ByteArray.empty opsB x9)) (W ++ [rdOf ByteArray.empty opsB x9]) ((j + 1 : Nat) : Int)) else (none)) else (none)) else (none)) else (none))) = umlautlaw17_LexOps.l0 k x0 true opsB (s ++ rdOf ByteArray.empty opsB m) (W ++ [rdOf ByteArray.empty opsB m]) ((j + 1 : Nat) : Int) := by
          by_cases h6 : x9 ≥ 6
          · refine ⟨1, by decide, by decide, fun _ => by decide, ?_⟩
            rw [if_pos h6, if_pos (by decide), if_pos (by omega), if_pos (by omega)]
          · rw [if_neg h6]; exact A9
        by_cases hw : (W.length : Int) > 0
        · have hwl' := hwl (by omega)
          rw [if_pos hw, if_pos hwl'.1, if_pos hwl'.2]
          repeat' split
          all_goals first | exact ⟨1, by decide, by decide, fun _ => by decide, by with_reducible rfl⟩ | exact ⟨x9, h0, h22, h18, by with_reducible rfl⟩ | (exfalso; omega)
        · rw [if_neg hw]
          first | exact A9 | exact A1
  have st1 : umlautlaw17_LexOps.l0 (k + 5) x0 t opsB s W (j : Int) = umlautlaw17_LexOps.j1 (k + 4) x0 t opsB s W (j : Int) true := by
    rw [show k + 5 = (k + 4) + 1 by omega]
    simp only [umlautlaw17_LexOps.l0]
    rw [if_pos (by omega), show decide ((j : Int) < 20) = true from decide_eq_true (by omega)]
  have j3 : ∀ x9 : Int, umlautlaw17_LexOps.j3 (k + 2) x0 t opsB s W (j : Int) x9 = umlautlaw17_LexOps.j4 (k + 1) x0 t opsB s W (j : Int) x9 (decide (t = false ∧ 0 < j)) := by
    intro x9
    rw [show k + 2 = (k + 1) + 1 by omega]
    simp only [umlautlaw17_LexOps.j3]
    cases t with
    | true => rw [if_pos rfl]; rfl
    | false =>
      rw [if_neg (by decide)]
      congr 1
      rw [Bool.eq_iff_iff]; simp
  have st2 : ∃ x9 : Int, 0 ≤ x9 ∧ x9 < 22 ∧ (t = true → x9 < 18) ∧ umlautlaw17_LexOps.j1 (k + 4) x0 t opsB s W (j : Int) true = umlautlaw17_LexOps.j3 (k + 2) x0 t opsB s W (j : Int) x9 := by
    rw [show k + 4 = (k + 3) + 1 by omega]
    simp only [umlautlaw17_LexOps.j1]
    rw [if_pos True.intro, if_pos (by omega), if_pos (by omega), e0, if_neg (by decide), hz]
    cases t with
    | true =>
      rw [if_pos rfl, show k + 3 = (k + 2) + 1 by omega]
      simp only [umlautlaw17_LexOps.j2]
      by_cases h18 : z ≥ 18
      · exact ⟨0, by decide, by decide, fun _ => by decide, by rw [decide_eq_true h18, if_pos rfl]⟩
      · exact ⟨z, hz0.1, hz0.2, fun _ => by omega, by rw [decide_eq_false h18, if_neg (by decide)]⟩
    | false =>
      rw [if_neg (by decide), show k + 3 = (k + 2) + 1 by omega]
      simp only [umlautlaw17_LexOps.j2]
      exact ⟨z, hz0.1, hz0.2, (fun h => absurd h (by decide)), if_neg (by decide)⟩
  obtain ⟨x9, a, b, c, e⟩ := st2
  rw [st1, e, j3]
  exact j4 x9 _ a b c rfl

theorem l1_loop (W : List ByteArray) (P : List Tup) (hl : P.length ≤ 4000) (h : P.map (fun q => (q.1, q.2.1)) = W.map (fun w => ((5 : Int), w))) : ∀ (d k j : Nat), j ≤ P.length → P.length - j ≤ d → d + 10000 < k → umlautlaw17_LexOps.l1 k W (P.map t28) (j : Int) = some true := by
  have hlen : P.length = W.length := by simpa using congrArg List.length h
  intro d
  induction d with
  | zero =>
    intro k j hj hd hk
    obtain ⟨k, rfl⟩ : ∃ m, k = m + 1 := ⟨k - 1, by omega⟩
    simp only [umlautlaw17_LexOps.l1]
    rw [if_neg (by rw [List.length_map]; omega), awake_eq k (by omega)]; rfl
  | succ d ih =>
    intro k j hj hd hk
    obtain ⟨k, rfl⟩ : ∃ m, k = m + 1 := ⟨k - 1, by omega⟩
    simp only [umlautlaw17_LexOps.l1]
    by_cases hlt : j < P.length
    · have he : (P[j].1, P[j].2.1) = ((5 : Int), W[j]) := by
        have := congrArg (fun l => l[j]?) h
        simp only [List.getElem?_map] at this
        rw [List.getElem?_eq_getElem hlt, List.getElem?_eq_getElem (by omega)] at this
        simpa using this
      have e1 : (t28 P[j]).f0 = 5 := congrArg Prod.fst he
      have e2 : (t28 P[j]).f1 = W[j] := congrArg Prod.snd he
      have e3 : rdOf ByteArray.empty W (j : Int) = W[j] := rdOf_at W j (by omega)
      rw [if_pos (by rw [List.length_map]; omega), if_pos (by omega), rd28 P j hlt, if_pos e1, if_pos (by omega), e2, e3, if_pos rfl, wrap_add1 _ (by omega)]
      exact ih k (j + 1) (by omega) (by omega) (by omega)
    · rw [if_neg (by rw [List.length_map]; omega), awake_eq k (by omega)]; rfl

theorem okOp_at (t : Bool) (m : Int) (h0 : 0 ≤ m) (h1 : m < 22) (h2 : t = true → m < 18) : okOp t (rdOf ByteArray.empty opsB m).data.toList = true := by
  obtain ⟨n, rfl⟩ := Int.eq_ofNat_of_zero_le h0
  unfold rdOf
  rw [Int.toNat_natCast]
  have hf : ∀ n : Fin 22, opsL.contains (opsB.getD n.val ByteArray.empty).data.toList = true := by decide +kernel
  have hg : ∀ n : Fin 18, (opsL.take 18).contains (opsB.getD n.val ByteArray.empty).data.toList = true := by decide +kernel
  cases t with
  | false => exact hf ⟨n, by omega⟩
  | true => exact hg ⟨n, by have := h2 rfl; omega⟩

theorem jn_len (t : Bool) : ∀ W : List Bytes, (∀ w, w ∈ W → w.length ≤ 2) → (jn t W).length ≤ 3 * W.length
  | [], _ => Nat.le_refl _
  | [w], h => by have := h w (List.mem_cons_self ..); simp [jn]; omega
  | w :: v :: W, h => by
    have h1 := h w (List.mem_cons_self ..)
    have ih := jn_len t (v :: W) (fun u hu => h u (List.mem_cons_of_mem _ hu))
    have hs : (sep t).length ≤ 1 := by cases t <;> decide
    rw [jn]
    simp only [List.length_append, List.length_cons] at ih ⊢
    omega

theorem ops_loop (x0 : List Int) (t : Bool) : ∀ (d k j : Nat) (s : ByteArray) (W : List ByteArray), 20 - j ≤ d → j ≤ 20 → 5 * d + 20000 < k → W.length = j → (∀ w, w ∈ W → okOp t w.data.toList = true) → (∀ w, w ∈ W → w.size ≤ 2) → s.data.toList = jn t (W.map fun w => w.data.toList) →
    umlautlaw17_LexOps.l0 k x0 t opsB s W (j : Int) = some true := by
  have stop : ∀ (k j : Nat) (s : ByteArray) (W : List ByteArray), ¬ (j < x0.length ∧ j < 20) → j ≤ 20 → 20000 < k → W.length = j → (∀ w, w ∈ W → okOp t w.data.toList = true) → (∀ w, w ∈ W → w.size ≤ 2) → s.data.toList = jn t (W.map fun w => w.data.toList) →
      umlautlaw17_LexOps.l0 k x0 t opsB s W (j : Int) = some true := by
    intro k j s W hn hj hk hW hok hsz hs
    obtain ⟨k, rfl⟩ : ∃ m, k = m + 3 := ⟨k - 3, by omega⟩
    have st1 : umlautlaw17_LexOps.l0 (k + 3) x0 t opsB s W (j : Int) = umlautlaw17_LexOps.j1 (k + 2) x0 t opsB s W (j : Int) false := by
      rw [show k + 3 = (k + 2) + 1 by omega]
      simp only [umlautlaw17_LexOps.l0]
      by_cases hlt : (j : Int) < (x0.length : Int)
      · rw [if_pos hlt, show decide ((j : Int) < 20) = false from decide_eq_false (by omega)]
      · rw [if_neg hlt]
    rw [st1, show k + 2 = (k + 1) + 1 by omega]
    simp only [umlautlaw17_LexOps.j1]
    rw [if_neg (by simp), lex_tok s (k + 1) (by omega), hs]
    have hlj := jn_len t (W.map fun w => w.data.toList) (by
      intro w hw
      obtain ⟨v, hv, rfl⟩ := List.mem_map.mp hw
      rw [len_size]; exact hsz v hv)
    rw [List.length_map] at hlj
    obtain ⟨P, hP, hm⟩ := ops_from t (W.map fun w => w.data.toList) [] 0 (by
      intro w hw
      obtain ⟨v, hv, rfl⟩ := List.mem_map.mp hw
      exact hok v hv)
    rw [List.nil_append] at hP
    rw [lexL_from, if_neg (by omega), hP]
    have hm2 : P.map (fun q => (q.1, q.2.1)) = W.map (fun w => ((5 : Int), w)) := by
      rw [hm, List.map_map]
      refine List.map_congr_left fun w hw => ?_
      show ((5 : Int), (⟨w.data.toList.toArray⟩ : ByteArray)) = (5, w)
      congr 1
    have hlen : P.length = W.length := by simpa using congrArg List.length hm2
    simp only [Option.bind_some]
    rw [if_pos True.intro, show (((List.map t28 P).length : Int) != (W.length : Int)) = false from by rw [List.length_map, hlen]; simp]
    simp only [umlautlaw17_LexOps.j5]
    rw [if_neg (by simp)]
    exact l1_loop W P (by omega) hm2 20 k 0 (Nat.zero_le _) (by omega) (by omega)
  intro d
  induction d with
  | zero =>
    intro k j s W hd hj hk hW hok hsz hs
    exact stop k j s W (by omega) hj (by omega) hW hok hsz hs
  | succ d ih =>
    intro k j s W hd hj hk hW hok hsz hs
    by_cases hgo : j < x0.length ∧ j < 20
    · obtain ⟨k, rfl⟩ : ∃ m, k = m + 5 := ⟨k - 5, by omega⟩
      have hlj := jn_len t (W.map fun w => w.data.toList) (by
        intro w hw
        obtain ⟨v, hv, rfl⟩ := List.mem_map.mp hw
        rw [len_size]; exact hsz v hv)
      rw [List.length_map, ← hs, len_size] at hlj
      obtain ⟨m, m0, m1, m2, e⟩ := l0_step k x0 t s W j hgo.1 hgo.2 hW (by omega)
      rw [e]
      refine ih k (j + 1) _ _ (by omega) (by omega) (by omega) (by rw [List.length_append, hW]; rfl) ?_ ?_ ?_
      · intro w hw
        simp only [List.mem_append, List.mem_singleton] at hw
        rcases hw with hw | rfl
        · exact hok w hw
        · exact okOp_at t m m0 m1 m2
      · intro w hw
        simp only [List.mem_append, List.mem_singleton] at hw
        rcases hw with hw | rfl
        · exact hsz w hw
        · exact opsB_size m
      · rw [List.map_append, List.map_cons, List.map_nil, jn_snoc, ByteArray.data_append, Array.toList_append]
        cases W with
        | nil =>
          have hj0 : j = 0 := by simpa using hW.symm
          subst hj0
          have : s.data.toList = [] := hs
          simp [this]
        | cons v W' =>
          have hj0 : 0 < j := by rw [← hW]; simp
          simp only [List.map_cons] at hs ⊢
          cases t with
          | true => rw [if_neg (by simp), hs]; simp [sep]
          | false =>
            rw [if_pos ⟨rfl, hj0⟩, ByteArray.data_append, Array.toList_append, hs, List.append_assoc]; rfl
    · exact stop k j s W hgo hj (by omega) hW hok hsz hs
theorem pure_ops (k : Nat) (hk : 30000 ≤ k) (l0 : List Int) (a1 : Bool) : umlautlaw17_LexOps.f k l0 a1 = some true :=
  ops_loop l0 a1 20 k 0 ⟨#[]⟩ [] (by decide) (by decide) (by omega) rfl (by simp) (by simp) rfl
end Go.Proofs.YtobhcpfdgfkeiaaDoor.Lp

namespace Go.Proofs.YtobhcpfdgfkeiaaDoor.lexOps
open Go.ChangeShapes Go.WideShapes Go.ChangeAt Go.RowKit
open Go.ChangeMaps (open_string shut_string)
set_option linter.unusedVariables false
theorem own : ownKnob Tryd.prog.godebug = none := by kernel_rfl
theorem laidOut : laidOutB Tryd.prog = true := by kernel_rfl
def IsRow (k : IntKind) (w : World) (a : Option Addr) (len cap : Nat) (zs : List Int) : Prop :=
  (a = none ∧ len = 0 ∧ cap = 0 ∧ zs = []) ∨
  ∃ x, a = some x ∧ len ≤ cap ∧ cap ≤ maxLen ∧ zs.length = cap ∧ (∀ i, i < zs.length → w.cell? (x.add i) = some (.int k (zs.getD i 0))) ∧ ∀ n ∈ zs, (Lit.int k n).wf = true
theorem laid_met (os : Os) : laidMet Tryd.prog Rows.lexOpsRow.laid ((World.laidAll Tryd.prog os Rows.lexOpsRow.laid).forCall (fun _ _ => 0) ⟨#[], #[.slice none 0 0, .bool false], []⟩).memory :=
  laidMet_laidAll _ (by kernel_rfl) (by kernel_rfl)
set_option maxRecDepth 100000 in
theorem lifted (os : Os) (started : os.Started) (H : Type) (enc : TypeId × Value → H) (F : Stop.Interp) :
    ReturnsInHanded {} Tryd.checked os 4 .any ((OpenSpec.ofChange Rows.lexOpsSpec).preRow enc Tryd.prog Tryd.f4 Rows.lexOpsRow.domain false Rows.lexOpsRow.laid) (((OpenSpec.ofChange Rows.lexOpsSpec).at F).post enc Tryd.prog Tryd.f4 false true false false) := by
  refine returnsInHanded_of_row (C := Tryd.checked) (s := OpenSpec.ofChange Rows.lexOpsSpec) own started (by kernel_rfl) Tryd.func4
    (ChangeSpec.witness_shaped (enc := enc) (C := Tryd.checked) (os := os) (X := fun w _ => laidMetH Tryd.prog Rows.lexOpsRow.laid w) false (World.laidAll Tryd.prog os Rows.lexOpsRow.laid) #[.slice none 0 0, .bool false] 8 (World.laidAll_os _ _ _)
      (World.shaped_of_ZipB (by kernel_rfl) (by kernel_rfl)) (by kernel_rfl) (by kernel_rfl) (by kernel_rfl)
      (by rw [MakeChecks.laidMetH_plain _ _ _ (by kernel_rfl)]; exact laid_met os)) ?_
  intro W base args ds gs before hval0 hW hcnd _ hsz0 hL hS _
  have hgw : Ext.Wd W := by
    rw [MakeChecks.laidMetH_plain _ _ _ (by kernel_rfl)] at hL
    exact Rw.wd_of (by unfold Rows.lexOpsRow; simp) (by unfold Rows.lexOpsRow; simp) hL hS
  have hsz : (DataW.weightsEach Tryd.prog (Tryd.f4.params.toList ++ Rows.lexOpsSpec.plain.varTypes Tryd.prog) (ds ++ gs)).all (· ≤ reachBytes) = true := hsz0
  have hval : ∀ (j : Nat) t v, Tryd.f4.params[j]? = some t → args[j]? = some v → Value.okWide Tryd.prog W .any base t v := hval0
  have hW' := hW
  obtain ⟨p, q, hA0, hV, rfl, hfz, hnd⟩ := hW
  have hA : DataW.TrodAll enc Tryd.prog W 0 (fun _ => true) true Tryd.f4.params.toList args.toList ds p := hA0
  rw [Tryd.params4] at hA hval hsz
  obtain ⟨v0, vs0, d0, ds0, p0, q0, hargs, rfl, rfl, h0, r0⟩ := trodAll_cons hA
  obtain ⟨v1, vs1, d1, ds1, p1, q1, rfl, rfl, rfl, h1, r1⟩ := trodAll_cons r0
  obtain ⟨rfl, rfl, rfl⟩ := trodAll_nil r1
  obtain rfl : args = #[v0, v1] := by cases args; simp_all
  obtain ⟨rfl, rfl⟩ := trodVars_none hV
  obtain ⟨a0, len0, cap0, rfl⟩ := okWide_slice Tryd.underlying30 (hval 0 30 v0 rfl rfl)
  have k0 := h0
  have lt0 : ∀ x ∈ p0, x.block < W.heap.size := by obtain ⟨m, hm⟩ := k0; exact DataW.trod_lt m _ _ _ hm
  obtain ⟨z0, w0⟩ : ∃ zs, IsRow .i64 W a0 len0 cap0 zs := by
    obtain ⟨fuel, hf⟩ := h0
    rcases open_ints Tryd.underlying30 Tryd.underlying3 (by kernel_rfl) hf with ⟨hcs, _⟩ | ⟨x, l, c, zs, hcs, _, hl, hm, hz, _, hcell, hwz⟩
    · simp [Value.cells] at hcs
      obtain ⟨rfl, rfl, rfl⟩ := hcs
      exact ⟨[], .inl ⟨rfl, rfl, rfl, rfl⟩⟩
    · simp [Value.cells] at hcs
      obtain ⟨rfl, rfl, rfl⟩ := hcs
      exact ⟨zs, .inr ⟨_, rfl, hl, hm, by simpa using hz, hcell, hwz⟩⟩
  have y0 : len0 * 8 ≤ 140737488351232 := Go.Proofs.YtobhcpfdgfkeiaaDoorW.PrintWords.sized_ints hsz (j := 0) (t := 30) rfl rfl Tryd.underlying30 Tryd.underlying3 (by kernel_rfl) (by kernel_rfl) h0
  obtain ⟨a1, rfl, rfl, rfl⟩ := open_bool Tryd.underlying4 (hval 1 4 v1 rfl rfl) h1
  clear hA0 hval0 hsz0 hsz
  refine (Lx.umlautlaw17_LexOps.walk (fun l a h1 h2 h3 => ⟨_, Lp.pure_ops 30000 (Nat.le_refl _) l a⟩) a0 len0 cap0 z0 a1 W hgw w0 y0).mono fun e W' ⟨he, bel⟩ => ?_
  subst he
  exact ⟨_, rfl, _, _, _, [], _, [], hW', trodAll_mk1 (shut_bool Tryd.underlying4 _), (trodAll_cons_mk (Below.trod laidOut (by kernel_rfl) (of_decide_eq_true (by kernel_rfl)) k0 bel lt0) (trodAll_cons_mk (shut_bool Tryd.underlying4 _) trodAll_mk0)), rfl, bel.frame _, fun h => by cases h⟩
theorem said : Rows.LexOpsSaid :=
  OpenClaim.holds_of_cond 4 Tryd.f4 rfl rfl rfl rfl rfl rfl rfl ⟨rfl, rfl, rfl, rfl, rfl⟩ rfl rfl rfl rfl rfl (by kernel_rfl) Tryd.func4 (by kernel_rfl)
    (of_decide_eq_true (by kernel_rfl)) (by unfold Func.isWrapper; first | (rw [if_pos (by decide +kernel)]; kernel_rfl) | (rw [if_neg (by decide +kernel)]; exact ⟨rfl, rfl⟩))
    (fun os started H enc _ F => by rw [OpenClaim.pre_eq_preRow]; exact lifted os started H enc F)
theorem plain (f : FuncId) (fn : Func) (hf : Tryd.pinned.checked.prog.funcNamed "umlaut/umlautlaw17.LexOps" = some f) (hfn : Tryd.pinned.checked.prog.funcs[f]? = some fn) :
    true = Tryd.pinned.checked.prog.looks [] ∧ ∀ (j : Nat) t, fn.params[j]? = some t → Tryd.pinned.checked.prog.wantsStandIn t = false := by
  obtain rfl : f = 4 := Option.some.inj ((show Tryd.prog.funcNamed "umlaut/umlautlaw17.LexOps" = some 4 by kernel_rfl).symm.trans hf) |>.symm
  obtain rfl : fn = Tryd.f4 := (Option.some.inj (Tryd.func4.symm.trans hfn)).symm
  refine ⟨by kernel_rfl, fun j t ht => ?_⟩
  rw [Tryd.params4] at ht
  have hm : t ∈ [30, 4] := by simpa using Array.mem_of_getElem? ht
  have hall : ([30, 4].all fun u => !Tryd.prog.wantsStandIn u) = true := by kernel_rfl
  exact (show Tryd.prog.wantsStandIn t = false by simpa using List.all_eq_true.1 hall t hm)
theorem card : Rows.LexOpsCardSaid :=
  Claim7.holds_tied_plain_at .later [] _ _ _ _ said (fun _ h => by cases h) (by kernel_rfl) (fun _ h => by cases h) lexOps_row_tie rfl ⟨rfl, rfl⟩ (by kernel_rfl) rfl plain (by kernel_rfl)
#print axioms card
end Go.Proofs.YtobhcpfdgfkeiaaDoor.lexOps
namespace Go.Proofs.YtobhcpfdgfkeiaaDoor
/-- The card, under a short name, for the claim. -/
theorem lexOps_card : Rows.LexOpsCardSaid := lexOps.card
end Go.Proofs.YtobhcpfdgfkeiaaDoor
