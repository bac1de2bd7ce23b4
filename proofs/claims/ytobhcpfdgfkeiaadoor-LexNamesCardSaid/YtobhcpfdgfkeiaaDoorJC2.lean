/-
  Texts of this claim, joined: part 3.
-/
import Derived.Test.YtobhcpfdgfkeiaaDoorJC1
import Derived.Test.YtobhcpfdgfkeiaaDoorJC0
namespace Go.Proofs.YtobhcpfdgfkeiaaDoor.Lp
open Go.RowKit Go.Proofs.YtobhcpfdgfkeiaaDoorW.PrintWords Go.Proofs.YtobhcpfdgfkeiaaDoor.Ext Go.Proofs.YtobhcpfdgfkeiaaDoor.Lx Go.Proofs.YtobhcpfdgfkeiaaDoor.Lf
set_option linter.unusedVariables false

theorem span_next (p : UInt8 → Bool) : ∀ (l : Bytes) (c : UInt8) (r : Bytes), l.drop (spanOf p l) = c :: r → p c = false
  | [], c, r, h => by simp at h
  | a :: l, c, r, h => by
    cases hp : p a with
    | true => rw [spanOf_cons_yes hp, List.drop_succ_cons] at h; exact span_next p l c r h
    | false =>
      rw [spanOf_cons_no hp, List.drop_zero] at h
      rw [← (List.cons.inj h).1]; exact hp
theorem let_not_dig {c : UInt8} (h : isDig c = true) : isLet c = false := by
  unfold isDig at h; unfold isLet
  simp only [Bool.and_eq_true, decide_eq_true_eq] at h
  simp only [Bool.or_eq_false_iff, Bool.and_eq_false_iff, decide_eq_false_iff_not]
  omega
theorem ext_run (s : ByteArray) (i n : Nat) : (s.extract i (i + n)).data.toList = (s.data.toList.drop i).take n := by
  rw [Lib.extract_data, show i + n - i = n by omega]
theorem bytes_run (s : ByteArray) (i n : Nat) : s.extract i (i + n) = ⟨((s.data.toList.drop i).take n).toArray⟩ := by
  apply WideShapes.bytes_inj; rw [ext_run]

theorem fin_num (s : ByteArray) (hs : s.size ≤ 4000) (acc : List S37) (k i n : Nat) (hi : i < s.size) (hn : spanOf isDig (s.data.toList.drop i) = n) (h1 : 1 ≤ n) (hk : 2 * s.size + 6 < k) (ha : acc.length < 3518437208883) :
    umlautref17_Tokens.j5 (k + 1) s acc (i : Int) ((i + n : Nat) : Int) = match numOf (s.data.toList.drop i) with | none => some ([], (i : Int), 10) | some x => umlautref17_Tokens.l0 k s (acc ++ [mk37 3 ⟨#[]⟩ x.1 i]) ((i + x.2 : Nat) : Int) := by
  have hle := spanOf_le isDig (s.data.toList.drop i)
  have hls := len_size s
  rw [List.length_drop, hls, hn] at hle
  have hx := ext_run s i n
  have hdg : ∀ c, c ∈ (s.data.toList.drop i).take n → isDig c = true := by
    intro c hc
    rw [← hn, take_span] at hc
    exact mem_takeWhile hc
  have hne : (s.data.toList.drop i).take n ≠ [] := by
    intro e
    have := congrArg List.length e
    rw [List.length_take, List.length_drop, hls, List.length_nil] at this
    omega
  simp only [umlautref17_Tokens.j5]
  rw [if_pos (by omega), if_pos (by omega), if_pos (by omega), Int.toNat_natCast, Int.toNat_natCast]
  rw [rparse_eq (s.extract i (i + n)) (by rw [ByteArray.size_extract]; omega) (by rw [ByteArray.size_extract]; omega) k (by rw [ByteArray.size_extract]; omega) (by rw [hx]; exact hdg)]
  simp only [Option.bind_some]
  rw [hx]
  unfold numOf
  rw [hn, parse_dig _ hne hdg]
  by_cases hm : valOf 0 ((s.data.toList.drop i).take n) ≤ 9223372036854775807
  · rw [if_pos hm, if_pos hm]
    simp only [if_true]
    by_cases hlt : i + n < s.size
    · have hh : ((s.data.toList.drop i).drop n).head? = some s[i + n] := by rw [List.drop_drop]; exact head_at hlt
      have hnd : isDig s[i + n] = false := span_next isDig (s.data.toList.drop i) s[i + n] (s.data.toList.drop (i + n + 1)) (by rw [hn, List.drop_drop]; exact drop_at hlt)
      rw [if_pos (by omega), if_pos (by omega), bt_nat hlt, rletter_eq]
      simp only [Option.bind_some]
      rw [hh]
      simp only [Option.map_some, Option.getD_some]
      rw [show isNam s[i + n] = isLet s[i + n] from by unfold isNam; rw [hnd, Bool.or_false]]
      by_cases hl : isLet s[i + n] = true
      · rw [if_pos hl, if_pos hl]
      · rw [if_neg hl, if_neg hl, if_pos ha]; rfl
    · have hh : ((s.data.toList.drop i).drop n).head? = none := by rw [List.drop_drop]; exact head_end (by omega)
      rw [if_neg (by omega), if_pos ha, hh]
      rfl
  · rw [if_neg hm, if_neg hm]
    simp only
    rw [if_neg (by decide)]

theorem fin_nam (s : ByteArray) (hs : s.size ≤ 4000) (acc : List S37) (k i n : Nat) (hi : i < s.size) (hn : spanOf isNam (s.data.toList.drop i) = n) (hk : 60 ≤ k) (ha : acc.length < 3518437208883) :
    umlautref17_Tokens.j7 (k + 1) s acc (i : Int) ((i + n : Nat) : Int) = if 16 < n then some ([], (i : Int), 10) else if isWord (Lib.toUpperA ((s.data.toList.drop i).take n)) = true then umlautref17_Tokens.l0 k s (acc ++ [mk37 2 ⟨(Lib.toUpperA ((s.data.toList.drop i).take n)).toArray⟩ 0 i]) ((i + n : Nat) : Int)
      else umlautref17_Tokens.l0 k s (acc ++ [mk37 1 ⟨(Lib.toLowerA ((s.data.toList.drop i).take n)).toArray⟩ 0 i]) ((i + n : Nat) : Int) := by
  have hle := spanOf_le isNam (s.data.toList.drop i)
  have hls := len_size s
  rw [List.length_drop, hls, hn] at hle
  have hx := ext_run s i n
  simp only [umlautref17_Tokens.j7]
  rw [show wrap64 (((i + n : Nat) : Int) - (i : Int)) = (n : Int) from by unfold wrap64; omega]
  by_cases hb : 16 < n
  · rw [if_pos (by omega), if_pos hb]
  · rw [if_neg (by omega), if_neg hb, if_pos (by omega), if_pos (by omega), if_pos (by omega), Int.toNat_natCast, Int.toNat_natCast]
    unfold umlautref17_upper.f umlautref17_lower.f
    rw [if_pos (by rw [ByteArray.size_extract]; omega), if_pos (by rw [ByteArray.size_extract]; omega), hx]
    simp only [Option.bind_some]
    rw [rword_eq _ k hk]
    simp only [Option.bind_some]
    by_cases hw : isWord (Lib.toUpperA ((s.data.toList.drop i).take n)) = true
    · rw [if_pos hw, if_pos hw, if_pos ha]; rfl
    · rw [if_neg hw, if_neg hw, if_pos ha]; rfl

theorem step_l0 (s : ByteArray) (acc : List S37) (k i : Nat) (hlt : i < s.size) : umlautref17_Tokens.l0 (k + 1) s acc (i : Int) = umlautref17_Tokens.j1 k s acc (i : Int) (s[i].toNat : Int) (isBlank s[i]) := by
  simp only [umlautref17_Tokens.l0]
  rw [if_pos (by omega), if_pos (by omega), bt_nat hlt]
  have hbl : isBlank s[i] = (decide (s[i].toNat = 32) || decide (s[i].toNat = 9) || decide (s[i].toNat = 10) || decide (s[i].toNat = 13)) := by
    unfold isBlank
    rw [Bool.eq_iff_iff, List.contains_iff_mem]
    simp only [List.mem_cons, List.not_mem_nil, or_false, Bool.or_eq_true, decide_eq_true_eq, ← UInt8.toNat_inj]
    constructor
    · rintro (h | h | h | h) <;> simp [h]
    · rintro (((h | h) | h) | h) <;> simp [h]
  by_cases h1 : s[i].toNat = 32
  · rw [if_pos (by omega), hbl, h1]; rfl
  · rw [if_neg (by omega)]
    by_cases h2 : s[i].toNat = 9
    · rw [if_pos (by omega), hbl, h2]; rfl
    · rw [if_neg (by omega)]
      by_cases h3 : s[i].toNat = 10
      · rw [if_pos (by omega), hbl, h3]; rfl
      · rw [if_neg (by omega), hbl, decide_eq_false h1, decide_eq_false h2, decide_eq_false h3]
        congr 1
        rw [Bool.eq_iff_iff, beq_iff_eq]
        simp only [Bool.false_or, decide_eq_true_eq]
        omega
theorem step_j1 (s : ByteArray) (hs : s.size ≤ 4000) (acc : List S37) (k i : Nat) (hlt : i < s.size) : umlautref17_Tokens.j1 (k + 1) s acc (i : Int) (s[i].toNat : Int) false = umlautref17_Tokens.j2 k s acc (i : Int) (s[i].toNat : Int) (isRem (s.data.toList.drop i)) := by
  simp only [umlautref17_Tokens.j1]
  rw [if_neg (by decide), wrap_add1 _ (by omega), drop_at hlt]
  by_cases h1 : s[i].toNat = 45
  · have e1 : s[i] = 45 := UInt8.toNat_inj.mp h1
    rw [if_pos (by omega)]
    by_cases h2 : i + 1 < s.size
    · rw [if_pos (by omega), if_pos (by omega), bt_nat h2, drop_at h2]
      congr 1
      simp only [isRem]
      rw [e1, Bool.eq_iff_iff]
      simp only [beq_self_eq_true, Bool.true_and, beq_iff_eq, ← UInt8.toNat_inj]
      constructor
      · intro h; show _ = 45; omega
      · intro h; have : s[i + 1].toNat = 45 := h; omega
    · rw [if_neg (by omega), drop_end (by omega)]; rfl
  · rw [if_neg (by omega)]
    congr 1
    cases hd : s.data.toList.drop (i + 1) with
    | nil => rfl
    | cons b r =>
      simp only [isRem]
      rw [show (s[i] == (45 : UInt8)) = false from beq_eq_false_iff_ne.mpr (fun e => h1 (by rw [e]; rfl)), Bool.false_and]

theorem ref_main (s : ByteArray) (hs : s.size ≤ 4000) : ∀ (d k i : Nat) (acc : List S37), i ≤ s.size → s.size - i ≤ d → 8 * d + 9000 < k → acc.length ≤ i → umlautref17_Tokens.l0 k s acc (i : Int) = some (fromAt mk37 acc i (s.data.toList.drop i)) := by
  intro d
  induction d using Nat.strongRecOn with
  | _ d ih =>
  intro k i acc hi hd hk ha
  by_cases hlt : i < s.size
  · obtain ⟨k, rfl⟩ : ∃ m, k = m + 3 := ⟨k - 3, by omega⟩
    have hd1 := drop_at hlt
    have hls := len_size s
    rw [show k + 3 = (k + 2) + 1 by omega, step_l0 s acc (k + 2) i hlt]
    cases hb : isBlank s[i] with
    | true =>
      rw [show k + 2 = (k + 1) + 1 by omega]
      simp only [umlautref17_Tokens.j1]
      rw [if_pos True.intro, wrap_add1 _ (by omega), ih (d - 1) (by omega) (k + 1) (i + 1) acc (by omega) (by omega) (by omega) (by omega), hd1, fromAt_blank _ _ _ hb]
    | false =>
      rw [show k + 2 = (k + 1) + 1 by omega, step_j1 s hs acc (k + 1) i hlt]
      simp only [umlautref17_Tokens.j2]
      cases hr : isRem (s.data.toList.drop i) with
      | true =>
        rw [if_pos rfl]
        have hle := spanOf_le notLf (s.data.toList.drop i)
        rw [List.length_drop, hls] at hle
        have h1 : 1 ≤ spanOf notLf (s.data.toList.drop i) := by rw [hd1] at hr ⊢; exact spanOf_pos (isRem_notLf hr)
        obtain ⟨m, rfl⟩ : ∃ m, k = m + spanOf notLf (s.data.toList.drop i) + 1 := ⟨k - (spanOf notLf (s.data.toList.drop i) + 1), by omega⟩
        rw [rem_run s hs acc _ m i rfl hi]
        rw [ih (d - spanOf notLf (s.data.toList.drop i)) (by omega) m (i + spanOf notLf (s.data.toList.drop i)) acc (by omega) (by omega) (by omega) (by omega)]
        rw [← List.drop_drop]
        congr 1
        have h := fromAt_rem mk37 acc i hb (l := s.data.toList.drop (i + 1)) (by rw [← hd1]; exact hr)
        rw [← hd1] at h
        exact h.symm
      | false =>
        rw [if_neg (by decide), rdigit_eq]
        simp only [Option.bind_some]
        have hf := fromAt_tok mk37 acc i hb (l := s.data.toList.drop (i + 1)) (by rw [← hd1]; exact hr)
        have ht := tokL_cons s[i] (s.data.toList.drop (i + 1))
        rw [← hd1] at hf ht
        rw [hf]
        have go : ∀ (t : Tk) (m : Nat), tokL (s.data.toList.drop i) = some t → 8 * (d - t.len) + 9000 < m → umlautref17_Tokens.l0 m s (acc ++ [mk37 t.kind t.text t.num i]) ((i + t.len : Nat) : Int) = some (fromAt mk37 (acc ++ [mk37 t.kind t.text t.num i]) (i + t.len) ((s.data.toList.drop i).drop t.len)) := by
          intro t m h hm
          have hl := tokL_len h
          rw [List.length_drop, hls] at hl
          rw [ih (d - t.len) (by omega) m (i + t.len) _ (by omega) (by omega) hm (by rw [List.length_append]; show acc.length + 1 ≤ _; omega), List.drop_drop]
        by_cases hg : isDig s[i] = true
        · rw [if_pos hg]
          rw [let_not_dig hg, if_neg (by decide), if_pos hg] at ht
          have hle := spanOf_le isDig (s.data.toList.drop i)
          rw [List.length_drop, hls] at hle
          have h1 : 1 ≤ spanOf isDig (s.data.toList.drop i) := by rw [hd1]; exact spanOf_pos hg
          obtain ⟨m, rfl⟩ : ∃ m, k = m + 1 + spanOf isDig (s.data.toList.drop i) + 1 := ⟨k - (spanOf isDig (s.data.toList.drop i) + 2), by omega⟩
          rw [dig_run s hs acc i _ (m + 1) i rfl hi, fin_num s hs acc m i _ hlt rfl h1 (by omega) (by omega)]
          cases hq : numOf (s.data.toList.drop i) with
          | none => rw [hq] at ht; rw [ht]; rfl
          | some x =>
            rw [hq] at ht
            simp only [Option.map_some] at ht
            rw [ht]
            have hnl := numOf_len hq
            exact go _ m ht (by show 8 * (d - x.2) + 9000 < m; omega)
        · rw [if_neg hg, rletter_eq]
          simp only [Option.bind_some]
          have hg' : isDig s[i] = false := by simpa using hg
          rw [show isNam s[i] = isLet s[i] from by unfold isNam; rw [hg', Bool.or_false]]
          by_cases hl : isLet s[i] = true
          · rw [if_pos hl]
            rw [if_pos hl] at ht
            have hle := spanOf_le isNam (s.data.toList.drop i)
            rw [List.length_drop, hls] at hle
            have h1 : 1 ≤ spanOf isNam (s.data.toList.drop i) := by rw [hd1]; exact spanOf_pos (isNam_of_let hl)
            obtain ⟨m, rfl⟩ : ∃ m, k = m + 1 + spanOf isNam (s.data.toList.drop i) + 1 := ⟨k - (spanOf isNam (s.data.toList.drop i) + 2), by omega⟩
            rw [nam_run s hs acc i _ (m + 1) i rfl hi, fin_nam s hs acc m i _ hlt rfl (by omega) (by omega)]
            by_cases h16 : 16 < spanOf isNam (s.data.toList.drop i)
            · rw [if_pos h16] at ht ⊢; rw [ht]
            · rw [if_neg h16] at ht ⊢
              by_cases hw : isWord (Lib.toUpperA ((s.data.toList.drop i).take (spanOf isNam (s.data.toList.drop i)))) = true
              · rw [if_pos hw] at ht ⊢; rw [ht]; exact go _ m ht (by show 8 * (d - spanOf isNam (s.data.toList.drop i)) + 9000 < m; omega)
              · rw [if_neg hw] at ht ⊢; rw [ht]; exact go _ m ht (by show 8 * (d - spanOf isNam (s.data.toList.drop i)) + 9000 < m; omega)
          · rw [if_neg hl]
            rw [if_neg hl, if_neg hg] at ht
            by_cases hc : s[i].toNat = 39
            · rw [if_pos (by omega), rtext_eq s (by omega) k i hlt (by omega)]
              rw [if_pos hc] at ht
              simp only [Option.bind_some]
              unfold rtextAns
              cases hq : textOf (s.data.toList.drop (i + 1)) with
              | none => rw [hq] at ht; rw [ht]; rfl
              | some x =>
                rw [hq] at ht
                simp only [Option.map_some] at ht
                rw [ht]
                simp only [if_true]
                rw [if_pos (by omega)]
                have := go _ k ht (by show 8 * (d - (x.2 + 1)) + 9000 < k; omega)
                rw [show i + (x.2 + 1) = i + 1 + x.2 by omega] at this
                rw [show (⟨#[]⟩ : ByteArray) ++ ⟨x.1.toArray⟩ = ⟨x.1.toArray⟩ from by apply WideShapes.bytes_inj; rw [ByteArray.data_append]; simp]
                rw [show i + (x.2 + 1) = i + 1 + x.2 by omega]
                exact this
            · rw [if_neg (by omega), if_pos (by omega), if_pos (by omega), Int.toNat_natCast, rop_eq _ k (by omega) (by rw [ByteArray.size_extract]; omega), ext_drop]
              rw [if_neg hc] at ht
              simp only [Option.bind_some]
              have hol := opLen_le (s.data.toList.drop i)
              rw [List.length_drop, hls] at hol
              by_cases h0 : opLen (s.data.toList.drop i) = 0
              · rw [if_pos h0] at ht
                rw [ht, h0, if_pos (by rw [Lib.toList_data]; rfl)]
              · rw [if_neg h0] at ht
                have hsz : (⟨((s.data.toList.drop i).take (opLen (s.data.toList.drop i))).toArray⟩ : ByteArray).size = opLen (s.data.toList.drop i) := by
                  show ((s.data.toList.drop i).take (opLen (s.data.toList.drop i))).toArray.size = _
                  rw [List.size_toArray, List.length_take, List.length_drop, hls]; omega
                rw [if_neg (by
                  rw [Lib.toList_data]
                  intro e
                  have := congrArg List.length e
                  rw [len_size, hsz] at this
                  exact h0 this), if_pos (by omega), hsz, wrap_addn _ _ (by omega), ht]
                exact go _ k ht (by show 8 * (d - opLen (s.data.toList.drop i)) + 9000 < k; omega)
  · obtain ⟨k, rfl⟩ : ∃ m, k = m + 1 := ⟨k - 1, by omega⟩
    simp only [umlautref17_Tokens.l0]
    rw [if_neg (by omega), drop_end (by omega), fromAt_nil]

theorem ref_tokens (s : ByteArray) (k : Nat) (hk : 50000 ≤ k) : umlautref17_Tokens.f k s = some (lexL mk37 s.data.toList) := by
  unfold umlautref17_Tokens.f
  rw [lexL_from, len_size]
  by_cases hs : 4000 < s.size
  · rw [if_pos (by omega), if_pos hs]
  · rw [if_neg (by omega), if_neg hs]
    have := ref_main s (by omega) s.size k 0 [] (by omega) (by omega) (by omega) (Nat.le_refl _)
    rw [List.drop_zero] at this
    exact this
end Go.Proofs.YtobhcpfdgfkeiaaDoor.Lp

namespace Go.Proofs.YtobhcpfdgfkeiaaDoor.Lp
open Go.RowKit Go.Proofs.YtobhcpfdgfkeiaaDoorW.PrintWords Go.Proofs.YtobhcpfdgfkeiaaDoor.Ext Go.Proofs.YtobhcpfdgfkeiaaDoor.Lx Go.Proofs.YtobhcpfdgfkeiaaDoor.Lf
set_option linter.unusedVariables false

theorem lex_main (s : ByteArray) (hs : s.size ≤ 4000) : ∀ (d k n i : Nat) (acc : List S28), i ≤ s.size → s.size - i ≤ d → d + 5000 < k → acc.length ≤ i → s.size - i < n → lex_Tokens.l0 k s acc (i : Int) = some (lexF mk28 n acc i (s.data.toList.drop i)) := by
  intro d
  induction d using Nat.strongRecOn with
  | _ d ih =>
  intro k n i acc hi hd hk ha hn
  obtain ⟨k, rfl⟩ : ∃ m, k = m + 1 := ⟨k - 1, by omega⟩
  obtain ⟨n, rfl⟩ : ∃ m, n = m + 1 := ⟨n - 1, by omega⟩
  have hls := len_size s
  simp only [lex_Tokens.l0]
  by_cases hlt : i < s.size
  · rw [if_pos (by omega), if_pos (by omega), if_pos (by omega), Int.toNat_natCast, token_eq _ (by rw [ByteArray.size_extract]; omega) k (by omega) (by rw [ByteArray.size_extract]; omega), ext_drop]
    simp only [Option.bind_some]
    have hd1 := drop_at hlt
    have hf : lexF mk28 (n + 1) acc i (s.data.toList.drop i) = match tokL (s.data.toList.drop i) with
      | none => ([], (i : Int), 10)
      | some t => lexF mk28 n (acc ++ [mk28 t.kind t.text t.num i]) (i + t.len + skipL ((s.data.toList.drop i).drop t.len)) (((s.data.toList.drop i).drop t.len).drop (skipL ((s.data.toList.drop i).drop t.len))) := by
      rw [hd1]; rfl
    rw [hf]
    unfold tokAns
    cases ht : tokL (s.data.toList.drop i) with
    | none => rfl
    | some t =>
      have hl := tokL_len ht
      rw [List.length_drop, hls] at hl
      simp only
      rw [if_neg (by omega), if_pos (by omega), wrap_addn _ _ (by omega), if_pos (by omega), if_pos (by omega), Int.toNat_natCast, skip_eq _ (by rw [ByteArray.size_extract]; omega) k (by rw [ByteArray.size_extract]; omega), ext_drop]
      simp only [Option.bind_some]
      have hsk := skipL_le (s.data.toList.drop (i + t.len))
      rw [List.length_drop, hls] at hsk
      rw [List.drop_drop, wrap_addn _ _ (by omega)]
      have := ih (d - t.len) (by omega) k n (i + t.len + skipL (s.data.toList.drop (i + t.len))) (acc ++ [mk28 t.kind t.text t.num i]) (by omega) (by omega) (by omega) (by rw [List.length_append]; show acc.length + 1 ≤ _; omega) (by omega)
      rw [List.drop_drop]
      exact this
  · rw [if_neg (by omega), drop_end (by omega)]; rfl
theorem lex_tokens (s : ByteArray) (k : Nat) (hk : 10000 ≤ k) : lex_Tokens.f k s = some (lexL mk28 s.data.toList) := by
  unfold lex_Tokens.f lexL
  rw [len_size]
  by_cases hs : 4000 < s.size
  · rw [if_pos (by omega), if_pos hs]
  · rw [if_neg (by omega), if_neg hs, skip_eq s (by omega) k (by omega)]
    simp only [Option.bind_some]
    have hsk := skipL_le s.data.toList
    rw [len_size] at hsk
    exact lex_main s (by omega) s.size k (s.size + 1) _ [] (by omega) (by omega) (by omega) (Nat.zero_le _) (by omega)
end Go.Proofs.YtobhcpfdgfkeiaaDoor.Lp

namespace Go.Proofs.YtobhcpfdgfkeiaaDoor.Lp
open Go.RowKit Go.Proofs.YtobhcpfdgfkeiaaDoorW.PrintWords Go.Proofs.YtobhcpfdgfkeiaaDoor.Ext Go.Proofs.YtobhcpfdgfkeiaaDoor.Lx Go.Proofs.YtobhcpfdgfkeiaaDoor.Lf
set_option linter.unusedVariables false

abbrev Tup := Int × ByteArray × Int × Int
def mkT (a : Int) (b : ByteArray) (c d : Int) : Tup := (a, b, c, d)
def t28 (q : Tup) : S28 := ⟨q.1, q.2.1, q.2.2.1, q.2.2.2⟩
def t37 (q : Tup) : S37 := ⟨q.1, q.2.1, q.2.2.1, q.2.2.2⟩
theorem lexF_map {T : Type} (mk : Int → ByteArray → Int → Int → T) (f : Tup → T) (hf : ∀ a b c d, mk a b c d = f (mkT a b c d)) : ∀ (n : Nat) (acc : List Tup) (i : Nat) (l : Bytes), lexF mk n (acc.map f) i l = ((lexF mkT n acc i l).1.map f, (lexF mkT n acc i l).2)
  | 0, _, _, _ => rfl
  | n + 1, acc, i, [] => rfl
  | n + 1, acc, i, c :: l => by
    simp only [lexF]
    cases ht : tokL (c :: l) with
    | none => rfl
    | some t =>
      simp only
      rw [← lexF_map mk f hf n, List.map_append, hf]; rfl
theorem lexL_28 (l : Bytes) : lexL mk28 l = ((lexL mkT l).1.map t28, (lexL mkT l).2) := by
  unfold lexL
  split
  · rfl
  · exact lexF_map mk28 t28 (fun _ _ _ _ => rfl) _ [] _ _
theorem lexL_37 (l : Bytes) : lexL mk37 l = ((lexL mkT l).1.map t37, (lexL mkT l).2) := by
  unfold lexL
  split
  · rfl
  · exact lexF_map mk37 t37 (fun _ _ _ _ => rfl) _ [] _ _
theorem lexF_len {T : Type} (mk : Int → ByteArray → Int → Int → T) : ∀ (n : Nat) (acc : List T) (i : Nat) (l : Bytes), (lexF mk n acc i l).1.length ≤ acc.length + l.length
  | 0, _, _, _ => Nat.zero_le _
  | n + 1, acc, i, [] => Nat.le_add_right _ _
  | n + 1, acc, i, c :: l => by
    simp only [lexF]
    cases ht : tokL (c :: l) with
    | none => exact Nat.zero_le _
    | some t =>
      have := tokL_len ht
      have h := lexF_len mk n (acc ++ [mk t.kind t.text t.num i]) (i + t.len + skipL ((c :: l).drop t.len)) (((c :: l).drop t.len).drop (skipL ((c :: l).drop t.len)))
      rw [List.length_append, List.length_drop, List.length_drop] at h
      simp only [List.length_cons, List.length_nil] at h this ⊢
      omega
theorem lexL_len {T : Type} (mk : Int → ByteArray → Int → Int → T) (l : Bytes) : (lexL mk l).1.length ≤ 4000 := by
  unfold lexL
  split
  · exact Nat.zero_le _
  · have h := lexF_len mk (l.length + 1) [] (skipL l) (l.drop (skipL l))
    rw [List.length_drop, List.length_nil] at h
    omega
theorem rd28 (L : List Tup) (j : Nat) (h : j < L.length) : rd_T28 (L.map t28) (j : Int) = t28 L[j] := by
  unfold rd_T28
  rw [Int.toNat_natCast, List.getD_eq_getElem?_getD, List.getElem?_eq_getElem (by rw [List.length_map]; exact h), List.getElem_map]; rfl
theorem rd37 (L : List Tup) (j : Nat) (h : j < L.length) : rd_T37 (L.map t37) (j : Int) = t37 L[j] := by
  unfold rd_T37
  rw [Int.toNat_natCast, List.getD_eq_getElem?_getD, List.getElem?_eq_getElem (by rw [List.length_map]; exact h), List.getElem_map]; rfl

theorem lex_tok (s : ByteArray) (k : Nat) (hk : 10000 ≤ k) : lex_Tokens.f k s = some ((lexL mkT s.data.toList).1.map t28, (lexL mkT s.data.toList).2) := by
  rw [lex_tokens s k hk, lexL_28]
theorem ref_tok (s : ByteArray) (k : Nat) (hk : 50000 ≤ k) : umlautref17_Tokens.f k s = some ((lexL mkT s.data.toList).1.map t37, (lexL mkT s.data.toList).2) := by
  rw [ref_tokens s k hk, lexL_37]
def sel : Bytes := [83, 69, 76, 69, 67, 84]
theorem wake0 : lexL mkT [97, 60, 61, 49] = ([(1, ⟨#[97]⟩, 0, 0), (5, ⟨#[60, 61]⟩, 0, 1), (3, ⟨#[]⟩, 1, 3)], 0, 0) := by rfl
theorem wake1 : lexL mkT [83, 69, 76, 69, 67, 84] = ([(2, ⟨#[83, 69, 76, 69, 67, 84]⟩, 0, 0)], 0, 0) := by rfl
theorem wake2 : lexL mkT [97, 49] = ([(1, ⟨#[97, 49]⟩, 0, 0)], 0, 0) := by rfl
theorem awake_eq (k : Nat) (hk : 10000 ≤ k) : umlautlaw17_awake.f k = some true := by
  unfold umlautlaw17_awake.f lex_Word.f lex_Name.f lex_only.f
  rw [lex_tok _ k hk, lex_tok _ k hk, lex_tok _ k hk]
  rw [show (⟨#[97, 60, 61, 49]⟩ : ByteArray).data.toList = [97, 60, 61, 49] from rfl, wake0]
  rw [show (⟨#[83, 69, 76, 69, 67, 84]⟩ : ByteArray).data.toList = [83, 69, 76, 69, 67, 84] from rfl, wake1]
  rw [show (⟨#[97, 49]⟩ : ByteArray).data.toList = [97, 49] from rfl, wake2]
  simp only [Option.bind_some, Lib.toList_data]
  decide +kernel
end Go.Proofs.YtobhcpfdgfkeiaaDoor.Lp

namespace Go.Proofs.YtobhcpfdgfkeiaaDoor.Lx
open Go.RowKit Go.Proofs.YtobhcpfdgfkeiaaDoorW.PrintWords Go.Proofs.YtobhcpfdgfkeiaaDoorW.PrintLast Go.Proofs.YtobhcpfdgfkeiaaDoorW.PrintMore Go.Proofs.YtobhcpfdgfkeiaaDoor.Lf Go.Proofs.YtobhcpfdgfkeiaaDoor.Ext
attribute [local go_sem] max2_int min2_int max_two min_two max_three min_three max_four min_four   -- for this text's walks alone
set_option linter.unusedVariables false
set_option linter.unusedSimpArgs false

set_option maxHeartbeats 8000000 in
set_option maxRecDepth 100000 in
theorem umlautref17_Tokens.calls (k : Nat) (a0 : ByteArray) (r1 : List (S37)) (r2 : Int) (r3 : Int) (w : World) (h : umlautref17_Tokens.f k a0 = some (r1, r2, r3)) :
    Calls Tryd.prog 11 #[.string a0] w fun e w' => ∃ v0_ : Value, e = .returned (.agg #[v0_, .int .i64 r2, .int .i64 r3]) ∧ Kd.R k37 37 w' w.heap.size (fun _ => True) v0_ r1 ∧ Below w.heap.size w w' := by
  have hu35 := Tryd.underlying35
  have hu37 := Tryd.underlying37
  have HB := Aside0.mk (Below.refl w.heap.size w)
  have H : (if (a0.size : Int) > 4000 then (some (([] : List (S37)), 0, 2)) else (umlautref17_Tokens.l0 k a0 ([] : List (S37)) 0)) = some (r1, r2, r3) := h
  clear h
  by_cases c2 : (a0.size : Int) > 4000
  · rw [if_pos c2] at H
    have c2b0 : decide (4000 < (a0.size : Int)) = true := decide_eq_true c2
    have c2b1 : decide (4000 < a0.size) = true := decide_eq_true (by omega)
    clear c2
    simp only [Option.some.injEq, Prod.mk.injEq] at H
    obtain ⟨rfl, rfl, rfl⟩ := H
    go_enter Tryd.func11, Tryd.ntmps11
    as_aux_lemma =>
     go_wp2_with (first | ((with_reducible refine gate_dst (N := 2) rfl ?_); (try (refine gate_guard (by rfl) ?_; dsimp only)); refine box_event ?hg (N := 2) ?hd (cs := #[.slice none 0 0, .int .i64 0, .int .i64 0]) (t := 35) ?hr ?_; (case hd => rfl); (case hg => rfl); (case hr => first | (go_simp; done) | (go_simp; rfl)); intro gb194 hg w3 hbox hb; have n0_ := Aside0.mk (below_step (by repeat (first | (with_reducible first | exact HB.out | apply below_alloc | apply pw_below_drewN | apply below_drew1) | exact HB.out)) hb); have n1_ := Aside0.mk (hbox); have n2_ := Aside0.mk ((by rw [hg]; exact (below_size (by repeat (first | (with_reducible first | exact HB.out | apply below_alloc | apply pw_below_drewN | apply below_drew1) | exact HB.out))) : w.heap.size ≤ gb194)); have n3_ := Aside0.mk ((by rw [hg]; exact (below_size (by repeat (first | (with_reducible first | exact HB.out | apply below_alloc | apply pw_below_drewN | apply below_drew1) | exact HB.out))) : w.heap.size ≤ gb194)); clear HB; have HB := n0_; have BK194 := n1_; have GW194 := n2_; have GE194 := n3_; clear n0_ n1_ n2_ n3_; clear hb hbox hg; have hcz4_0 : w3.cell? ⟨gb194, 0, none⟩ = some (.slice none 0 0) := (blk_cell BK194.out 0).trans rfl; have hcz4_1 : w3.cell? ⟨gb194, 1, none⟩ = some (.int .i64 0) := (blk_cell BK194.out 1).trans rfl; have hcz4_2 : w3.cell? ⟨gb194, 2, none⟩ = some (.int .i64 0) := (blk_cell BK194.out 2).trans rfl; have hfz4_0 := blk_frozen BK194.out 0; have hfz4_1 := blk_frozen BK194.out 1; have hfz4_2 := blk_frozen BK194.out 2))
     refine bodyPost_ret (results_cell_row rfl _ _ gb194 35 #[.slice none 0 0, .int .i64 0, .int .i64 2] (0, 0) _ rfl (by (with_reducible repeat (first | refine blk_drewN ?_ _ | refine blk_drew ?_ | refine blk_alloc ?_ _)); refine blk_put (cs := #[.slice none 0 0, .int .i64 0, .int .i64 0]) ?_ 2 _ rfl; (with_reducible repeat (first | refine blk_drewN ?_ _ | refine blk_drew ?_ | refine blk_alloc ?_ _)); refine blk_put (cs := #[.slice none 0 0, .int .i64 0, .int .i64 0]) ?_ 1 _ rfl; (with_reducible repeat (first | refine blk_drewN ?_ _ | refine blk_drew ?_ | refine blk_alloc ?_ _)); refine blk_put (cs := #[.slice none 0 0, .int .i64 0, .int .i64 0]) ?_ 0 _ rfl; (with_reducible repeat (first | refine blk_drewN ?_ _ | refine blk_drew ?_ | refine blk_alloc ?_ _)); exact BK194.out) Tryd.underlying35 rfl (by kernel_rfl)) rfl ?_
     exact ⟨_, by first | rfl | (simp [errW_none, errW_some] <;> rfl) | (simp [*, errW_none, errW_some] <;> rfl), by first | exact Kd.R_nil _ _ _ _ _ | exact Kd.N_nil _ _ _ _ _ | exact Kd.V_nil _ _ _ _ _ | exact Kd.Q_nil _ _ _ _ _ | exact Kd.S_nil _ _ _ _ _, by repeat (first | (with_reducible first | exact HB.out | apply below_alloc | apply pw_below_drewN | apply below_drew1 | refine below_set ?_ GE194.out) | exact HB.out)⟩
  · rw [if_neg c2] at H
    have c2b0 : decide (4000 < (a0.size : Int)) = false := decide_eq_false c2
    have c2b1 : decide (4000 < a0.size) = false := decide_eq_false (by omega)
    clear c2
    have H' := Aside0.mk H
    clear H
    go_enter Tryd.func11, Tryd.ntmps11
    as_aux_lemma =>
     go_wp2_with (first | ((with_reducible refine gate_dst (N := 2) rfl ?_); (try (refine gate_guard (by rfl) ?_; dsimp only)); refine box_event ?hg (N := 2) ?hd (cs := #[.slice none 0 0, .int .i64 0, .int .i64 0]) (t := 35) ?hr ?_; (case hd => rfl); (case hg => rfl); (case hr => first | (go_simp; done) | (go_simp; rfl)); intro gb194 hg w5 hbox hb; have n0_ := Aside0.mk (below_step (by repeat (first | (with_reducible first | exact HB.out | apply below_alloc | apply pw_below_drewN | apply below_drew1) | exact HB.out)) hb); have n1_ := Aside0.mk (hbox); have n2_ := Aside0.mk ((by rw [hg]; exact (below_size (by repeat (first | (with_reducible first | exact HB.out | apply below_alloc | apply pw_below_drewN | apply below_drew1) | exact HB.out))) : w.heap.size ≤ gb194)); have n3_ := Aside0.mk ((by rw [hg]; exact (below_size (by repeat (first | (with_reducible first | exact HB.out | apply below_alloc | apply pw_below_drewN | apply below_drew1) | exact HB.out))) : w.heap.size ≤ gb194)); clear HB; have HB := n0_; have BK194 := n1_; have GW194 := n2_; have GE194 := n3_; clear n0_ n1_ n2_ n3_; clear hb hbox hg))
     go_loopg [3, 4] k (fun kq v3 v4 w' => ∃ (x3_1 : List (S37)) (x4_1 : Int) (x195001_1 : Int) (x195002_1 : Int), v4 = .int .i64 x4_1 ∧ Aside0 (umlautref17_Tokens.l0 kq a0 x3_1 x4_1 = some (r1, r2, r3)) ∧ Aside0 (kq ≤ k) ∧ Aside0 (Kd.R k37 37 w' w.heap.size (fun _ => True) v3 x3_1) ∧ Aside0 (w'.heap[gb194]? = some (.cells #[(.slice none 0 0), .int .i64 x195001_1, .int .i64 x195002_1] 35 (0, 0))) ∧ Aside0 (Below w.heap.size w w'))
     case atStart => exact ⟨(([] : List (S37))), (0), (0), (0), (by first | rfl | (simp; done) | (simp [*]; done)), H', ⟨Nat.le_refl _⟩, ⟨by first | exact Kd.R_nil _ _ _ _ _ | exact Kd.N_nil _ _ _ _ _ | exact Kd.V_nil _ _ _ _ _ | exact Kd.Q_nil _ _ _ _ _ | exact Kd.S_nil _ _ _ _ _⟩, ⟨by (with_reducible repeat (first | refine blk_drewN ?_ _ | refine blk_drew ?_ | refine blk_alloc ?_ _)); exact BK194.out⟩, ⟨by repeat (first | (with_reducible first | exact HB.out | apply below_alloc | apply pw_below_drewN | apply below_drew1 | refine below_set ?_ GE194.out) | exact HB.out)⟩⟩
     case round =>
       clear H'
       try clear c1
       try clear c2
       try clear c2b0
       try clear c2b1
       try clear p2
       try clear hcz4_0
       try clear hcz4_1
       try clear hcz4_2
       try clear hfz4_0
       try clear hfz4_1
       try clear hfz4_2
       obtain ⟨x3_1, x4_1, x195001_1, x195002_1, rfl, HA, HK1, HO_3, BK194, HB⟩ := hrel
       cases gk with
       | zero => exact absurd HA.out (by simp [umlautref17_Tokens.l0])
       | succ k1 =>
         have H := HA.out
         clear HA
         simp only [umlautref17_Tokens.l0] at H
         by_cases c6 : x4_1 < (a0.size : Int)
         · rw [if_pos c6] at H
           have c6b0 : decide (x4_1 < (a0.size : Int)) = true := decide_eq_true c6
           clear c6
           by_cases c7 : 0 ≤ x4_1
           · rw [if_pos c7] at H
             have c7b0 : decide (0 ≤ x4_1) = true := decide_eq_true c7
             clear c7
             have HC9 := Aside0.mk H
             clear H
             have p8 : 0 ≤ (x4_1 : Int) := of_decide_eq_true (by first | (with_reducible assumption) | assumption)
             have q8 : x4_1 < (a0.size : Int) := of_decide_eq_true (by first | (with_reducible assumption) | assumption)
             have hx8 := bt_at a0 x4_1
             replace p8 := eq_true p8
             replace q8 := eq_true q8
             as_aux_lemma =>
              go_upto_region 7 with (fail)
              go_cut [38] (fun v38 wc => ∃ (kq : Nat) (x38_8 : Bool), v38 = .bool x38_8 ∧ Aside0 (umlautref17_Tokens.j1 kq a0 x3_1 x4_1 (bt a0 x4_1) x38_8 = some (r1, r2, r3)) ∧ Aside0 (kq ≤ k1) ∧ Aside0 (Kd.R k37 37 wc w.heap.size (fun _ => True) u3 x3_1) ∧ Aside0 (wc.heap[gb194]? = some (.cells #[(.slice none 0 0), .int .i64 x195001_1, .int .i64 x195002_1] 35 (0, 0))) ∧ Aside0 (Below w.heap.size w wc))
              case first =>
                have H := HC9.out
                clear HC9
                by_cases c10 : (bt a0 x4_1) = 32
                · rw [if_pos c10] at H
                  have c10b0 : ((bt a0 x4_1) == 32) = true := beq_iff_eq.mpr c10
                  have c10b1 : ((bt a0 x4_1) != 32) = false := bne_eq_false_iff_eq.mpr c10
                  clear c10
                  (first | rw [c10b0] | (simp only [i64_w, i32_w]; rw [c10b0]) | skip)
                  have H' := Aside0.mk H
                  clear H
                  as_aux_lemma =>
                   go_wp2
                   go_meet
                   case rel => exact ⟨_, (true), (by first | rfl | (simp; done) | (simp [*]; done)), H', ⟨by have := HK1.out; first | omega | exact Nat.le_refl _⟩, ⟨by (with_reducible repeat (first | apply Kd.R_alloc | apply Kd.R_drewN | apply Kd.R_drew)); exact HO_3.out⟩, ⟨by (with_reducible repeat (first | refine blk_drewN ?_ _ | refine blk_drew ?_ | refine blk_alloc ?_ _)); exact BK194.out⟩, ⟨by repeat (first | (with_reducible first | exact HB.out | apply below_alloc | apply pw_below_drewN | apply below_drew1 | refine below_set ?_ GE194.out) | exact HB.out)⟩⟩
                · rw [if_neg c10] at H
                  have c10b0 : ((bt a0 x4_1) == 32) = false := beq_eq_false_iff_ne.mpr c10
                  have c10b1 : ((bt a0 x4_1) != 32) = true := bne_iff_ne.mpr c10
                  (first | rw [c10b0] | (simp only [i64_w, i32_w]; rw [c10b0]) | skip)
                  by_cases c11 : (bt a0 x4_1) = 9
                  · rw [if_pos c11] at H
                    have c11b0 : ((bt a0 x4_1) == 9) = true := beq_iff_eq.mpr c11
                    have c11b1 : ((bt a0 x4_1) != 9) = false := bne_eq_false_iff_eq.mpr c11
                    clear c11
                    have H' := Aside0.mk H
                    clear H
                    as_aux_lemma =>
                     go_wp2
                     go_meet
                     case rel => exact ⟨_, (true), (by first | rfl | (simp; done) | (simp [*]; done)), H', ⟨by have := HK1.out; first | omega | exact Nat.le_refl _⟩, ⟨by (with_reducible repeat (first | apply Kd.R_alloc | apply Kd.R_drewN | apply Kd.R_drew)); exact HO_3.out⟩, ⟨by (with_reducible repeat (first | refine blk_drewN ?_ _ | refine blk_drew ?_ | refine blk_alloc ?_ _)); exact BK194.out⟩, ⟨by repeat (first | (with_reducible first | exact HB.out | apply below_alloc | apply pw_below_drewN | apply below_drew1 | refine below_set ?_ GE194.out) | exact HB.out)⟩⟩
                  · rw [if_neg c11] at H
                    have c11b0 : ((bt a0 x4_1) == 9) = false := beq_eq_false_iff_ne.mpr c11
                    have c11b1 : ((bt a0 x4_1) != 9) = true := bne_iff_ne.mpr c11
                    by_cases c12 : (bt a0 x4_1) = 10
                    · rw [if_pos c12] at H
                      have c12b0 : ((bt a0 x4_1) == 10) = true := beq_iff_eq.mpr c12
                      have c12b1 : ((bt a0 x4_1) != 10) = false := bne_eq_false_iff_eq.mpr c12
                      clear c12
                      have H' := Aside0.mk H
                      clear H
                      as_aux_lemma =>
                       go_wp2
                       go_meet
                       case rel => exact ⟨_, (true), (by first | rfl | (simp; done) | (simp [*]; done)), H', ⟨by have := HK1.out; first | omega | exact Nat.le_refl _⟩, ⟨by (with_reducible repeat (first | apply Kd.R_alloc | apply Kd.R_drewN | apply Kd.R_drew)); exact HO_3.out⟩, ⟨by (with_reducible repeat (first | refine blk_drewN ?_ _ | refine blk_drew ?_ | refine blk_alloc ?_ _)); exact BK194.out⟩, ⟨by repeat (first | (with_reducible first | exact HB.out | apply below_alloc | apply pw_below_drewN | apply below_drew1 | refine below_set ?_ GE194.out) | exact HB.out)⟩⟩
                    · rw [if_neg c12] at H
                      have c12b0 : ((bt a0 x4_1) == 10) = false := beq_eq_false_iff_ne.mpr c12
                      have c12b1 : ((bt a0 x4_1) != 10) = true := bne_iff_ne.mpr c12
                      have H' := Aside0.mk H
                      clear H
                      as_aux_lemma =>
                       go_wp2
                       go_meet
                       case rel => exact ⟨_, (((bt a0 x4_1) == 13)), (by first | rfl | (simp; done) | (simp [*]; done)), H', ⟨by have := HK1.out; first | omega | exact Nat.le_refl _⟩, ⟨by (with_reducible repeat (first | apply Kd.R_alloc | apply Kd.R_drewN | apply Kd.R_drew)); exact HO_3.out⟩, ⟨by (with_reducible repeat (first | refine blk_drewN ?_ _ | refine blk_drew ?_ | refine blk_alloc ?_ _)); exact BK194.out⟩, ⟨by repeat (first | (with_reducible first | exact HB.out | apply below_alloc | apply pw_below_drewN | apply below_drew1 | refine below_set ?_ GE194.out) | exact HB.out)⟩⟩
              case rest =>
                clear HC9
                try clear c1
                try clear c2
                try clear c2b0
                try clear c2b1
                try clear p2
                try clear c6
                try clear c6b0
                try clear c7
                try clear c7b0
                try clear p8
                try clear q8
                try clear hx8
                try clear c10
                try clear c10b0
                try clear c10b1
                try clear c11
                try clear c11b0
                try clear c11b1
                try clear c12
                try clear c12b0
                try clear c12b1
                try clear hcz4_0
                try clear hcz4_1
                try clear hcz4_2
                try clear hfz4_0
                try clear hfz4_1
                try clear hfz4_2
                try clear p2
                try clear p8
                try clear q8
                obtain ⟨kq, x38_8, rfl, HA, HJ8, HO_3, BK194, HB⟩ := hcut
                cases kq with
                | zero => exact absurd HA.out (by simp [umlautref17_Tokens.j1])
                | succ kj8 =>
                  have H := HA.out
                  clear HA
                  simp only [umlautref17_Tokens.j1] at H
                  by_cases c13 : x38_8 = true
                  · subst c13
                    have H1 : (umlautref17_Tokens.l0 kj8 a0 x3_1 (wrap64 (x4_1 + 1))) = some (r1, r2, r3) := by rw [if_pos rfl] at H; exact H
                    clear H
                    have H := H1
                    clear H1
                    have H' := Aside0.mk H
                    clear H
                    as_aux_lemma =>
                     go_wp2
                     go_roundg kj8
                     case measure => have := HK1.out; have := HJ8.out; omega
                     case rel => exact ⟨(x3_1), (wrap64 (x4_1 + 1)), (x195001_1), (x195002_1), (by first | rfl | (simp; done) | (simp [*]; done)), H', ⟨by have := HK1.out; have := HJ8.out; omega⟩, ⟨by (with_reducible repeat (first | apply Kd.R_alloc | apply Kd.R_drewN | apply Kd.R_drew)); exact HO_3.out⟩, ⟨by (with_reducible repeat (first | refine blk_drewN ?_ _ | refine blk_drew ?_ | refine blk_alloc ?_ _)); exact BK194.out⟩, ⟨by repeat (first | (with_reducible first | exact HB.out | apply below_alloc | apply pw_below_drewN | apply below_drew1 | refine below_set ?_ GE194.out) | exact HB.out)⟩⟩
                  · replace c13 := Bool.eq_false_iff.mpr c13
                    subst c13
                    have H1 : (if (bt a0 x4_1) = 45 then (if (wrap64 (x4_1 + 1)) < (a0.size : Int) then (if 0 ≤ (wrap64 (x4_1 + 1)) then (umlautref17_Tokens.j2 kj8 a0 x3_1 x4_1 (bt a0 x4_1) ((bt a0 (wrap64 (x4_1 + 1))) == 45)) else (none)) else (umlautref17_Tokens.j2 kj8 a0 x3_1 x4_1 (bt a0 x4_1) false)) else (umlautref17_Tokens.j2 kj8 a0 x3_1 x4_1 (bt a0 x4_1) false)) = some (r1, r2, r3) := by rw [if_neg (show ¬ (false = true) by decide)] at H; exact H
                    clear H
                    have H := H1
                    clear H1
                    have HC14 := Aside0.mk H
                    clear H
                    as_aux_lemma =>
                     go_upto_region 9 with (fail)
                     go_cut [56] (fun v56 wc => ∃ (kq : Nat) (x56_13 : Bool), v56 = .bool x56_13 ∧ Aside0 (umlautref17_Tokens.j2 kq a0 x3_1 x4_1 (bt a0 x4_1) x56_13 = some (r1, r2, r3)) ∧ Aside0 (kq ≤ kj8) ∧ Aside0 (Kd.R k37 37 wc w.heap.size (fun _ => True) u3 x3_1) ∧ Aside0 (wc.heap[gb194]? = some (.cells #[(.slice none 0 0), .int .i64 x195001_1, .int .i64 x195002_1] 35 (0, 0))) ∧ Aside0 (Below w.heap.size w wc))
                     case first =>
                       have H := HC14.out
                       clear HC14
                       by_cases c15 : (bt a0 x4_1) = 45
                       · rw [if_pos c15] at H
                         have c15b0 : ((bt a0 x4_1) == 45) = true := beq_iff_eq.mpr c15
                         have c15b1 : ((bt a0 x4_1) != 45) = false := bne_eq_false_iff_eq.mpr c15
                         clear c15
                         (first | rw [c15b0] | (simp only [i64_w, i32_w]; rw [c15b0]) | skip)
                         by_cases c16 : (wrap64 (x4_1 + 1)) < (a0.size : Int)
                         · rw [if_pos c16] at H
                           have c16b0 : decide ((wrap64 (x4_1 + 1)) < (a0.size : Int)) = true := decide_eq_true c16
                           clear c16
                           obtain ⟨ji17, hji17⟩ : ∃ j_ : Int, (wrap64 (x4_1 + 1)) = j_ := ⟨_, rfl⟩
                           replace H : (if 0 ≤ (ji17) then (umlautref17_Tokens.j2 kj8 a0 x3_1 x4_1 (bt a0 x4_1) ((bt a0 (ji17)) == 45)) else (none)) = some (r1, r2, r3) := by first | (rw [hji17] at H; exact H) | (simp only [hji17] at H ⊢; exact H)
                           (try rw [hji17] at c16b0)
                           have hji17w : (IntKind.i64.wrap (x4_1 + 1)) = ji17 := (i64_w _).trans hji17
                           by_cases c18 : 0 ≤ (ji17)
                           · rw [if_pos c18] at H
                             have c18b0 : decide (0 ≤ (ji17)) = true := decide_eq_true c18
                             clear c18
                             have H' := Aside0.mk H
                             clear H
                             have p19 : 0 ≤ ((ji17) : Int) := of_decide_eq_true (by first | (with_reducible assumption) | assumption)
                             have q19 : (ji17) < (a0.size : Int) := of_decide_eq_true (by first | (with_reducible assumption) | assumption)
                             have hx19 := bt_at a0 (ji17)
                             replace p19 := eq_true p19
                             replace q19 := eq_true q19
                             as_aux_lemma =>
                              go_wp2
                              go_meet
                              case rel => exact ⟨_, (((bt a0 (ji17)) == 45)), (by first | rfl | (simp; done) | (simp only [← hji17] <;> (first | rfl | simp)) | (simp [*]; done)), H', ⟨by have := HK1.out; have := HJ8.out; first | omega | exact Nat.le_refl _⟩, ⟨by (with_reducible repeat (first | apply Kd.R_alloc | apply Kd.R_drewN | apply Kd.R_drew)); exact HO_3.out⟩, ⟨by (with_reducible repeat (first | refine blk_drewN ?_ _ | refine blk_drew ?_ | refine blk_alloc ?_ _)); exact BK194.out⟩, ⟨by repeat (first | (with_reducible first | exact HB.out | apply below_alloc | apply pw_below_drewN | apply below_drew1 | refine below_set ?_ GE194.out) | exact HB.out)⟩⟩
                           · rw [if_neg c18] at H
                             exact absurd H (by simp)
                         · rw [if_neg c16] at H
                           have c16b0 : decide ((wrap64 (x4_1 + 1)) < (a0.size : Int)) = false := decide_eq_false c16
                           clear c16
                           have H' := Aside0.mk H
                           clear H
                           as_aux_lemma =>
                            go_wp2
                            go_meet
                            case rel => exact ⟨_, (false), (by first | rfl | (simp; done) | (simp [*]; done)), H', ⟨by have := HK1.out; have := HJ8.out; first | omega | exact Nat.le_refl _⟩, ⟨by (with_reducible repeat (first | apply Kd.R_alloc | apply Kd.R_drewN | apply Kd.R_drew)); exact HO_3.out⟩, ⟨by (with_reducible repeat (first | refine blk_drewN ?_ _ | refine blk_drew ?_ | refine blk_alloc ?_ _)); exact BK194.out⟩, ⟨by repeat (first | (with_reducible first | exact HB.out | apply below_alloc | apply pw_below_drewN | apply below_drew1 | refine below_set ?_ GE194.out) | exact HB.out)⟩⟩
                       · rw [if_neg c15] at H
                         have c15b0 : ((bt a0 x4_1) == 45) = false := beq_eq_false_iff_ne.mpr c15
                         have c15b1 : ((bt a0 x4_1) != 45) = true := bne_iff_ne.mpr c15
                         (first | rw [c15b0] | (simp only [i64_w, i32_w]; rw [c15b0]) | skip)
                         have H' := Aside0.mk H
                         clear H
                         as_aux_lemma =>
                          go_wp2
                          go_meet
                          case rel => exact ⟨_, (false), (by first | rfl | (simp; done) | (simp [*]; done)), H', ⟨by have := HK1.out; have := HJ8.out; first | omega | exact Nat.le_refl _⟩, ⟨by (with_reducible repeat (first | apply Kd.R_alloc | apply Kd.R_drewN | apply Kd.R_drew)); exact HO_3.out⟩, ⟨by (with_reducible repeat (first | refine blk_drewN ?_ _ | refine blk_drew ?_ | refine blk_alloc ?_ _)); exact BK194.out⟩, ⟨by repeat (first | (with_reducible first | exact HB.out | apply below_alloc | apply pw_below_drewN | apply below_drew1 | refine below_set ?_ GE194.out) | exact HB.out)⟩⟩
                     case rest =>
                       clear HC14
                       try clear c1
                       try clear p1
                       try clear q1
                       try clear hx1
                       try clear c2
                       try clear c2b0
                       try clear c2b1
                       try clear p2
                       try clear c6
                       try clear c6b0
                       try clear p6
                       try clear c7
                       try clear c7b0
                       try clear p8
                       try clear q8
                       try clear hx8
                       try clear c10
                       try clear c10b0
                       try clear c10b1
                       try clear c11
                       try clear c11b0
                       try clear c11b1
                       try clear c12
                       try clear c12b0
                       try clear c12b1
                       try clear c13
                       try clear c15
                       try clear c15b0
                       try clear c15b1
                       try clear c16
                       try clear c16b0
                       try clear c18
                       try clear c18b0
                       try clear p19
                       try clear q19
                       try clear hx19
                       try clear hcz4_0
                       try clear hcz4_1
                       try clear hcz4_2
                       try clear hfz4_0
                       try clear hfz4_1
                       try clear hfz4_2
                       try clear p19
                       try clear p2
                       try clear p8
                       try clear q19
                       try clear q8
                       obtain ⟨kq, x56_13, rfl, HA, HJ13, HO_3, BK194, HB⟩ := hcut
                       cases kq with
                       | zero => exact absurd HA.out (by simp [umlautref17_Tokens.j2])
                       | succ kj13 =>
                         have H := HA.out
                         clear HA
                         simp only [umlautref17_Tokens.j2] at H
                         by_cases c20 : x56_13 = true
                         · subst c20
                           have H1 : (umlautref17_Tokens.l1 kj13 a0 x3_1 x4_1) = some (r1, r2, r3) := by rw [if_pos rfl] at H; exact H
                           clear H
                           have H := H1
                           clear H1
                           have H' := Aside0.mk H
                           clear H
                           as_aux_lemma =>
                            go_wp2
                            go_loopg [4] kj13 (fun kq v4 w' => ∃ (x4_4 : Int), v4 = .int .i64 x4_4 ∧ Aside0 (umlautref17_Tokens.l1 kq a0 x3_1 x4_4 = some (r1, r2, r3)) ∧ Aside0 (kq ≤ kj13) ∧ Aside0 (Kd.R k37 37 w' w.heap.size (fun _ => True) u3 x3_1) ∧ Aside0 (w'.heap[gb194]? = some (.cells #[(.slice none 0 0), .int .i64 x195001_1, .int .i64 x195002_1] 35 (0, 0))) ∧ Aside0 (Below w.heap.size w w'))
                            case atStart => exact ⟨(x4_1), (by first | rfl | (simp; done) | (simp [*]; done)), H', ⟨Nat.le_refl _⟩, ⟨by (with_reducible repeat (first | apply Kd.R_alloc | apply Kd.R_drewN | apply Kd.R_drew)); exact HO_3.out⟩, ⟨by (with_reducible repeat (first | refine blk_drewN ?_ _ | refine blk_drew ?_ | refine blk_alloc ?_ _)); exact BK194.out⟩, ⟨by repeat (first | (with_reducible first | exact HB.out | apply below_alloc | apply pw_below_drewN | apply below_drew1 | refine below_set ?_ GE194.out) | exact HB.out)⟩⟩
                            case round =>
                              clear H'
                              try clear c1
                              try clear p1
                              try clear q1
                              try clear hx1
                              try clear c2
                              try clear c2b0
                              try clear c2b1
                              try clear p2
                              try clear c6
                              try clear c6b0
                              try clear p6
                              try clear c7
                              try clear c7b0
                              try clear p8
                              try clear q8
                              try clear hx8
                              try clear c10
                              try clear c10b0
                              try clear c10b1
                              try clear c11
                              try clear c11b0
                              try clear c11b1
                              try clear c12
                              try clear c12b0
                              try clear c12b1
                              try clear c13
                              try clear c15
                              try clear c15b0
                              try clear c15b1
                              try clear c16
                              try clear c16b0
                              try clear c18
                              try clear c18b0
                              try clear p19
                              try clear q19
                              try clear hx19
                              try clear c20
                              try clear hcz4_0
                              try clear hcz4_1
                              try clear hcz4_2
                              try clear hfz4_0
                              try clear hfz4_1
                              try clear hfz4_2
                              try clear p1
                              try clear p19
                              try clear p2
                              try clear p6
                              try clear p8
                              try clear q1
                              try clear q19
                              try clear q8
                              obtain ⟨x4_4, rfl, HA, HK4, HO_3, BK194, HB⟩ := hrel
                              cases gk with
                              | zero => exact absurd HA.out (by simp [umlautref17_Tokens.l1])
                              | succ k4 =>
                                have H := HA.out
                                clear HA
                                simp only [umlautref17_Tokens.l1] at H
                                by_cases c21 : x4_4 < (a0.size : Int)
                                · rw [if_pos c21] at H
                                  have c21b0 : decide (x4_4 < (a0.size : Int)) = true := decide_eq_true c21
                                  clear c21
                                  by_cases c22 : 0 ≤ x4_4
                                  · rw [if_pos c22] at H
                                    have c22b0 : decide (0 ≤ x4_4) = true := decide_eq_true c22
                                    clear c22
                                    by_cases c24 : (bt a0 x4_4) = 10
                                    · rw [if_pos c24] at H
                                      have c24b0 : ((bt a0 x4_4) == 10) = true := beq_iff_eq.mpr c24
                                      have c24b1 : ((bt a0 x4_4) != 10) = false := bne_eq_false_iff_eq.mpr c24
                                      clear c24
                                      have H' := Aside0.mk H
                                      clear H
                                      have p23 : 0 ≤ (x4_4 : Int) := of_decide_eq_true (by first | (with_reducible assumption) | assumption)
                                      have q23 : x4_4 < (a0.size : Int) := of_decide_eq_true (by first | (with_reducible assumption) | assumption)
                                      have hx23 := bt_at a0 x4_4
                                      replace p23 := eq_true p23
                                      replace q23 := eq_true q23
                                      as_aux_lemma =>
                                       go_wp2
                                       go_roundg k4
                                       case measure => have := HK1.out; have := HJ8.out; have := HJ13.out; have := HK4.out; omega
                                       case rel => exact ⟨(x3_1), (x4_4), (x195001_1), (x195002_1), (by first | rfl | (simp; done) | (simp [*]; done)), H', ⟨by have := HK1.out; have := HJ8.out; have := HJ13.out; have := HK4.out; omega⟩, ⟨by (with_reducible repeat (first | apply Kd.R_alloc | apply Kd.R_drewN | apply Kd.R_drew)); exact HO_3.out⟩, ⟨by (with_reducible repeat (first | refine blk_drewN ?_ _ | refine blk_drew ?_ | refine blk_alloc ?_ _)); exact BK194.out⟩, ⟨by repeat (first | (with_reducible first | exact HB.out | apply below_alloc | apply pw_below_drewN | apply below_drew1 | refine below_set ?_ GE194.out) | exact HB.out)⟩⟩
                                    · rw [if_neg c24] at H
                                      have c24b0 : ((bt a0 x4_4) == 10) = false := beq_eq_false_iff_ne.mpr c24
                                      have c24b1 : ((bt a0 x4_4) != 10) = true := bne_iff_ne.mpr c24
                                      have H' := Aside0.mk H
                                      clear H
                                      have p23 : 0 ≤ (x4_4 : Int) := of_decide_eq_true (by first | (with_reducible assumption) | assumption)
                                      have q23 : x4_4 < (a0.size : Int) := of_decide_eq_true (by first | (with_reducible assumption) | assumption)
                                      have hx23 := bt_at a0 x4_4
                                      replace p23 := eq_true p23
                                      replace q23 := eq_true q23
                                      as_aux_lemma =>
                                       go_wp2
                                       go_roundg k4
                                       case measure => have := HK1.out; have := HJ8.out; have := HJ13.out; have := HK4.out; omega
                                       case rel => exact ⟨(wrap64 (x4_4 + 1)), (by first | rfl | (simp; done) | (simp [*]; done)), H', ⟨by have := HK1.out; have := HJ8.out; have := HJ13.out; have := HK4.out; omega⟩, ⟨by (with_reducible repeat (first | apply Kd.R_alloc | apply Kd.R_drewN | apply Kd.R_drew)); exact HO_3.out⟩, ⟨by (with_reducible repeat (first | refine blk_drewN ?_ _ | refine blk_drew ?_ | refine blk_alloc ?_ _)); exact BK194.out⟩, ⟨by repeat (first | (with_reducible first | exact HB.out | apply below_alloc | apply pw_below_drewN | apply below_drew1 | refine below_set ?_ GE194.out) | exact HB.out)⟩⟩
                                  · rw [if_neg c22] at H
                                    exact absurd H (by simp)
                                · rw [if_neg c21] at H
                                  have c21b0 : decide (x4_4 < (a0.size : Int)) = false := decide_eq_false c21
                                  clear c21
                                  have H' := Aside0.mk H
                                  clear H
                                  as_aux_lemma =>
                                   go_wp2
                                   go_roundg k4
                                   case measure => have := HK1.out; have := HJ8.out; have := HJ13.out; have := HK4.out; omega
                                   case rel => exact ⟨(x3_1), (x4_4), (x195001_1), (x195002_1), (by first | rfl | (simp; done) | (simp [*]; done)), H', ⟨by have := HK1.out; have := HJ8.out; have := HJ13.out; have := HK4.out; omega⟩, ⟨by (with_reducible repeat (first | apply Kd.R_alloc | apply Kd.R_drewN | apply Kd.R_drew)); exact HO_3.out⟩, ⟨by (with_reducible repeat (first | refine blk_drewN ?_ _ | refine blk_drew ?_ | refine blk_alloc ?_ _)); exact BK194.out⟩, ⟨by repeat (first | (with_reducible first | exact HB.out | apply below_alloc | apply pw_below_drewN | apply below_drew1 | refine below_set ?_ GE194.out) | exact HB.out)⟩⟩
                         · replace c20 := Bool.eq_false_iff.mpr c20
                           subst c20
                           have H1 : ((umlautref17_digit.f (bt a0 x4_1)).bind fun t195 => (if t195 = true then (umlautref17_Tokens.l2 kj13 a0 x3_1 x4_1 x4_1) else ((umlautref17_letter.f (bt a0 x4_1)).bind fun t206 => (if t206 = true then (umlautref17_Tokens.l3 kj13 a0 x3_1 x4_1 x4_1) else (if (bt a0 x4_1) = 39 then ((umlautref17_text.f kj13 a0 x4_1).bind fun bt217 => (if bt217.2.2 = true then (if x3_1.length < 3518437208883 then (umlautref17_Tokens.l0 kj13 a0 (x3_1 ++ [(⟨4, bt217.1, 0, x4_1⟩ : S37)]) bt217.2.1) else (none)) else (some (([] : List (S37)), x4_1, 10)))) else (if 0 ≤ x4_1 then (if x4_1 ≤ (a0.size : Int) then ((umlautref17_op.f kj13 (a0.extract (x4_1 : Int).toNat a0.size)).bind fun t223 => (if t223.toList = ([] : List UInt8) then (some (([] : List (S37)), x4_1, 10)) else (if x3_1.length < 3518437208883 then (umlautref17_Tokens.l0 kj13 a0 (x3_1 ++ [(⟨5, t223, 0, x4_1⟩ : S37)]) (wrap64 (x4_1 + (t223.size : Int)))) else (none)))) else (none)) else (none))))))) = some (r1, r2, r3) := by rw [if_neg (show ¬ (false = true) by decide)] at H; exact H
                           clear H
                           have H := H1
                           clear H1
                           replace H := Option.bind_eq_some_iff.mp H
                           obtain ⟨t195, A250, H⟩ := H
                           replace H : (if t195 = true then (umlautref17_Tokens.l2 kj13 a0 x3_1 x4_1 x4_1) else ((umlautref17_letter.f (bt a0 x4_1)).bind fun t206 => (if t206 = true then (umlautref17_Tokens.l3 kj13 a0 x3_1 x4_1 x4_1) else (if (bt a0 x4_1) = 39 then ((umlautref17_text.f kj13 a0 x4_1).bind fun bt217 => (if bt217.2.2 = true then (if x3_1.length < 3518437208883 then (umlautref17_Tokens.l0 kj13 a0 (x3_1 ++ [(⟨4, bt217.1, 0, x4_1⟩ : S37)]) bt217.2.1) else (none)) else (some (([] : List (S37)), x4_1, 10)))) else (if 0 ≤ x4_1 then (if x4_1 ≤ (a0.size : Int) then ((umlautref17_op.f kj13 (a0.extract (x4_1 : Int).toNat a0.size)).bind fun t223 => (if t223.toList = ([] : List UInt8) then (some (([] : List (S37)), x4_1, 10)) else (if x3_1.length < 3518437208883 then (umlautref17_Tokens.l0 kj13 a0 (x3_1 ++ [(⟨5, t223, 0, x4_1⟩ : S37)]) (wrap64 (x4_1 + (t223.size : Int)))) else (none)))) else (none)) else (none)))))) = some (r1, r2, r3) := H
                           have A25 := Aside0.mk A250
                           clear A250
                           by_cases c26 : t195 = true
                           · subst c26
                             have H1 : (umlautref17_Tokens.l2 kj13 a0 x3_1 x4_1 x4_1) = some (r1, r2, r3) := by rw [if_pos rfl] at H; exact H
                             clear H
                             have H := H1
                             clear H1
                             have HC27 := Aside0.mk H
                             clear H
                             as_aux_lemma =>
                              go_upto_block 5 with (first | ((with_reducible refine gate_callee (f := 19) rfl ?_); refine goesL_ (some 90) rfl rfl Tryd.func19 (by kernel_rfl) rfl #[.int .u8 (bt a0 x4_1)] rfl (by (try simp only [List.map_toArray, List.map_cons, List.map_nil]); first | done | rfl | (simp only [List.length_drop, List.length_take]; rfl)) ?_; (with_reducible refine (umlautref17_digit.calls (bt a0 x4_1) true _ A25.out).mono ?_); rintro e w' ⟨rfl, ⟨nd, rfl⟩⟩; refine ⟨_, rfl, ?_⟩))
                              (try simp only [Act.put, List.setIfInBounds_toArray, List.set_cons_zero, List.set_cons_succ])
                              go_cut [6] (fun v6 wc => ∃ (kq : Nat) (x6_26 : Int), v6 = .int .i64 x6_26 ∧ Aside0 (umlautref17_Tokens.j5 kq a0 x3_1 x4_1 x6_26 = some (r1, r2, r3)) ∧ Aside0 (kq ≤ kj13) ∧ Aside0 (Kd.R k37 37 wc w.heap.size (fun _ => True) u3 x3_1) ∧ Aside0 (wc.heap[gb194]? = some (.cells #[(.slice none 0 0), .int .i64 x195001_1, .int .i64 x195002_1] 35 (0, 0))) ∧ Aside0 (Below w.heap.size w wc))
                              case first =>
                                have H := HC27.out
                                clear HC27
                                have H' := Aside0.mk H
                                clear H
                                as_aux_lemma =>
                                 go_wp2
                                 go_loopg [6] kj13 (fun kq v6 w' => ∃ (x6_4 : Int), v6 = .int .i64 x6_4 ∧ Aside0 (umlautref17_Tokens.l2 kq a0 x3_1 x4_1 x6_4 = some (r1, r2, r3)) ∧ Aside0 (kq ≤ kj13) ∧ Aside0 (Kd.R k37 37 w' w.heap.size (fun _ => True) u3 x3_1) ∧ Aside0 (w'.heap[gb194]? = some (.cells #[(.slice none 0 0), .int .i64 x195001_1, .int .i64 x195002_1] 35 (0, 0))) ∧ Aside0 (Below w.heap.size w w'))
                                 case atStart => exact ⟨(x4_1), (by first | rfl | (simp; done) | (simp [*]; done)), H', ⟨Nat.le_refl _⟩, ⟨by (with_reducible repeat (first | apply Kd.R_alloc | apply Kd.R_drewN | apply Kd.R_drew)); exact HO_3.out⟩, ⟨by (with_reducible repeat (first | refine blk_drewN ?_ _ | refine blk_drew ?_ | refine blk_alloc ?_ _)); exact BK194.out⟩, ⟨by repeat (first | (with_reducible first | exact HB.out | apply below_alloc | apply pw_below_drewN | apply below_drew1 | refine below_set ?_ GE194.out) | exact HB.out)⟩⟩
                                 case round =>
                                   clear H'
                                   try clear c1
                                   try clear p1
                                   try clear q1
                                   try clear hx1
                                   try clear c2
                                   try clear c2b0
                                   try clear c2b1
                                   try clear p2
                                   try clear q2
                                   try clear hx2
                                   try clear c6
                                   try clear c6b0
                                   try clear p6
                                   try clear c7
                                   try clear c7b0
                                   try clear p8
                                   try clear q8
                                   try clear hx8
                                   try clear c10
                                   try clear c10b0
                                   try clear c10b1
                                   try clear c11
                                   try clear c11b0
                                   try clear c11b1
                                   try clear c12
                                   try clear c12b0
                                   try clear c12b1
                                   try clear c13
                                   try clear c15
                                   try clear c15b0
                                   try clear c15b1
                                   try clear c16
                                   try clear c16b0
                                   try clear c18
                                   try clear c18b0
                                   try clear c19
                                   try clear p19
                                   try clear q19
                                   try clear hx19
                                   try clear c20
                                   try clear c21
                                   try clear c21b0
                                   try clear c22
                                   try clear c22b0
                                   try clear p23
                                   try clear q23
                                   try clear hx23
                                   try clear c24
                                   try clear c24b0
                                   try clear c24b1
                                   try clear c26
                                   try clear hcz4_0
                                   try clear hcz4_1
                                   try clear hcz4_2
                                   try clear hfz4_0
                                   try clear hfz4_1
                                   try clear hfz4_2
                                   try clear p1
                                   try clear p19
                                   try clear p2
                                   try clear p23
                                   try clear p6
                                   try clear p8
                                   try clear q1
                                   try clear q19
                                   try clear q23
                                   try clear q8
                                   obtain ⟨x6_4, rfl, HA, HK4, HO_3, BK194, HB⟩ := hrel
                                   cases gk with
                                   | zero => exact absurd HA.out (by simp [umlautref17_Tokens.l2])
                                   | succ k4 =>
                                     have H := HA.out
                                     clear HA
                                     simp only [umlautref17_Tokens.l2] at H
                                     by_cases c28 : x6_4 < (a0.size : Int)
                                     · rw [if_pos c28] at H
                                       have c28b0 : decide (x6_4 < (a0.size : Int)) = true := decide_eq_true c28
                                       clear c28
                                       (first | rw [c28b0] | (simp only [i64_w, i32_w]; rw [c28b0]) | skip)
                                       by_cases c29 : 0 ≤ x6_4
                                       · rw [if_pos c29] at H
                                         have c29b0 : decide (0 ≤ x6_4) = true := decide_eq_true c29
                                         clear c29
                                         replace H := Option.bind_eq_some_iff.mp H
                                         obtain ⟨t196, A310, H⟩ := H
                                         replace H : (if t196 = true then (umlautref17_Tokens.l2 k4 a0 x3_1 x4_1 (wrap64 (x6_4 + 1))) else (umlautref17_Tokens.j5 k4 a0 x3_1 x4_1 x6_4)) = some (r1, r2, r3) := H
                                         have A31 := Aside0.mk A310
                                         clear A310
                                         by_cases c32 : t196 = true
                                         · subst c32
                                           have H1 : (umlautref17_Tokens.l2 k4 a0 x3_1 x4_1 (wrap64 (x6_4 + 1))) = some (r1, r2, r3) := by rw [if_pos rfl] at H; exact H
                                           clear H
                                           have H := H1
                                           clear H1
                                           have H' := Aside0.mk H
                                           clear H
                                           have p30 : 0 ≤ (x6_4 : Int) := of_decide_eq_true (by first | (with_reducible assumption) | assumption)
                                           have q30 : x6_4 < (a0.size : Int) := of_decide_eq_true (by first | (with_reducible assumption) | assumption)
                                           have hx30 := bt_at a0 x6_4
                                           replace p30 := eq_true p30
                                           replace q30 := eq_true q30
                                           as_aux_lemma =>
                                            go_wp2_with (first | (go_at_call 19; (with_reducible refine (umlautref17_digit.calls (bt a0 x6_4) true _ A31.out).mono ?_); rintro e w' ⟨rfl, ⟨nd, rfl⟩⟩))
                                            go_roundg k4
                                            case measure => have := HK1.out; have := HJ8.out; have := HJ13.out; have := HK4.out; omega
                                            case rel => exact ⟨(wrap64 (x6_4 + 1)), (by first | rfl | (simp; done) | (simp [*]; done)), H', ⟨by have := HK1.out; have := HJ8.out; have := HJ13.out; have := HK4.out; omega⟩, ⟨by (with_reducible repeat (first | apply Kd.R_alloc | apply Kd.R_drewN | apply Kd.R_drew)); exact HO_3.out⟩, ⟨by (with_reducible repeat (first | refine blk_drewN ?_ _ | refine blk_drew ?_ | refine blk_alloc ?_ _)); exact BK194.out⟩, ⟨by repeat (first | (with_reducible first | exact HB.out | apply below_alloc | apply pw_below_drewN | apply below_drew1 | refine below_set ?_ GE194.out) | exact HB.out)⟩⟩
                                         · replace c32 := Bool.eq_false_iff.mpr c32
                                           subst c32
                                           have H1 : (umlautref17_Tokens.j5 k4 a0 x3_1 x4_1 x6_4) = some (r1, r2, r3) := by rw [if_neg (show ¬ (false = true) by decide)] at H; exact H
                                           clear H
                                           have H := H1
                                           clear H1
                                           have H' := Aside0.mk H
                                           clear H
                                           have p30 : 0 ≤ (x6_4 : Int) := of_decide_eq_true (by first | (with_reducible assumption) | assumption)
                                           have q30 : x6_4 < (a0.size : Int) := of_decide_eq_true (by first | (with_reducible assumption) | assumption)
                                           have hx30 := bt_at a0 x6_4
                                           replace p30 := eq_true p30
                                           replace q30 := eq_true q30
                                           as_aux_lemma =>
                                            go_wp2_with (first | (go_at_call 19; (with_reducible refine (umlautref17_digit.calls (bt a0 x6_4) false _ A31.out).mono ?_); rintro e w' ⟨rfl, ⟨nd, rfl⟩⟩))
                                            go_meet
                                            case rel => exact ⟨_, (x6_4), (by first | rfl | (simp; done) | (simp [*]; done)), H', ⟨by have := HK1.out; have := HJ8.out; have := HJ13.out; have := HK4.out; first | omega | exact Nat.le_refl _⟩, ⟨by (with_reducible repeat (first | apply Kd.R_alloc | apply Kd.R_drewN | apply Kd.R_drew)); exact HO_3.out⟩, ⟨by (with_reducible repeat (first | refine blk_drewN ?_ _ | refine blk_drew ?_ | refine blk_alloc ?_ _)); exact BK194.out⟩, ⟨by repeat (first | (with_reducible first | exact HB.out | apply below_alloc | apply pw_below_drewN | apply below_drew1 | refine below_set ?_ GE194.out) | exact HB.out)⟩⟩
                                       · rw [if_neg c29] at H
                                         exact absurd H (by simp)
                                     · rw [if_neg c28] at H
                                       have c28b0 : decide (x6_4 < (a0.size : Int)) = false := decide_eq_false c28
                                       clear c28
                                       (first | rw [c28b0] | (simp only [i64_w, i32_w]; rw [c28b0]) | skip)
                                       have H' := Aside0.mk H
                                       clear H
                                       as_aux_lemma =>
                                        go_wp2
                                        go_meet
                                        case rel => exact ⟨_, (x6_4), (by first | rfl | (simp; done) | (simp [*]; done)), H', ⟨by have := HK1.out; have := HJ8.out; have := HJ13.out; have := HK4.out; first | omega | exact Nat.le_refl _⟩, ⟨by (with_reducible repeat (first | apply Kd.R_alloc | apply Kd.R_drewN | apply Kd.R_drew)); exact HO_3.out⟩, ⟨by (with_reducible repeat (first | refine blk_drewN ?_ _ | refine blk_drew ?_ | refine blk_alloc ?_ _)); exact BK194.out⟩, ⟨by repeat (first | (with_reducible first | exact HB.out | apply below_alloc | apply pw_below_drewN | apply below_drew1 | refine below_set ?_ GE194.out) | exact HB.out)⟩⟩
                              case rest =>
                                clear HC27
                                try clear c1
                                try clear p1
                                try clear q1
                                try clear hx1
                                try clear c2
                                try clear c2b0
                                try clear c2b1
                                try clear p2
                                try clear q2
                                try clear hx2
                                try clear c3
                                try clear p3
                                try clear q3
                                try clear hx3
                                try clear c6
                                try clear c6b0
                                try clear p6
                                try clear c7
                                try clear c7b0
                                try clear p8
                                try clear q8
                                try clear hx8
                                try clear c10
                                try clear c10b0
                                try clear c10b1
                                try clear c11
                                try clear c11b0
                                try clear c11b1
                                try clear c12
                                try clear c12b0
                                try clear c12b1
                                try clear c13
                                try clear c15
                                try clear c15b0
                                try clear c15b1
                                try clear c16
                                try clear c16b0
                                try clear c18
                                try clear c18b0
                                try clear c19
                                try clear p19
                                try clear q19
                                try clear hx19
                                try clear c20
                                try clear c21
                                try clear c21b0
                                try clear c22
                                try clear c22b0
                                try clear p23
                                try clear q23
                                try clear hx23
                                try clear c24
                                try clear c24b0
                                try clear c24b1
                                try clear c26
                                try clear c28
                                try clear c28b0
                                try clear c29
                                try clear c29b0
                                try clear p30
                                try clear q30
                                try clear hx30
                                try clear c32
                                try clear hcz4_0
                                try clear hcz4_1
                                try clear hcz4_2
                                try clear hfz4_0
                                try clear hfz4_1
                                try clear hfz4_2
                                try clear p1
                                try clear p19
                                try clear p2
                                try clear p23
                                try clear p30
                                try clear p6
                                try clear p8
                                try clear q1
                                try clear q19
                                try clear q2
                                try clear q23
                                try clear q30
                                try clear q8
                                obtain ⟨kq, x6_26, rfl, HA, HJ26, HO_3, BK194, HB⟩ := hcut
                                cases kq with
                                | zero => exact absurd HA.out (by simp [umlautref17_Tokens.j5])
                                | succ kj26 =>
                                  have H := HA.out
                                  clear HA
                                  simp only [umlautref17_Tokens.j5] at H
                                  by_cases c33 : 0 ≤ x4_1
                                  · rw [if_pos c33] at H
                                    have c33b0 := eq_true c33
                                    have c33b1 : decide (0 ≤ x4_1) = true := decide_eq_true c33
                                    clear c33
                                    by_cases c34 : x4_1 ≤ x6_26
                                    · rw [if_pos c34] at H
                                      have c34b0 := eq_true c34
                                      have c34b1 : decide (x4_1 ≤ x6_26) = true := decide_eq_true c34
                                      clear c34
                                      by_cases c35 : x6_26 ≤ (a0.size : Int)
                                      · rw [if_pos c35] at H
                                        have c35b0 := eq_true c35
                                        have c35b1 : decide (x6_26 ≤ (a0.size : Int)) = true := decide_eq_true c35
                                        clear c35
                                        replace H := Option.bind_eq_some_iff.mp H
                                        obtain ⟨⟨t197, t198⟩, A360, H⟩ := H
                                        replace H : (if t198 = 0 then (if x6_26 < (a0.size : Int) then (if 0 ≤ x6_26 then ((umlautref17_letter.f (bt a0 x6_26)).bind fun t199 => (if t199 = true then (some (([] : List (S37)), x4_1, 10)) else (if x3_1.length < 3518437208883 then (umlautref17_Tokens.l0 kj26 a0 (x3_1 ++ [(⟨3, (⟨#[]⟩ : ByteArray), t197, x4_1⟩ : S37)]) x6_26) else (none)))) else (none)) else (if x3_1.length < 3518437208883 then (umlautref17_Tokens.l0 kj26 a0 (x3_1 ++ [(⟨3, (⟨#[]⟩ : ByteArray), t197, x4_1⟩ : S37)]) x6_26) else (none))) else (some (([] : List (S37)), x4_1, 10))) = some (r1, r2, r3) := H
                                        have A36 := Aside0.mk A360
                                        clear A360
                                        by_cases c37 : t198 = 0
                                        · rw [if_pos c37] at H
                                          have c37b0 : (t198 == 0) = true := beq_iff_eq.mpr c37
                                          have c37b1 : (t198 != 0) = false := bne_eq_false_iff_eq.mpr c37
                                          clear c37
                                          by_cases c38 : x6_26 < (a0.size : Int)
                                          · rw [if_pos c38] at H
                                            have c38b0 : decide (x6_26 < (a0.size : Int)) = true := decide_eq_true c38
                                            clear c38
                                            by_cases c39 : 0 ≤ x6_26
                                            · rw [if_pos c39] at H
                                              have c39b0 : decide (0 ≤ x6_26) = true := decide_eq_true c39
                                              clear c39
                                              replace H := Option.bind_eq_some_iff.mp H
                                              obtain ⟨t199, A410, H⟩ := H
                                              replace H : (if t199 = true then (some (([] : List (S37)), x4_1, 10)) else (if x3_1.length < 3518437208883 then (umlautref17_Tokens.l0 kj26 a0 (x3_1 ++ [(⟨3, (⟨#[]⟩ : ByteArray), t197, x4_1⟩ : S37)]) x6_26) else (none))) = some (r1, r2, r3) := H
                                              have A41 := Aside0.mk A410
                                              clear A410
                                              by_cases c42 : t199 = true
                                              · subst c42
                                                have H1 : (some (([] : List (S37)), x4_1, 10)) = some (r1, r2, r3) := by rw [if_pos rfl] at H; exact H
                                                clear H
                                                have H := H1
                                                clear H1
                                                simp only [Option.some.injEq, Prod.mk.injEq] at H
                                                obtain ⟨rfl, rfl, rfl⟩ := H
                                                as_aux_lemma =>
                                                 go_wp2_with (first | ((with_reducible refine gate_callee (f := 20) rfl ?_); refine goesL_ (some 108) rfl rfl Tryd.func20 (by kernel_rfl) rfl #[.string (a0.extract (x4_1 : Int).toNat (x6_26 : Int).toNat)] rfl (by (try simp only [List.map_toArray, List.map_cons, List.map_nil]); first | done | rfl | (simp only [List.length_drop, List.length_take]; rfl)) ?_; (with_reducible refine (umlautref1_Parse.calls kj26 (a0.extract (x4_1 : Int).toNat (x6_26 : Int).toNat) t197 t198 _ A36.out).mono ?_); rintro e w' ⟨rfl, ⟨nd, rfl⟩⟩; refine ⟨_, rfl, ?_⟩; (try (rw [drewN_self wc]; generalize hq_ : World.drewN wc _ = wc; have n0_ : Aside0 (Kd.R k37 37 wc w.heap.size (fun _ => True) u3 x3_1) := ⟨by rw [← hq_]; exact (by (with_reducible repeat (first | apply Kd.R_alloc | apply Kd.R_drewN | apply Kd.R_drew)); exact HO_3.out)⟩; have n1_ : Aside0 (wc.heap[gb194]? = some (.cells #[.slice none 0 0, .int .i64 x195001_1, .int .i64 x195002_1] 35 (0, 0))) := ⟨by rw [← hq_]; exact (by (with_reducible repeat (first | refine blk_drewN ?_ _ | refine blk_drew ?_ | refine blk_alloc ?_ _)); exact BK194.out)⟩; have n2_ : Aside0 (Below w.heap.size w wc) := ⟨by rw [← hq_]; exact (by repeat (first | (with_reducible first | exact HB.out | apply below_alloc | apply pw_below_drewN | apply below_drew1 | refine below_set ?_ GE194.out) | exact HB.out))⟩; clear HO_3 BK194 HB hq_; have HO_3 := n0_; have BK194 := n1_; have HB := n2_; clear n0_ n1_ n2_)); have p40 : 0 ≤ (x6_26 : Int) := of_decide_eq_true (by first | (with_reducible assumption) | assumption); have q40 : x6_26 < (a0.size : Int) := of_decide_eq_true (by first | (with_reducible assumption) | assumption); have hx40 := bt_at a0 x6_26; replace p40 := eq_true p40; replace q40 := eq_true q40) | (go_at_call 21; (with_reducible refine (umlautref17_letter.calls (bt a0 x6_26) true _ A41.out).mono ?_); rintro e w' ⟨rfl, ⟨nd, rfl⟩⟩; (try (rw [drewN_self wc]; generalize hq_ : World.drewN wc _ = wc; have n0_ : Aside0 (Kd.R k37 37 wc w.heap.size (fun _ => True) u3 x3_1) := ⟨by rw [← hq_]; exact (by (with_reducible repeat (first | apply Kd.R_alloc | apply Kd.R_drewN | apply Kd.R_drew)); exact HO_3.out)⟩; have n1_ : Aside0 (wc.heap[gb194]? = some (.cells #[.slice none 0 0, .int .i64 x195001_1, .int .i64 x195002_1] 35 (0, 0))) := ⟨by rw [← hq_]; exact (by (with_reducible repeat (first | refine blk_drewN ?_ _ | refine blk_drew ?_ | refine blk_alloc ?_ _)); exact BK194.out)⟩; have n2_ : Aside0 (Below w.heap.size w wc) := ⟨by rw [← hq_]; exact (by repeat (first | (with_reducible first | exact HB.out | apply below_alloc | apply pw_below_drewN | apply below_drew1 | refine below_set ?_ GE194.out) | exact HB.out))⟩; clear HO_3 BK194 HB hq_; have HO_3 := n0_; have BK194 := n1_; have HB := n2_; clear n0_ n1_ n2_)); have hcz43_0 : wc.cell? ⟨gb194, 0, none⟩ = some (.slice none 0 0) := (blk_cell BK194.out 0).trans rfl; have hcz43_1 : wc.cell? ⟨gb194, 1, none⟩ = some (.int .i64 x195001_1) := (blk_cell BK194.out 1).trans rfl; have hcz43_2 : wc.cell? ⟨gb194, 2, none⟩ = some (.int .i64 x195002_1) := (blk_cell BK194.out 2).trans rfl; have hfz43_0 := blk_frozen BK194.out 0; have hfz43_1 := blk_frozen BK194.out 1; have hfz43_2 := blk_frozen BK194.out 2))
                                                 refine bodyPost_ret (results_cell_row rfl _ _ gb194 35 #[.slice none 0 0, .int .i64 x4_1, .int .i64 10] (0, 0) _ rfl (by (with_reducible repeat (first | refine blk_drewN ?_ _ | refine blk_drew ?_ | refine blk_alloc ?_ _)); refine blk_put (cs := #[.slice none 0 0, .int .i64 x4_1, .int .i64 x195002_1]) ?_ 2 _ rfl; (with_reducible repeat (first | refine blk_drewN ?_ _ | refine blk_drew ?_ | refine blk_alloc ?_ _)); refine blk_put (cs := #[.slice none 0 0, .int .i64 x195001_1, .int .i64 x195002_1]) ?_ 1 _ rfl; (with_reducible repeat (first | refine blk_drewN ?_ _ | refine blk_drew ?_ | refine blk_alloc ?_ _)); refine blk_put (cs := #[.slice none 0 0, .int .i64 x195001_1, .int .i64 x195002_1]) ?_ 0 _ rfl; (with_reducible repeat (first | refine blk_drewN ?_ _ | refine blk_drew ?_ | refine blk_alloc ?_ _)); exact BK194.out) Tryd.underlying35 rfl (by kernel_rfl)) rfl ?_
                                                 exact ⟨_, by first | rfl | (simp [errW_none, errW_some] <;> rfl) | (simp [*, errW_none, errW_some] <;> rfl), by first | exact Kd.R_nil _ _ _ _ _ | exact Kd.N_nil _ _ _ _ _ | exact Kd.V_nil _ _ _ _ _ | exact Kd.Q_nil _ _ _ _ _ | exact Kd.S_nil _ _ _ _ _, by repeat (first | (with_reducible first | exact HB.out | apply below_alloc | apply pw_below_drewN | apply below_drew1 | refine below_set ?_ GE194.out) | exact HB.out)⟩
                                              · replace c42 := Bool.eq_false_iff.mpr c42
                                                subst c42
                                                have H1 : (if x3_1.length < 3518437208883 then (umlautref17_Tokens.l0 kj26 a0 (x3_1 ++ [(⟨3, (⟨#[]⟩ : ByteArray), t197, x4_1⟩ : S37)]) x6_26) else (none)) = some (r1, r2, r3) := by rw [if_neg (show ¬ (false = true) by decide)] at H; exact H
                                                clear H
                                                have H := H1
                                                clear H1
                                                by_cases c44 : x3_1.length < 3518437208883
                                                · rw [if_pos c44] at H
                                                  have LMc44 := Aside0.mk c44
                                                  clear c44
                                                  obtain ⟨y200, hy200⟩ : ∃ y_ : List (S37), y_ = (x3_1 ++ [(⟨3, (⟨#[]⟩ : ByteArray), t197, x4_1⟩ : S37)]) := ⟨_, rfl⟩
                                                  replace H : (umlautref17_Tokens.l0 kj26 a0 y200 x6_26) = some (r1, r2, r3) := by first | (rw [hy200]; with_reducible exact H) | (have H2_ := (Option.bind_some _ _).symm.trans H; rw [hy200]; with_reducible exact H2_) | (have H2_ := (Option.bind_some _ _).symm.trans H; with_reducible exact H2_) | with_reducible exact H | (rw [hy200]; exact H) | exact H
                                                  have Ny200 := Aside0.mk hy200
                                                  clear hy200
                                                  have H' := Aside0.mk H
                                                  clear H
                                                  as_aux_lemma =>
                                                   go_wp2_with (first | ((with_reducible refine gate_callee (f := 20) rfl ?_); refine goesL_ (some 108) rfl rfl Tryd.func20 (by kernel_rfl) rfl #[.string (a0.extract (x4_1 : Int).toNat (x6_26 : Int).toNat)] rfl (by (try simp only [List.map_toArray, List.map_cons, List.map_nil]); first | done | rfl | (simp only [List.length_drop, List.length_take]; rfl)) ?_; (with_reducible refine (umlautref1_Parse.calls kj26 (a0.extract (x4_1 : Int).toNat (x6_26 : Int).toNat) t197 t198 _ A36.out).mono ?_); rintro e w' ⟨rfl, ⟨nd, rfl⟩⟩; refine ⟨_, rfl, ?_⟩; have p40 : 0 ≤ (x6_26 : Int) := of_decide_eq_true (by first | (with_reducible assumption) | assumption); have q40 : x6_26 < (a0.size : Int) := of_decide_eq_true (by first | (with_reducible assumption) | assumption); have hx40 := bt_at a0 x6_26; replace p40 := eq_true p40; replace q40 := eq_true q40) | (go_at_call 21; (with_reducible refine (umlautref17_letter.calls (bt a0 x6_26) false _ A41.out).mono ?_); rintro e w' ⟨rfl, ⟨nd, rfl⟩⟩) | ((with_reducible refine gate_builtin (b := .append) (xs := #[.tmp 127, .tmp 131]) rfl ?_); (try (refine gate_guard (by rfl) ?_; dsimp only)); at_builtin; refine Kd.R_append k37 (w0 := w) w.heap.size rfl (.tmp 127) (.tmp 131) 33 37 (.agg #[(.int .i64 0), (.string ⟨#[]⟩), (.int .i64 0), (.int .i64 0)]) 40 rfl Tryd.underlying33 info37 rfl (by decide) (by omega) u3 x3_1 (⟨3, (⟨#[]⟩ : ByteArray), t197, x4_1⟩ : S37) [.int .i64 3, .string (⟨#[]⟩ : ByteArray), .int .i64 t197, .int .i64 x4_1] (fun _ => True) (fun _ => False) rfl rfl ?aP (fun _ hk => hk.elim) ?aF ?aO ?aB ?aS ?aL ?_; (case aP => exact k37_mkM _ _ _ (⟨3, (⟨#[]⟩ : ByteArray), t197, x4_1⟩ : S37)); (case aB => exact (by repeat (first | (with_reducible first | exact HB.out | apply below_alloc | apply pw_below_drewN | apply below_drew1 | refine below_set ?_ GE194.out) | exact HB.out))); (case aF => exact (fun _ _ => trivial)); (case aO => exact (by (with_reducible repeat (first | apply Kd.R_alloc | apply Kd.R_drewN | apply Kd.R_drew)); exact HO_3.out)); (case aS => exact (below_size (by repeat (first | (with_reducible first | exact HB.out | apply below_alloc | apply pw_below_drewN | apply below_drew1 | refine below_set ?_ GE194.out) | exact HB.out)))); (case aL => have := LMc44.out; omega); intro v201 w45 ho hb hg hat; rw [← Ny200.out] at ho; have n0_ := Aside0.mk (blk_grown (g := gb194) (o := .cells #[.slice none 0 0, .int .i64 x195001_1, .int .i64 x195002_1] 35 (0, 0)) (by (with_reducible repeat (first | refine blk_drewN ?_ _ | refine blk_drew ?_ | refine blk_alloc ?_ _)); exact BK194.out) hg (Kd.R_ne HO_3.out BK194.out (by decide))); have n1_ := Aside0.mk (hb); have n2_ := Aside0.mk (ho); clear BK194; clear HB; clear HO_3; have BK194 := n0_; have HB := n1_; have HO202 := n2_; clear n0_ n1_ n2_; clear ho hb hg hat))
                                                   go_roundg kj26
                                                   case measure => have := HK1.out; have := HJ8.out; have := HJ13.out; have := HJ26.out; omega
                                                   case rel => exact ⟨(y200), (x6_26), (x195001_1), (x195002_1), (by first | rfl | (simp; done) | (simp [*]; done)), H', ⟨by have := HK1.out; have := HJ8.out; have := HJ13.out; have := HJ26.out; omega⟩, ⟨by (with_reducible repeat (first | apply Kd.R_alloc | apply Kd.R_drewN | apply Kd.R_drew)); exact HO202.out⟩, ⟨by (with_reducible repeat (first | refine blk_drewN ?_ _ | refine blk_drew ?_ | refine blk_alloc ?_ _)); exact BK194.out⟩, ⟨by repeat (first | (with_reducible first | exact HB.out | apply below_alloc | apply pw_below_drewN | apply below_drew1 | refine below_set ?_ GE194.out) | exact HB.out)⟩⟩
                                                · rw [if_neg c44] at H
                                                  exact absurd H (by simp)
                                            · rw [if_neg c39] at H
                                              exact absurd H (by simp)
                                          · rw [if_neg c38] at H
                                            have c38b0 : decide (x6_26 < (a0.size : Int)) = false := decide_eq_false c38
                                            clear c38
                                            by_cases c46 : x3_1.length < 3518437208883
                                            · rw [if_pos c46] at H
                                              have LMc46 := Aside0.mk c46
                                              clear c46
                                              obtain ⟨y203, hy203⟩ : ∃ y_ : List (S37), y_ = (x3_1 ++ [(⟨3, (⟨#[]⟩ : ByteArray), t197, x4_1⟩ : S37)]) := ⟨_, rfl⟩
                                              replace H : (umlautref17_Tokens.l0 kj26 a0 y203 x6_26) = some (r1, r2, r3) := by first | (rw [hy203]; with_reducible exact H) | (have H2_ := (Option.bind_some _ _).symm.trans H; rw [hy203]; with_reducible exact H2_) | (have H2_ := (Option.bind_some _ _).symm.trans H; with_reducible exact H2_) | with_reducible exact H | (rw [hy203]; exact H) | exact H
                                              have Ny203 := Aside0.mk hy203
                                              clear hy203
                                              have H' := Aside0.mk H
                                              clear H
                                              as_aux_lemma =>
                                               go_wp2_with (first | ((with_reducible refine gate_callee (f := 20) rfl ?_); refine goesL_ (some 108) rfl rfl Tryd.func20 (by kernel_rfl) rfl #[.string (a0.extract (x4_1 : Int).toNat (x6_26 : Int).toNat)] rfl (by (try simp only [List.map_toArray, List.map_cons, List.map_nil]); first | done | rfl | (simp only [List.length_drop, List.length_take]; rfl)) ?_; (with_reducible refine (umlautref1_Parse.calls kj26 (a0.extract (x4_1 : Int).toNat (x6_26 : Int).toNat) t197 t198 _ A36.out).mono ?_); rintro e w' ⟨rfl, ⟨nd, rfl⟩⟩; refine ⟨_, rfl, ?_⟩) | ((with_reducible refine gate_builtin (b := .append) (xs := #[.tmp 127, .tmp 131]) rfl ?_); (try (refine gate_guard (by rfl) ?_; dsimp only)); at_builtin; refine Kd.R_append k37 (w0 := w) w.heap.size rfl (.tmp 127) (.tmp 131) 33 37 (.agg #[(.int .i64 0), (.string ⟨#[]⟩), (.int .i64 0), (.int .i64 0)]) 40 rfl Tryd.underlying33 info37 rfl (by decide) (by omega) u3 x3_1 (⟨3, (⟨#[]⟩ : ByteArray), t197, x4_1⟩ : S37) [.int .i64 3, .string (⟨#[]⟩ : ByteArray), .int .i64 t197, .int .i64 x4_1] (fun _ => True) (fun _ => False) rfl rfl ?aP (fun _ hk => hk.elim) ?aF ?aO ?aB ?aS ?aL ?_; (case aP => exact k37_mkM _ _ _ (⟨3, (⟨#[]⟩ : ByteArray), t197, x4_1⟩ : S37)); (case aB => exact (by repeat (first | (with_reducible first | exact HB.out | apply below_alloc | apply pw_below_drewN | apply below_drew1 | refine below_set ?_ GE194.out) | exact HB.out))); (case aF => exact (fun _ _ => trivial)); (case aO => exact (by (with_reducible repeat (first | apply Kd.R_alloc | apply Kd.R_drewN | apply Kd.R_drew)); exact HO_3.out)); (case aS => exact (below_size (by repeat (first | (with_reducible first | exact HB.out | apply below_alloc | apply pw_below_drewN | apply below_drew1 | refine below_set ?_ GE194.out) | exact HB.out)))); (case aL => have := LMc46.out; omega); intro v204 w47 ho hb hg hat; rw [← Ny203.out] at ho; have n0_ := Aside0.mk (blk_grown (g := gb194) (o := .cells #[.slice none 0 0, .int .i64 x195001_1, .int .i64 x195002_1] 35 (0, 0)) (by (with_reducible repeat (first | refine blk_drewN ?_ _ | refine blk_drew ?_ | refine blk_alloc ?_ _)); exact BK194.out) hg (Kd.R_ne HO_3.out BK194.out (by decide))); have n1_ := Aside0.mk (hb); have n2_ := Aside0.mk (ho); clear BK194; clear HB; clear HO_3; have BK194 := n0_; have HB := n1_; have HO205 := n2_; clear n0_ n1_ n2_; clear ho hb hg hat))
                                               go_roundg kj26
                                               case measure => have := HK1.out; have := HJ8.out; have := HJ13.out; have := HJ26.out; omega
                                               case rel => exact ⟨(y203), (x6_26), (x195001_1), (x195002_1), (by first | rfl | (simp; done) | (simp [*]; done)), H', ⟨by have := HK1.out; have := HJ8.out; have := HJ13.out; have := HJ26.out; omega⟩, ⟨by (with_reducible repeat (first | apply Kd.R_alloc | apply Kd.R_drewN | apply Kd.R_drew)); exact HO205.out⟩, ⟨by (with_reducible repeat (first | refine blk_drewN ?_ _ | refine blk_drew ?_ | refine blk_alloc ?_ _)); exact BK194.out⟩, ⟨by repeat (first | (with_reducible first | exact HB.out | apply below_alloc | apply pw_below_drewN | apply below_drew1 | refine below_set ?_ GE194.out) | exact HB.out)⟩⟩
                                            · rw [if_neg c46] at H
                                              exact absurd H (by simp)
                                        · rw [if_neg c37] at H
                                          have c37b0 : (t198 == 0) = false := beq_eq_false_iff_ne.mpr c37
                                          have c37b1 : (t198 != 0) = true := bne_iff_ne.mpr c37
                                          simp only [Option.some.injEq, Prod.mk.injEq] at H
                                          obtain ⟨rfl, rfl, rfl⟩ := H
                                          as_aux_lemma =>
                                           go_wp2_with (first | ((with_reducible refine gate_callee (f := 20) rfl ?_); refine goesL_ (some 108) rfl rfl Tryd.func20 (by kernel_rfl) rfl #[.string (a0.extract (x4_1 : Int).toNat (x6_26 : Int).toNat)] rfl (by (try simp only [List.map_toArray, List.map_cons, List.map_nil]); first | done | rfl | (simp only [List.length_drop, List.length_take]; rfl)) ?_; (with_reducible refine (umlautref1_Parse.calls kj26 (a0.extract (x4_1 : Int).toNat (x6_26 : Int).toNat) t197 t198 _ A36.out).mono ?_); rintro e w' ⟨rfl, ⟨nd, rfl⟩⟩; refine ⟨_, rfl, ?_⟩; (try (rw [drewN_self wc]; generalize hq_ : World.drewN wc _ = wc; have n0_ : Aside0 (Kd.R k37 37 wc w.heap.size (fun _ => True) u3 x3_1) := ⟨by rw [← hq_]; exact (by (with_reducible repeat (first | apply Kd.R_alloc | apply Kd.R_drewN | apply Kd.R_drew)); exact HO_3.out)⟩; have n1_ : Aside0 (wc.heap[gb194]? = some (.cells #[.slice none 0 0, .int .i64 x195001_1, .int .i64 x195002_1] 35 (0, 0))) := ⟨by rw [← hq_]; exact (by (with_reducible repeat (first | refine blk_drewN ?_ _ | refine blk_drew ?_ | refine blk_alloc ?_ _)); exact BK194.out)⟩; have n2_ : Aside0 (Below w.heap.size w wc) := ⟨by rw [← hq_]; exact (by repeat (first | (with_reducible first | exact HB.out | apply below_alloc | apply pw_below_drewN | apply below_drew1 | refine below_set ?_ GE194.out) | exact HB.out))⟩; clear HO_3 BK194 HB hq_; have HO_3 := n0_; have BK194 := n1_; have HB := n2_; clear n0_ n1_ n2_)); have hcz48_0 : wc.cell? ⟨gb194, 0, none⟩ = some (.slice none 0 0) := (blk_cell BK194.out 0).trans rfl; have hcz48_1 : wc.cell? ⟨gb194, 1, none⟩ = some (.int .i64 x195001_1) := (blk_cell BK194.out 1).trans rfl; have hcz48_2 : wc.cell? ⟨gb194, 2, none⟩ = some (.int .i64 x195002_1) := (blk_cell BK194.out 2).trans rfl; have hfz48_0 := blk_frozen BK194.out 0; have hfz48_1 := blk_frozen BK194.out 1; have hfz48_2 := blk_frozen BK194.out 2))
                                           refine bodyPost_ret (results_cell_row rfl _ _ gb194 35 #[.slice none 0 0, .int .i64 x4_1, .int .i64 10] (0, 0) _ rfl (by (with_reducible repeat (first | refine blk_drewN ?_ _ | refine blk_drew ?_ | refine blk_alloc ?_ _)); refine blk_put (cs := #[.slice none 0 0, .int .i64 x4_1, .int .i64 x195002_1]) ?_ 2 _ rfl; (with_reducible repeat (first | refine blk_drewN ?_ _ | refine blk_drew ?_ | refine blk_alloc ?_ _)); refine blk_put (cs := #[.slice none 0 0, .int .i64 x195001_1, .int .i64 x195002_1]) ?_ 1 _ rfl; (with_reducible repeat (first | refine blk_drewN ?_ _ | refine blk_drew ?_ | refine blk_alloc ?_ _)); refine blk_put (cs := #[.slice none 0 0, .int .i64 x195001_1, .int .i64 x195002_1]) ?_ 0 _ rfl; (with_reducible repeat (first | refine blk_drewN ?_ _ | refine blk_drew ?_ | refine blk_alloc ?_ _)); exact BK194.out) Tryd.underlying35 rfl (by kernel_rfl)) rfl ?_
                                           exact ⟨_, by first | rfl | (simp [errW_none, errW_some] <;> rfl) | (simp [*, errW_none, errW_some] <;> rfl), by first | exact Kd.R_nil _ _ _ _ _ | exact Kd.N_nil _ _ _ _ _ | exact Kd.V_nil _ _ _ _ _ | exact Kd.Q_nil _ _ _ _ _ | exact Kd.S_nil _ _ _ _ _, by repeat (first | (with_reducible first | exact HB.out | apply below_alloc | apply pw_below_drewN | apply below_drew1 | refine below_set ?_ GE194.out) | exact HB.out)⟩
                                      · rw [if_neg c35] at H
                                        exact absurd H (by simp)
                                    · rw [if_neg c34] at H
                                      exact absurd H (by simp)
                                  · rw [if_neg c33] at H
                                    exact absurd H (by simp)
                           · replace c26 := Bool.eq_false_iff.mpr c26
                             subst c26
                             have H1 : ((umlautref17_letter.f (bt a0 x4_1)).bind fun t206 => (if t206 = true then (umlautref17_Tokens.l3 kj13 a0 x3_1 x4_1 x4_1) else (if (bt a0 x4_1) = 39 then ((umlautref17_text.f kj13 a0 x4_1).bind fun bt217 => (if bt217.2.2 = true then (if x3_1.length < 3518437208883 then (umlautref17_Tokens.l0 kj13 a0 (x3_1 ++ [(⟨4, bt217.1, 0, x4_1⟩ : S37)]) bt217.2.1) else (none)) else (some (([] : List (S37)), x4_1, 10)))) else (if 0 ≤ x4_1 then (if x4_1 ≤ (a0.size : Int) then ((umlautref17_op.f kj13 (a0.extract (x4_1 : Int).toNat a0.size)).bind fun t223 => (if t223.toList = ([] : List UInt8) then (some (([] : List (S37)), x4_1, 10)) else (if x3_1.length < 3518437208883 then (umlautref17_Tokens.l0 kj13 a0 (x3_1 ++ [(⟨5, t223, 0, x4_1⟩ : S37)]) (wrap64 (x4_1 + (t223.size : Int)))) else (none)))) else (none)) else (none))))) = some (r1, r2, r3) := by rw [if_neg (show ¬ (false = true) by decide)] at H; exact H
                             clear H
                             have H := H1
                             clear H1
                             replace H := Option.bind_eq_some_iff.mp H
                             obtain ⟨t206, A490, H⟩ := H
                             replace H : (if t206 = true then (umlautref17_Tokens.l3 kj13 a0 x3_1 x4_1 x4_1) else (if (bt a0 x4_1) = 39 then ((umlautref17_text.f kj13 a0 x4_1).bind fun bt217 => (if bt217.2.2 = true then (if x3_1.length < 3518437208883 then (umlautref17_Tokens.l0 kj13 a0 (x3_1 ++ [(⟨4, bt217.1, 0, x4_1⟩ : S37)]) bt217.2.1) else (none)) else (some (([] : List (S37)), x4_1, 10)))) else (if 0 ≤ x4_1 then (if x4_1 ≤ (a0.size : Int) then ((umlautref17_op.f kj13 (a0.extract (x4_1 : Int).toNat a0.size)).bind fun t223 => (if t223.toList = ([] : List UInt8) then (some (([] : List (S37)), x4_1, 10)) else (if x3_1.length < 3518437208883 then (umlautref17_Tokens.l0 kj13 a0 (x3_1 ++ [(⟨5, t223, 0, x4_1⟩ : S37)]) (wrap64 (x4_1 + (t223.size : Int)))) else (none)))) else (none)) else (none)))) = some (r1, r2, r3) := H
                             have A49 := Aside0.mk A490
                             clear A490
                             by_cases c50 : t206 = true
                             · subst c50
                               have H1 : (umlautref17_Tokens.l3 kj13 a0 x3_1 x4_1 x4_1) = some (r1, r2, r3) := by rw [if_pos rfl] at H; exact H
                               clear H
                               have H := H1
                               clear H1
                               have HC51 := Aside0.mk H
                               clear H
                               as_aux_lemma =>
                                go_upto_block 7 with (first | ((with_reducible refine gate_callee (f := 19) rfl ?_); refine goesL_ (some 90) rfl rfl Tryd.func19 (by kernel_rfl) rfl #[.int .u8 (bt a0 x4_1)] rfl (by (try simp only [List.map_toArray, List.map_cons, List.map_nil]); first | done | rfl | (simp only [List.length_drop, List.length_take]; rfl)) ?_; (with_reducible refine (umlautref17_digit.calls (bt a0 x4_1) false _ A25.out).mono ?_); rintro e w' ⟨rfl, ⟨nd, rfl⟩⟩; refine ⟨_, rfl, ?_⟩) | ((with_reducible refine gate_callee (f := 21) rfl ?_); refine goesL_ (some 135) rfl rfl Tryd.func21 (by kernel_rfl) rfl #[.int .u8 (bt a0 x4_1)] rfl (by (try simp only [List.map_toArray, List.map_cons, List.map_nil]); first | done | rfl | (simp only [List.length_drop, List.length_take]; rfl)) ?_; (with_reducible refine (umlautref17_letter.calls (bt a0 x4_1) true _ A49.out).mono ?_); rintro e w' ⟨rfl, ⟨nd, rfl⟩⟩; refine ⟨_, rfl, ?_⟩))
                                (try simp only [Act.put, List.setIfInBounds_toArray, List.set_cons_zero, List.set_cons_succ])
                                go_cut [6] (fun v6 wc => ∃ (kq : Nat) (x6_50 : Int), v6 = .int .i64 x6_50 ∧ Aside0 (umlautref17_Tokens.j7 kq a0 x3_1 x4_1 x6_50 = some (r1, r2, r3)) ∧ Aside0 (kq ≤ kj13) ∧ Aside0 (Kd.R k37 37 wc w.heap.size (fun _ => True) u3 x3_1) ∧ Aside0 (wc.heap[gb194]? = some (.cells #[(.slice none 0 0), .int .i64 x195001_1, .int .i64 x195002_1] 35 (0, 0))) ∧ Aside0 (Below w.heap.size w wc))
                                case first =>
                                  have H := HC51.out
                                  clear HC51
                                  have H' := Aside0.mk H
                                  clear H
                                  as_aux_lemma =>
                                   go_wp2
                                   go_loopg [6] kj13 (fun kq v6 w' => ∃ (x6_4 : Int), v6 = .int .i64 x6_4 ∧ Aside0 (umlautref17_Tokens.l3 kq a0 x3_1 x4_1 x6_4 = some (r1, r2, r3)) ∧ Aside0 (kq ≤ kj13) ∧ Aside0 (Kd.R k37 37 w' w.heap.size (fun _ => True) u3 x3_1) ∧ Aside0 (w'.heap[gb194]? = some (.cells #[(.slice none 0 0), .int .i64 x195001_1, .int .i64 x195002_1] 35 (0, 0))) ∧ Aside0 (Below w.heap.size w w'))
                                   case atStart => exact ⟨(x4_1), (by first | rfl | (simp; done) | (simp [*]; done)), H', ⟨Nat.le_refl _⟩, ⟨by (with_reducible repeat (first | apply Kd.R_alloc | apply Kd.R_drewN | apply Kd.R_drew)); exact HO_3.out⟩, ⟨by (with_reducible repeat (first | refine blk_drewN ?_ _ | refine blk_drew ?_ | refine blk_alloc ?_ _)); exact BK194.out⟩, ⟨by repeat (first | (with_reducible first | exact HB.out | apply below_alloc | apply pw_below_drewN | apply below_drew1 | refine below_set ?_ GE194.out) | exact HB.out)⟩⟩
                                   case round =>
                                     clear H'
                                     try clear c1
                                     try clear p1
                                     try clear q1
                                     try clear hx1
                                     try clear c2
                                     try clear c2b0
                                     try clear c2b1
                                     try clear p2
                                     try clear q2
                                     try clear hx2
                                     try clear c3
                                     try clear p3
                                     try clear q3
                                     try clear hx3
                                     try clear c4
                                     try clear p4
                                     try clear q4
                                     try clear hx4
                                     try clear c5
                                     try clear c6
                                     try clear c6b0
                                     try clear p6
                                     try clear c7
                                     try clear c7b0
                                     try clear p8
                                     try clear q8
                                     try clear hx8
                                     try clear c10
                                     try clear c10b0
                                     try clear c10b1
                                     try clear c11
                                     try clear c11b0
                                     try clear c11b1
                                     try clear c12
                                     try clear c12b0
                                     try clear c12b1
                                     try clear c13
                                     try clear c15
                                     try clear c15b0
                                     try clear c15b1
                                     try clear c16
                                     try clear c16b0
                                     try clear c18
                                     try clear c18b0
                                     try clear c19
                                     try clear p19
                                     try clear q19
                                     try clear hx19
                                     try clear c20
                                     try clear c21
                                     try clear c21b0
                                     try clear c22
                                     try clear c22b0
                                     try clear p23
                                     try clear q23
                                     try clear hx23
                                     try clear c24
                                     try clear c24b0
                                     try clear c24b1
                                     try clear c26
                                     try clear c28
                                     try clear c28b0
                                     try clear c29
                                     try clear c29b0
                                     try clear p30
                                     try clear q30
                                     try clear hx30
                                     try clear c32
                                     try clear c33
                                     try clear c33b0
                                     try clear c33b1
                                     try clear c34
                                     try clear c34b0
                                     try clear c34b1
                                     try clear c35
                                     try clear c35b0
                                     try clear c35b1
                                     try clear c37
                                     try clear c37b0
                                     try clear c37b1
                                     try clear c38
                                     try clear c38b0
                                     try clear c39
                                     try clear c39b0
                                     try clear p40
                                     try clear q40
                                     try clear hx40
                                     try clear c42
                                     try clear c44
                                     try clear c46
                                     try clear c50
                                     try clear hcz43_0
                                     try clear hcz43_1
                                     try clear hcz43_2
                                     try clear hcz48_0
                                     try clear hcz48_1
                                     try clear hcz48_2
                                     try clear hcz4_0
                                     try clear hcz4_1
                                     try clear hcz4_2
                                     try clear hfz43_0
                                     try clear hfz43_1
                                     try clear hfz43_2
                                     try clear hfz48_0
                                     try clear hfz48_1
                                     try clear hfz48_2
                                     try clear hfz4_0
                                     try clear hfz4_1
                                     try clear hfz4_2
                                     try clear p1
                                     try clear p19
                                     try clear p2
                                     try clear p23
                                     try clear p3
                                     try clear p30
                                     try clear p40
                                     try clear p6
                                     try clear p8
                                     try clear q1
                                     try clear q19
                                     try clear q2
                                     try clear q23
                                     try clear q3
                                     try clear q30
                                     try clear q40
                                     try clear q8
                                     obtain ⟨x6_4, rfl, HA, HK4, HO_3, BK194, HB⟩ := hrel
                                     cases gk with
                                     | zero => exact absurd HA.out (by simp [umlautref17_Tokens.l3])
                                     | succ k4 =>
                                       have H := HA.out
                                       clear HA
                                       simp only [umlautref17_Tokens.l3] at H
                                       by_cases c52 : x6_4 < (a0.size : Int)
                                       · rw [if_pos c52] at H
                                         have c52b0 : decide (x6_4 < (a0.size : Int)) = true := decide_eq_true c52
                                         clear c52
                                         (first | rw [c52b0] | (simp only [i64_w, i32_w]; rw [c52b0]) | skip)
                                         by_cases c53 : 0 ≤ x6_4
                                         · rw [if_pos c53] at H
                                           have c53b0 : decide (0 ≤ x6_4) = true := decide_eq_true c53
                                           clear c53
                                           replace H := Option.bind_eq_some_iff.mp H
                                           obtain ⟨t207, A550, H⟩ := H
                                           replace H : (if t207 = true then (umlautref17_Tokens.l3 k4 a0 x3_1 x4_1 (wrap64 (x6_4 + 1))) else (umlautref17_Tokens.j7 k4 a0 x3_1 x4_1 x6_4)) = some (r1, r2, r3) := H
                                           have A55 := Aside0.mk A550
                                           clear A550
                                           by_cases c56 : t207 = true
                                           · subst c56
                                             have H1 : (umlautref17_Tokens.l3 k4 a0 x3_1 x4_1 (wrap64 (x6_4 + 1))) = some (r1, r2, r3) := by rw [if_pos rfl] at H; exact H
                                             clear H
                                             have H := H1
                                             clear H1
                                             have H' := Aside0.mk H
                                             clear H
                                             have p54 : 0 ≤ (x6_4 : Int) := of_decide_eq_true (by first | (with_reducible assumption) | assumption)
                                             have q54 : x6_4 < (a0.size : Int) := of_decide_eq_true (by first | (with_reducible assumption) | assumption)
                                             have hx54 := bt_at a0 x6_4
                                             replace p54 := eq_true p54
                                             replace q54 := eq_true q54
                                             as_aux_lemma =>
                                              go_wp2_with (first | (go_at_call 21; (with_reducible refine (umlautref17_letter.calls (bt a0 x6_4) true _ A55.out).mono ?_); rintro e w' ⟨rfl, ⟨nd, rfl⟩⟩))
                                              go_roundg k4
                                              case measure => have := HK1.out; have := HJ8.out; have := HJ13.out; have := HK4.out; omega
                                              case rel => exact ⟨(wrap64 (x6_4 + 1)), (by first | rfl | (simp; done) | (simp [*]; done)), H', ⟨by have := HK1.out; have := HJ8.out; have := HJ13.out; have := HK4.out; omega⟩, ⟨by (with_reducible repeat (first | apply Kd.R_alloc | apply Kd.R_drewN | apply Kd.R_drew)); exact HO_3.out⟩, ⟨by (with_reducible repeat (first | refine blk_drewN ?_ _ | refine blk_drew ?_ | refine blk_alloc ?_ _)); exact BK194.out⟩, ⟨by repeat (first | (with_reducible first | exact HB.out | apply below_alloc | apply pw_below_drewN | apply below_drew1 | refine below_set ?_ GE194.out) | exact HB.out)⟩⟩
                                           · replace c56 := Bool.eq_false_iff.mpr c56
                                             subst c56
                                             have H1 : (umlautref17_Tokens.j7 k4 a0 x3_1 x4_1 x6_4) = some (r1, r2, r3) := by rw [if_neg (show ¬ (false = true) by decide)] at H; exact H
                                             clear H
                                             have H := H1
                                             clear H1
                                             have H' := Aside0.mk H
                                             clear H
                                             have p54 : 0 ≤ (x6_4 : Int) := of_decide_eq_true (by first | (with_reducible assumption) | assumption)
                                             have q54 : x6_4 < (a0.size : Int) := of_decide_eq_true (by first | (with_reducible assumption) | assumption)
                                             have hx54 := bt_at a0 x6_4
                                             replace p54 := eq_true p54
                                             replace q54 := eq_true q54
                                             as_aux_lemma =>
                                              go_wp2_with (first | (go_at_call 21; (with_reducible refine (umlautref17_letter.calls (bt a0 x6_4) false _ A55.out).mono ?_); rintro e w' ⟨rfl, ⟨nd, rfl⟩⟩))
                                              go_meet
                                              case rel => exact ⟨_, (x6_4), (by first | rfl | (simp; done) | (simp [*]; done)), H', ⟨by have := HK1.out; have := HJ8.out; have := HJ13.out; have := HK4.out; first | omega | exact Nat.le_refl _⟩, ⟨by (with_reducible repeat (first | apply Kd.R_alloc | apply Kd.R_drewN | apply Kd.R_drew)); exact HO_3.out⟩, ⟨by (with_reducible repeat (first | refine blk_drewN ?_ _ | refine blk_drew ?_ | refine blk_alloc ?_ _)); exact BK194.out⟩, ⟨by repeat (first | (with_reducible first | exact HB.out | apply below_alloc | apply pw_below_drewN | apply below_drew1 | refine below_set ?_ GE194.out) | exact HB.out)⟩⟩
                                         · rw [if_neg c53] at H
                                           exact absurd H (by simp)
                                       · rw [if_neg c52] at H
                                         have c52b0 : decide (x6_4 < (a0.size : Int)) = false := decide_eq_false c52
                                         clear c52
                                         (first | rw [c52b0] | (simp only [i64_w, i32_w]; rw [c52b0]) | skip)
                                         have H' := Aside0.mk H
                                         clear H
                                         as_aux_lemma =>
                                          go_wp2
                                          go_meet
                                          case rel => exact ⟨_, (x6_4), (by first | rfl | (simp; done) | (simp [*]; done)), H', ⟨by have := HK1.out; have := HJ8.out; have := HJ13.out; have := HK4.out; first | omega | exact Nat.le_refl _⟩, ⟨by (with_reducible repeat (first | apply Kd.R_alloc | apply Kd.R_drewN | apply Kd.R_drew)); exact HO_3.out⟩, ⟨by (with_reducible repeat (first | refine blk_drewN ?_ _ | refine blk_drew ?_ | refine blk_alloc ?_ _)); exact BK194.out⟩, ⟨by repeat (first | (with_reducible first | exact HB.out | apply below_alloc | apply pw_below_drewN | apply below_drew1 | refine below_set ?_ GE194.out) | exact HB.out)⟩⟩
                                case rest =>
                                  clear HC51
                                  try clear c1
                                  try clear p1
                                  try clear q1
                                  try clear hx1
                                  try clear c2
                                  try clear c2b0
                                  try clear c2b1
                                  try clear p2
                                  try clear q2
                                  try clear hx2
                                  try clear c3
                                  try clear p3
                                  try clear q3
                                  try clear hx3
                                  try clear c4
                                  try clear p4
                                  try clear q4
                                  try clear hx4
                                  try clear c5
                                  try clear p5
                                  try clear q5
                                  try clear hx5
                                  try clear c6
                                  try clear c6b0
                                  try clear p6
                                  try clear c7
                                  try clear c7b0
                                  try clear p8
                                  try clear q8
                                  try clear hx8
                                  try clear c10
                                  try clear c10b0
                                  try clear c10b1
                                  try clear c11
                                  try clear c11b0
                                  try clear c11b1
                                  try clear c12
                                  try clear c12b0
                                  try clear c12b1
                                  try clear c13
                                  try clear c15
                                  try clear c15b0
                                  try clear c15b1
                                  try clear c16
                                  try clear c16b0
                                  try clear c18
                                  try clear c18b0
                                  try clear c19
                                  try clear p19
                                  try clear q19
                                  try clear hx19
                                  try clear c20
                                  try clear c21
                                  try clear c21b0
                                  try clear c22
                                  try clear c22b0
                                  try clear p23
                                  try clear q23
                                  try clear hx23
                                  try clear c24
                                  try clear c24b0
                                  try clear c24b1
                                  try clear c26
                                  try clear c28
                                  try clear c28b0
                                  try clear c29
                                  try clear c29b0
                                  try clear p30
                                  try clear q30
                                  try clear hx30
                                  try clear c32
                                  try clear c33
                                  try clear c33b0
                                  try clear c33b1
                                  try clear c34
                                  try clear c34b0
                                  try clear c34b1
                                  try clear c35
                                  try clear c35b0
                                  try clear c35b1
                                  try clear c37
                                  try clear c37b0
                                  try clear c37b1
                                  try clear c38
                                  try clear c38b0
                                  try clear c39
                                  try clear c39b0
                                  try clear p40
                                  try clear q40
                                  try clear hx40
                                  try clear c42
                                  try clear c44
                                  try clear c46
                                  try clear c50
                                  try clear c52
                                  try clear c52b0
                                  try clear c53
                                  try clear c53b0
                                  try clear p54
                                  try clear q54
                                  try clear hx54
                                  try clear c56
                                  try clear hcz43_0
                                  try clear hcz43_1
                                  try clear hcz43_2
                                  try clear hcz48_0
                                  try clear hcz48_1
                                  try clear hcz48_2
                                  try clear hcz4_0
                                  try clear hcz4_1
                                  try clear hcz4_2
                                  try clear hfz43_0
                                  try clear hfz43_1
                                  try clear hfz43_2
                                  try clear hfz48_0
                                  try clear hfz48_1
                                  try clear hfz48_2
                                  try clear hfz4_0
                                  try clear hfz4_1
                                  try clear hfz4_2
                                  try clear p1
                                  try clear p19
                                  try clear p2
                                  try clear p23
                                  try clear p3
                                  try clear p30
                                  try clear p4
                                  try clear p40
                                  try clear p54
                                  try clear p6
                                  try clear p8
                                  try clear q1
                                  try clear q19
                                  try clear q2
                                  try clear q23
                                  try clear q3
                                  try clear q30
                                  try clear q4
                                  try clear q40
                                  try clear q54
                                  try clear q8
                                  obtain ⟨kq, x6_50, rfl, HA, HJ50, HO_3, BK194, HB⟩ := hcut
                                  cases kq with
                                  | zero => exact absurd HA.out (by simp [umlautref17_Tokens.j7])
                                  | succ kj50 =>
                                    have H := HA.out
                                    clear HA
                                    simp only [umlautref17_Tokens.j7] at H
                                    by_cases c57 : (wrap64 (x6_50 - x4_1)) > 16
                                    · rw [if_pos c57] at H
                                      have c57b0 : decide (16 < (wrap64 (x6_50 - x4_1))) = true := decide_eq_true c57
                                      clear c57
                                      simp only [Option.some.injEq, Prod.mk.injEq] at H
                                      obtain ⟨rfl, rfl, rfl⟩ := H
                                      have hcz58_0 : wc.cell? ⟨gb194, 0, none⟩ = some (.slice none 0 0) := (blk_cell BK194.out 0).trans rfl
                                      have hcz58_1 : wc.cell? ⟨gb194, 1, none⟩ = some (.int .i64 x195001_1) := (blk_cell BK194.out 1).trans rfl
                                      have hcz58_2 : wc.cell? ⟨gb194, 2, none⟩ = some (.int .i64 x195002_1) := (blk_cell BK194.out 2).trans rfl
                                      have hfz58_0 := blk_frozen BK194.out 0
                                      have hfz58_1 := blk_frozen BK194.out 1
                                      have hfz58_2 := blk_frozen BK194.out 2
                                      as_aux_lemma =>
                                       go_wp2
                                       refine bodyPost_ret (results_cell_row rfl _ _ gb194 35 #[.slice none 0 0, .int .i64 x4_1, .int .i64 10] (0, 0) _ rfl (by (with_reducible repeat (first | refine blk_drewN ?_ _ | refine blk_drew ?_ | refine blk_alloc ?_ _)); refine blk_put (cs := #[.slice none 0 0, .int .i64 x4_1, .int .i64 x195002_1]) ?_ 2 _ rfl; (with_reducible repeat (first | refine blk_drewN ?_ _ | refine blk_drew ?_ | refine blk_alloc ?_ _)); refine blk_put (cs := #[.slice none 0 0, .int .i64 x195001_1, .int .i64 x195002_1]) ?_ 1 _ rfl; (with_reducible repeat (first | refine blk_drewN ?_ _ | refine blk_drew ?_ | refine blk_alloc ?_ _)); refine blk_put (cs := #[.slice none 0 0, .int .i64 x195001_1, .int .i64 x195002_1]) ?_ 0 _ rfl; (with_reducible repeat (first | refine blk_drewN ?_ _ | refine blk_drew ?_ | refine blk_alloc ?_ _)); exact BK194.out) Tryd.underlying35 rfl (by kernel_rfl)) rfl ?_
                                       exact ⟨_, by first | rfl | (simp [errW_none, errW_some] <;> rfl) | (simp [*, errW_none, errW_some] <;> rfl), by first | exact Kd.R_nil _ _ _ _ _ | exact Kd.N_nil _ _ _ _ _ | exact Kd.V_nil _ _ _ _ _ | exact Kd.Q_nil _ _ _ _ _ | exact Kd.S_nil _ _ _ _ _, by repeat (first | (with_reducible first | exact HB.out | apply below_alloc | apply pw_below_drewN | apply below_drew1 | refine below_set ?_ GE194.out) | exact HB.out)⟩
                                    · rw [if_neg c57] at H
                                      have c57b0 : decide (16 < (wrap64 (x6_50 - x4_1))) = false := decide_eq_false c57
                                      clear c57
                                      by_cases c59 : 0 ≤ x4_1
                                      · rw [if_pos c59] at H
                                        have c59b0 := eq_true c59
                                        have c59b1 : decide (0 ≤ x4_1) = true := decide_eq_true c59
                                        clear c59
                                        by_cases c60 : x4_1 ≤ x6_50
                                        · rw [if_pos c60] at H
                                          have c60b0 := eq_true c60
                                          have c60b1 : decide (x4_1 ≤ x6_50) = true := decide_eq_true c60
                                          clear c60
                                          by_cases c61 : x6_50 ≤ (a0.size : Int)
                                          · rw [if_pos c61] at H
                                            have c61b0 := eq_true c61
                                            have c61b1 : decide (x6_50 ≤ (a0.size : Int)) = true := decide_eq_true c61
                                            clear c61
                                            replace H := Option.bind_eq_some_iff.mp H
                                            obtain ⟨t208, A620, H⟩ := H
                                            replace H : ((umlautref17_isWord.f kj50 t208).bind fun t209 => (if t209 = true then (if x3_1.length < 3518437208883 then (umlautref17_Tokens.l0 kj50 a0 (x3_1 ++ [(⟨2, t208, 0, x4_1⟩ : S37)]) x6_50) else (none)) else ((umlautref17_lower.f (a0.extract (x4_1 : Int).toNat (x6_50 : Int).toNat)).bind fun t213 => (if x3_1.length < 3518437208883 then (umlautref17_Tokens.l0 kj50 a0 (x3_1 ++ [(⟨1, t213, 0, x4_1⟩ : S37)]) x6_50) else (none))))) = some (r1, r2, r3) := H
                                            have A62 := Aside0.mk A620
                                            clear A620
                                            replace H := Option.bind_eq_some_iff.mp H
                                            obtain ⟨t209, A630, H⟩ := H
                                            replace H : (if t209 = true then (if x3_1.length < 3518437208883 then (umlautref17_Tokens.l0 kj50 a0 (x3_1 ++ [(⟨2, t208, 0, x4_1⟩ : S37)]) x6_50) else (none)) else ((umlautref17_lower.f (a0.extract (x4_1 : Int).toNat (x6_50 : Int).toNat)).bind fun t213 => (if x3_1.length < 3518437208883 then (umlautref17_Tokens.l0 kj50 a0 (x3_1 ++ [(⟨1, t213, 0, x4_1⟩ : S37)]) x6_50) else (none)))) = some (r1, r2, r3) := H
                                            have A63 := Aside0.mk A630
                                            clear A630
                                            by_cases c64 : t209 = true
                                            · subst c64
                                              have H1 : (if x3_1.length < 3518437208883 then (umlautref17_Tokens.l0 kj50 a0 (x3_1 ++ [(⟨2, t208, 0, x4_1⟩ : S37)]) x6_50) else (none)) = some (r1, r2, r3) := by rw [if_pos rfl] at H; exact H
                                              clear H
                                              have H := H1
                                              clear H1
                                              by_cases c65 : x3_1.length < 3518437208883
                                              · rw [if_pos c65] at H
                                                have LMc65 := Aside0.mk c65
                                                clear c65
                                                obtain ⟨y210, hy210⟩ : ∃ y_ : List (S37), y_ = (x3_1 ++ [(⟨2, t208, 0, x4_1⟩ : S37)]) := ⟨_, rfl⟩
                                                replace H : (umlautref17_Tokens.l0 kj50 a0 y210 x6_50) = some (r1, r2, r3) := by first | (rw [hy210]; with_reducible exact H) | (have H2_ := (Option.bind_some _ _).symm.trans H; rw [hy210]; with_reducible exact H2_) | (have H2_ := (Option.bind_some _ _).symm.trans H; with_reducible exact H2_) | with_reducible exact H | (rw [hy210]; exact H) | exact H
                                                have Ny210 := Aside0.mk hy210
                                                clear hy210
                                                have H' := Aside0.mk H
                                                clear H
                                                as_aux_lemma =>
                                                 go_wp2_with (first | ((with_reducible refine gate_callee (f := 22) rfl ?_); refine goesL_ (some 158) rfl rfl Tryd.func22 (by kernel_rfl) rfl #[.string (a0.extract (x4_1 : Int).toNat (x6_50 : Int).toNat)] rfl (by (try simp only [List.map_toArray, List.map_cons, List.map_nil]); first | done | rfl | (simp only [List.length_drop, List.length_take]; rfl)) ?_; (with_reducible refine (umlautref17_upper.calls (a0.extract (x4_1 : Int).toNat (x6_50 : Int).toNat) t208 _ A62.out).mono ?_); rintro e w66 ⟨rfl, hb⟩; refine ⟨_, rfl, ?_⟩; have n0_ := Aside0.mk (Kd.R_below (by (with_reducible repeat (first | apply Kd.R_alloc | apply Kd.R_drewN | apply Kd.R_drew)); exact HO_3.out) hb); have n1_ := Aside0.mk (blk_below (g := gb194) (o := .cells #[.slice none 0 0, .int .i64 x195001_1, .int .i64 x195002_1] 35 (0, 0)) (by (with_reducible repeat (first | refine blk_drewN ?_ _ | refine blk_drew ?_ | refine blk_alloc ?_ _)); exact BK194.out) hb); have n2_ := Aside0.mk (below_step (by repeat (first | (with_reducible first | exact HB.out | apply below_alloc | apply pw_below_drewN | apply below_drew1 | refine below_set ?_ GE194.out) | exact HB.out)) hb); clear HO_3; clear BK194; clear HB; have HO_3 := n0_; have BK194 := n1_; have HB := n2_; clear n0_ n1_ n2_; (try clear hb); (try clear hb2); (try clear hk); (try clear hi)) | ((with_reducible refine gate_callee (f := 23) rfl ?_); refine goesL_ (some 160) rfl rfl Tryd.func23 (by kernel_rfl) rfl #[.string t208] rfl (by (try simp only [List.map_toArray, List.map_cons, List.map_nil]); first | done | rfl | (simp only [List.length_drop, List.length_take]; rfl)) ?_; (with_reducible refine (umlautref17_isWord.calls kj50 t208 true _ A63.out).mono ?_); rintro e w67 ⟨rfl, hb⟩; refine ⟨_, rfl, ?_⟩; have n0_ := Aside0.mk (Kd.R_below (by (with_reducible repeat (first | apply Kd.R_alloc | apply Kd.R_drewN | apply Kd.R_drew)); exact HO_3.out) hb); have n1_ := Aside0.mk (blk_below (g := gb194) (o := .cells #[.slice none 0 0, .int .i64 x195001_1, .int .i64 x195002_1] 35 (0, 0)) (by (with_reducible repeat (first | refine blk_drewN ?_ _ | refine blk_drew ?_ | refine blk_alloc ?_ _)); exact BK194.out) hb); have n2_ := Aside0.mk (below_step (by repeat (first | (with_reducible first | exact HB.out | apply below_alloc | apply pw_below_drewN | apply below_drew1 | refine below_set ?_ GE194.out) | exact HB.out)) hb); clear HO_3; clear BK194; clear HB; have HO_3 := n0_; have BK194 := n1_; have HB := n2_; clear n0_ n1_ n2_; (try clear hb); (try clear hb2); (try clear hk); (try clear hi)) | ((with_reducible refine gate_builtin (b := .append) (xs := #[.tmp 161, .tmp 165]) rfl ?_); (try (refine gate_guard (by rfl) ?_; dsimp only)); at_builtin; refine Kd.R_append k37 (w0 := w) w.heap.size rfl (.tmp 161) (.tmp 165) 33 37 (.agg #[(.int .i64 0), (.string ⟨#[]⟩), (.int .i64 0), (.int .i64 0)]) 40 rfl Tryd.underlying33 info37 rfl (by decide) (by omega) u3 x3_1 (⟨2, t208, 0, x4_1⟩ : S37) [.int .i64 2, .string t208, .int .i64 0, .int .i64 x4_1] (fun _ => True) (fun _ => False) rfl rfl ?aP (fun _ hk => hk.elim) ?aF ?aO ?aB ?aS ?aL ?_; (case aP => exact k37_mkM _ _ _ (⟨2, t208, 0, x4_1⟩ : S37)); (case aB => exact (by repeat (first | (with_reducible first | exact HB.out | apply below_alloc | apply pw_below_drewN | apply below_drew1 | refine below_set ?_ GE194.out) | exact HB.out))); (case aF => exact (fun _ _ => trivial)); (case aO => exact (by (with_reducible repeat (first | apply Kd.R_alloc | apply Kd.R_drewN | apply Kd.R_drew)); exact HO_3.out)); (case aS => exact (below_size (by repeat (first | (with_reducible first | exact HB.out | apply below_alloc | apply pw_below_drewN | apply below_drew1 | refine below_set ?_ GE194.out) | exact HB.out)))); (case aL => have := LMc65.out; omega); intro v211 w68 ho hb hg hat; rw [← Ny210.out] at ho; have n0_ := Aside0.mk (blk_grown (g := gb194) (o := .cells #[.slice none 0 0, .int .i64 x195001_1, .int .i64 x195002_1] 35 (0, 0)) (by (with_reducible repeat (first | refine blk_drewN ?_ _ | refine blk_drew ?_ | refine blk_alloc ?_ _)); exact BK194.out) hg (Kd.R_ne HO_3.out BK194.out (by decide))); have n1_ := Aside0.mk (hb); have n2_ := Aside0.mk (ho); clear BK194; clear HB; clear HO_3; have BK194 := n0_; have HB := n1_; have HO212 := n2_; clear n0_ n1_ n2_; clear ho hb hg hat))
                                                 go_roundg kj50
                                                 case measure => have := HK1.out; have := HJ8.out; have := HJ13.out; have := HJ50.out; omega
                                                 case rel => exact ⟨(y210), (x6_50), (x195001_1), (x195002_1), (by first | rfl | (simp; done) | (simp [*]; done)), H', ⟨by have := HK1.out; have := HJ8.out; have := HJ13.out; have := HJ50.out; omega⟩, ⟨by (with_reducible repeat (first | apply Kd.R_alloc | apply Kd.R_drewN | apply Kd.R_drew)); exact HO212.out⟩, ⟨by (with_reducible repeat (first | refine blk_drewN ?_ _ | refine blk_drew ?_ | refine blk_alloc ?_ _)); exact BK194.out⟩, ⟨by repeat (first | (with_reducible first | exact HB.out | apply below_alloc | apply pw_below_drewN | apply below_drew1 | refine below_set ?_ GE194.out) | exact HB.out)⟩⟩
                                              · rw [if_neg c65] at H
                                                exact absurd H (by simp)
                                            · replace c64 := Bool.eq_false_iff.mpr c64
                                              subst c64
                                              have H1 : ((umlautref17_lower.f (a0.extract (x4_1 : Int).toNat (x6_50 : Int).toNat)).bind fun t213 => (if x3_1.length < 3518437208883 then (umlautref17_Tokens.l0 kj50 a0 (x3_1 ++ [(⟨1, t213, 0, x4_1⟩ : S37)]) x6_50) else (none))) = some (r1, r2, r3) := by rw [if_neg (show ¬ (false = true) by decide)] at H; exact H
                                              clear H
                                              have H := H1
                                              clear H1
                                              have c69b0 := eq_true (of_decide_eq_true (by first | (with_reducible assumption) | assumption) : 0 ≤ x4_1)
                                              have c70b0 := eq_true (of_decide_eq_true (by first | (with_reducible assumption) | assumption) : x4_1 ≤ x6_50)
                                              have c71b0 := eq_true (of_decide_eq_true (by first | (with_reducible assumption) | assumption) : x6_50 ≤ (a0.size : Int))
                                              replace H := Option.bind_eq_some_iff.mp H
                                              obtain ⟨t213, A720, H⟩ := H
                                              replace H : (if x3_1.length < 3518437208883 then (umlautref17_Tokens.l0 kj50 a0 (x3_1 ++ [(⟨1, t213, 0, x4_1⟩ : S37)]) x6_50) else (none)) = some (r1, r2, r3) := H
                                              have A72 := Aside0.mk A720
                                              clear A720
                                              by_cases c73 : x3_1.length < 3518437208883
                                              · rw [if_pos c73] at H
                                                have LMc73 := Aside0.mk c73
                                                clear c73
                                                obtain ⟨y214, hy214⟩ : ∃ y_ : List (S37), y_ = (x3_1 ++ [(⟨1, t213, 0, x4_1⟩ : S37)]) := ⟨_, rfl⟩
                                                replace H : (umlautref17_Tokens.l0 kj50 a0 y214 x6_50) = some (r1, r2, r3) := by first | (rw [hy214]; with_reducible exact H) | (have H2_ := (Option.bind_some _ _).symm.trans H; rw [hy214]; with_reducible exact H2_) | (have H2_ := (Option.bind_some _ _).symm.trans H; with_reducible exact H2_) | with_reducible exact H | (rw [hy214]; exact H) | exact H
                                                have Ny214 := Aside0.mk hy214
                                                clear hy214
                                                have H' := Aside0.mk H
                                                clear H
                                                as_aux_lemma =>
                                                 go_wp2_with (first | ((with_reducible refine gate_callee (f := 22) rfl ?_); refine goesL_ (some 158) rfl rfl Tryd.func22 (by kernel_rfl) rfl #[.string (a0.extract (x4_1 : Int).toNat (x6_50 : Int).toNat)] rfl (by (try simp only [List.map_toArray, List.map_cons, List.map_nil]); first | done | rfl | (simp only [List.length_drop, List.length_take]; rfl)) ?_; (with_reducible refine (umlautref17_upper.calls (a0.extract (x4_1 : Int).toNat (x6_50 : Int).toNat) t208 _ A62.out).mono ?_); rintro e w74 ⟨rfl, hb⟩; refine ⟨_, rfl, ?_⟩; have n0_ := Aside0.mk (Kd.R_below (by (with_reducible repeat (first | apply Kd.R_alloc | apply Kd.R_drewN | apply Kd.R_drew)); exact HO_3.out) hb); have n1_ := Aside0.mk (blk_below (g := gb194) (o := .cells #[.slice none 0 0, .int .i64 x195001_1, .int .i64 x195002_1] 35 (0, 0)) (by (with_reducible repeat (first | refine blk_drewN ?_ _ | refine blk_drew ?_ | refine blk_alloc ?_ _)); exact BK194.out) hb); have n2_ := Aside0.mk (below_step (by repeat (first | (with_reducible first | exact HB.out | apply below_alloc | apply pw_below_drewN | apply below_drew1 | refine below_set ?_ GE194.out) | exact HB.out)) hb); clear HO_3; clear BK194; clear HB; have HO_3 := n0_; have BK194 := n1_; have HB := n2_; clear n0_ n1_ n2_; (try clear hb); (try clear hb2); (try clear hk); (try clear hi)) | ((with_reducible refine gate_callee (f := 23) rfl ?_); refine goesL_ (some 160) rfl rfl Tryd.func23 (by kernel_rfl) rfl #[.string t208] rfl (by (try simp only [List.map_toArray, List.map_cons, List.map_nil]); first | done | rfl | (simp only [List.length_drop, List.length_take]; rfl)) ?_; (with_reducible refine (umlautref17_isWord.calls kj50 t208 false _ A63.out).mono ?_); rintro e w75 ⟨rfl, hb⟩; refine ⟨_, rfl, ?_⟩; have n0_ := Aside0.mk (Kd.R_below (by (with_reducible repeat (first | apply Kd.R_alloc | apply Kd.R_drewN | apply Kd.R_drew)); exact HO_3.out) hb); have n1_ := Aside0.mk (blk_below (g := gb194) (o := .cells #[.slice none 0 0, .int .i64 x195001_1, .int .i64 x195002_1] 35 (0, 0)) (by (with_reducible repeat (first | refine blk_drewN ?_ _ | refine blk_drew ?_ | refine blk_alloc ?_ _)); exact BK194.out) hb); have n2_ := Aside0.mk (below_step (by repeat (first | (with_reducible first | exact HB.out | apply below_alloc | apply pw_below_drewN | apply below_drew1 | refine below_set ?_ GE194.out) | exact HB.out)) hb); clear HO_3; clear BK194; clear HB; have HO_3 := n0_; have BK194 := n1_; have HB := n2_; clear n0_ n1_ n2_; (try clear hb); (try clear hb2); (try clear hk); (try clear hi)) | ((with_reducible refine gate_callee (f := 24) rfl ?_); refine goesL_ (some 172) rfl rfl Tryd.func24 (by kernel_rfl) rfl #[.string (a0.extract (x4_1 : Int).toNat (x6_50 : Int).toNat)] rfl (by (try simp only [List.map_toArray, List.map_cons, List.map_nil]); first | done | rfl | (simp only [List.length_drop, List.length_take]; rfl)) ?_; (with_reducible refine (umlautref17_lower.calls (a0.extract (x4_1 : Int).toNat (x6_50 : Int).toNat) t213 _ A72.out).mono ?_); rintro e w76 ⟨rfl, hb⟩; refine ⟨_, rfl, ?_⟩; have n0_ := Aside0.mk (Kd.R_below (by (with_reducible repeat (first | apply Kd.R_alloc | apply Kd.R_drewN | apply Kd.R_drew)); exact HO_3.out) hb); have n1_ := Aside0.mk (blk_below (g := gb194) (o := .cells #[.slice none 0 0, .int .i64 x195001_1, .int .i64 x195002_1] 35 (0, 0)) (by (with_reducible repeat (first | refine blk_drewN ?_ _ | refine blk_drew ?_ | refine blk_alloc ?_ _)); exact BK194.out) hb); have n2_ := Aside0.mk (below_step (by repeat (first | (with_reducible first | exact HB.out | apply below_alloc | apply pw_below_drewN | apply below_drew1 | refine below_set ?_ GE194.out) | exact HB.out)) hb); clear HO_3; clear BK194; clear HB; have HO_3 := n0_; have BK194 := n1_; have HB := n2_; clear n0_ n1_ n2_; (try clear hb); (try clear hb2); (try clear hk); (try clear hi)) | ((with_reducible refine gate_builtin (b := .append) (xs := #[.tmp 167, .tmp 175]) rfl ?_); (try (refine gate_guard (by rfl) ?_; dsimp only)); at_builtin; refine Kd.R_append k37 (w0 := w) w.heap.size rfl (.tmp 167) (.tmp 175) 33 37 (.agg #[(.int .i64 0), (.string ⟨#[]⟩), (.int .i64 0), (.int .i64 0)]) 40 rfl Tryd.underlying33 info37 rfl (by decide) (by omega) u3 x3_1 (⟨1, t213, 0, x4_1⟩ : S37) [.int .i64 1, .string t213, .int .i64 0, .int .i64 x4_1] (fun _ => True) (fun _ => False) rfl rfl ?aP (fun _ hk => hk.elim) ?aF ?aO ?aB ?aS ?aL ?_; (case aP => exact k37_mkM _ _ _ (⟨1, t213, 0, x4_1⟩ : S37)); (case aB => exact (by repeat (first | (with_reducible first | exact HB.out | apply below_alloc | apply pw_below_drewN | apply below_drew1 | refine below_set ?_ GE194.out) | exact HB.out))); (case aF => exact (fun _ _ => trivial)); (case aO => exact (by (with_reducible repeat (first | apply Kd.R_alloc | apply Kd.R_drewN | apply Kd.R_drew)); exact HO_3.out)); (case aS => exact (below_size (by repeat (first | (with_reducible first | exact HB.out | apply below_alloc | apply pw_below_drewN | apply below_drew1 | refine below_set ?_ GE194.out) | exact HB.out)))); (case aL => have := LMc73.out; omega); intro v215 w77 ho hb hg hat; rw [← Ny214.out] at ho; have n0_ := Aside0.mk (blk_grown (g := gb194) (o := .cells #[.slice none 0 0, .int .i64 x195001_1, .int .i64 x195002_1] 35 (0, 0)) (by (with_reducible repeat (first | refine blk_drewN ?_ _ | refine blk_drew ?_ | refine blk_alloc ?_ _)); exact BK194.out) hg (Kd.R_ne HO_3.out BK194.out (by decide))); have n1_ := Aside0.mk (hb); have n2_ := Aside0.mk (ho); clear BK194; clear HB; clear HO_3; have BK194 := n0_; have HB := n1_; have HO216 := n2_; clear n0_ n1_ n2_; clear ho hb hg hat))
                                                 go_roundg kj50
                                                 case measure => have := HK1.out; have := HJ8.out; have := HJ13.out; have := HJ50.out; omega
                                                 case rel => exact ⟨(y214), (x6_50), (x195001_1), (x195002_1), (by first | rfl | (simp; done) | (simp [*]; done)), H', ⟨by have := HK1.out; have := HJ8.out; have := HJ13.out; have := HJ50.out; omega⟩, ⟨by (with_reducible repeat (first | apply Kd.R_alloc | apply Kd.R_drewN | apply Kd.R_drew)); exact HO216.out⟩, ⟨by (with_reducible repeat (first | refine blk_drewN ?_ _ | refine blk_drew ?_ | refine blk_alloc ?_ _)); exact BK194.out⟩, ⟨by repeat (first | (with_reducible first | exact HB.out | apply below_alloc | apply pw_below_drewN | apply below_drew1 | refine below_set ?_ GE194.out) | exact HB.out)⟩⟩
                                              · rw [if_neg c73] at H
                                                exact absurd H (by simp)
                                          · rw [if_neg c61] at H
                                            exact absurd H (by simp)
                                        · rw [if_neg c60] at H
                                          exact absurd H (by simp)
                                      · rw [if_neg c59] at H
                                        exact absurd H (by simp)
                             · replace c50 := Bool.eq_false_iff.mpr c50
                               subst c50
                               have H1 : (if (bt a0 x4_1) = 39 then ((umlautref17_text.f kj13 a0 x4_1).bind fun bt217 => (if bt217.2.2 = true then (if x3_1.length < 3518437208883 then (umlautref17_Tokens.l0 kj13 a0 (x3_1 ++ [(⟨4, bt217.1, 0, x4_1⟩ : S37)]) bt217.2.1) else (none)) else (some (([] : List (S37)), x4_1, 10)))) else (if 0 ≤ x4_1 then (if x4_1 ≤ (a0.size : Int) then ((umlautref17_op.f kj13 (a0.extract (x4_1 : Int).toNat a0.size)).bind fun t223 => (if t223.toList = ([] : List UInt8) then (some (([] : List (S37)), x4_1, 10)) else (if x3_1.length < 3518437208883 then (umlautref17_Tokens.l0 kj13 a0 (x3_1 ++ [(⟨5, t223, 0, x4_1⟩ : S37)]) (wrap64 (x4_1 + (t223.size : Int)))) else (none)))) else (none)) else (none))) = some (r1, r2, r3) := by rw [if_neg (show ¬ (false = true) by decide)] at H; exact H
                               clear H
                               have H := H1
                               clear H1
                               by_cases c78 : (bt a0 x4_1) = 39
                               · rw [if_pos c78] at H
                                 have c78b0 : ((bt a0 x4_1) == 39) = true := beq_iff_eq.mpr c78
                                 have c78b1 : ((bt a0 x4_1) != 39) = false := bne_eq_false_iff_eq.mpr c78
                                 clear c78
                                 replace H := Option.bind_eq_some_iff.mp H
                                 obtain ⟨⟨t217, t218, t219⟩, A790, H⟩ := H
                                 replace H : (if t219 = true then (if x3_1.length < 3518437208883 then (umlautref17_Tokens.l0 kj13 a0 (x3_1 ++ [(⟨4, t217, 0, x4_1⟩ : S37)]) t218) else (none)) else (some (([] : List (S37)), x4_1, 10))) = some (r1, r2, r3) := H
                                 have A79 := Aside0.mk A790
                                 clear A790
                                 by_cases c80 : t219 = true
                                 · subst c80
                                   have H1 : (if x3_1.length < 3518437208883 then (umlautref17_Tokens.l0 kj13 a0 (x3_1 ++ [(⟨4, t217, 0, x4_1⟩ : S37)]) t218) else (none)) = some (r1, r2, r3) := by rw [if_pos rfl] at H; exact H
                                   clear H
                                   have H := H1
                                   clear H1
                                   by_cases c81 : x3_1.length < 3518437208883
                                   · rw [if_pos c81] at H
                                     have LMc81 := Aside0.mk c81
                                     clear c81
                                     obtain ⟨y220, hy220⟩ : ∃ y_ : List (S37), y_ = (x3_1 ++ [(⟨4, t217, 0, x4_1⟩ : S37)]) := ⟨_, rfl⟩
                                     replace H : (umlautref17_Tokens.l0 kj13 a0 y220 t218) = some (r1, r2, r3) := by first | (rw [hy220]; with_reducible exact H) | (have H2_ := (Option.bind_some _ _).symm.trans H; rw [hy220]; with_reducible exact H2_) | (have H2_ := (Option.bind_some _ _).symm.trans H; with_reducible exact H2_) | with_reducible exact H | (rw [hy220]; exact H) | exact H
                                     have Ny220 := Aside0.mk hy220
                                     clear hy220
                                     have H' := Aside0.mk H
                                     clear H
                                     as_aux_lemma =>
                                      go_wp2_with (first | ((with_reducible refine gate_callee (f := 19) rfl ?_); refine goesL_ (some 90) rfl rfl Tryd.func19 (by kernel_rfl) rfl #[.int .u8 (bt a0 x4_1)] rfl (by (try simp only [List.map_toArray, List.map_cons, List.map_nil]); first | done | rfl | (simp only [List.length_drop, List.length_take]; rfl)) ?_; (with_reducible refine (umlautref17_digit.calls (bt a0 x4_1) false _ A25.out).mono ?_); rintro e w' ⟨rfl, ⟨nd, rfl⟩⟩; refine ⟨_, rfl, ?_⟩) | ((with_reducible refine gate_callee (f := 21) rfl ?_); refine goesL_ (some 135) rfl rfl Tryd.func21 (by kernel_rfl) rfl #[.int .u8 (bt a0 x4_1)] rfl (by (try simp only [List.map_toArray, List.map_cons, List.map_nil]); first | done | rfl | (simp only [List.length_drop, List.length_take]; rfl)) ?_; (with_reducible refine (umlautref17_letter.calls (bt a0 x4_1) false _ A49.out).mono ?_); rintro e w' ⟨rfl, ⟨nd, rfl⟩⟩; refine ⟨_, rfl, ?_⟩) | ((with_reducible refine gate_callee (f := 25) rfl ?_); refine goesL_ (some 183) rfl rfl Tryd.func25 (by kernel_rfl) rfl #[.string a0, .int .i64 x4_1] rfl (by (try simp only [List.map_toArray, List.map_cons, List.map_nil]); first | done | rfl | (simp only [List.length_drop, List.length_take]; rfl)) ?_; (with_reducible refine (umlautref17_text.calls kj13 a0 x4_1 t217 t218 true _ A79.out).mono ?_); rintro e w' ⟨rfl, ⟨nd, rfl⟩⟩; refine ⟨_, rfl, ?_⟩) | ((with_reducible refine gate_builtin (b := .append) (xs := #[.tmp 191, .tmp 195]) rfl ?_); (try (refine gate_guard (by rfl) ?_; dsimp only)); at_builtin; refine Kd.R_append k37 (w0 := w) w.heap.size rfl (.tmp 191) (.tmp 195) 33 37 (.agg #[(.int .i64 0), (.string ⟨#[]⟩), (.int .i64 0), (.int .i64 0)]) 40 rfl Tryd.underlying33 info37 rfl (by decide) (by omega) u3 x3_1 (⟨4, t217, 0, x4_1⟩ : S37) [.int .i64 4, .string t217, .int .i64 0, .int .i64 x4_1] (fun _ => True) (fun _ => False) rfl rfl ?aP (fun _ hk => hk.elim) ?aF ?aO ?aB ?aS ?aL ?_; (case aP => exact k37_mkM _ _ _ (⟨4, t217, 0, x4_1⟩ : S37)); (case aB => exact (by repeat (first | (with_reducible first | exact HB.out | apply below_alloc | apply pw_below_drewN | apply below_drew1 | refine below_set ?_ GE194.out) | exact HB.out))); (case aF => exact (fun _ _ => trivial)); (case aO => exact (by (with_reducible repeat (first | apply Kd.R_alloc | apply Kd.R_drewN | apply Kd.R_drew)); exact HO_3.out)); (case aS => exact (below_size (by repeat (first | (with_reducible first | exact HB.out | apply below_alloc | apply pw_below_drewN | apply below_drew1 | refine below_set ?_ GE194.out) | exact HB.out)))); (case aL => have := LMc81.out; omega); intro v221 w82 ho hb hg hat; rw [← Ny220.out] at ho; have n0_ := Aside0.mk (blk_grown (g := gb194) (o := .cells #[.slice none 0 0, .int .i64 x195001_1, .int .i64 x195002_1] 35 (0, 0)) (by (with_reducible repeat (first | refine blk_drewN ?_ _ | refine blk_drew ?_ | refine blk_alloc ?_ _)); exact BK194.out) hg (Kd.R_ne HO_3.out BK194.out (by decide))); have n1_ := Aside0.mk (hb); have n2_ := Aside0.mk (ho); clear BK194; clear HB; clear HO_3; have BK194 := n0_; have HB := n1_; have HO222 := n2_; clear n0_ n1_ n2_; clear ho hb hg hat))
                                      go_roundg kj13
                                      case measure => have := HK1.out; have := HJ8.out; have := HJ13.out; omega
                                      case rel => exact ⟨(y220), (t218), (x195001_1), (x195002_1), (by first | rfl | (simp; done) | (simp [*]; done)), H', ⟨by have := HK1.out; have := HJ8.out; have := HJ13.out; omega⟩, ⟨by (with_reducible repeat (first | apply Kd.R_alloc | apply Kd.R_drewN | apply Kd.R_drew)); exact HO222.out⟩, ⟨by (with_reducible repeat (first | refine blk_drewN ?_ _ | refine blk_drew ?_ | refine blk_alloc ?_ _)); exact BK194.out⟩, ⟨by repeat (first | (with_reducible first | exact HB.out | apply below_alloc | apply pw_below_drewN | apply below_drew1 | refine below_set ?_ GE194.out) | exact HB.out)⟩⟩
                                   · rw [if_neg c81] at H
                                     exact absurd H (by simp)
                                 · replace c80 := Bool.eq_false_iff.mpr c80
                                   subst c80
                                   have H1 : (some (([] : List (S37)), x4_1, 10)) = some (r1, r2, r3) := by rw [if_neg (show ¬ (false = true) by decide)] at H; exact H
                                   clear H
                                   have H := H1
                                   clear H1
                                   simp only [Option.some.injEq, Prod.mk.injEq] at H
                                   obtain ⟨rfl, rfl, rfl⟩ := H
                                   as_aux_lemma =>
                                    go_wp2_with (first | ((with_reducible refine gate_callee (f := 19) rfl ?_); refine goesL_ (some 90) rfl rfl Tryd.func19 (by kernel_rfl) rfl #[.int .u8 (bt a0 x4_1)] rfl (by (try simp only [List.map_toArray, List.map_cons, List.map_nil]); first | done | rfl | (simp only [List.length_drop, List.length_take]; rfl)) ?_; (with_reducible refine (umlautref17_digit.calls (bt a0 x4_1) false _ A25.out).mono ?_); rintro e w' ⟨rfl, ⟨nd, rfl⟩⟩; refine ⟨_, rfl, ?_⟩; (try (rw [drewN_self wc]; generalize hq_ : World.drewN wc _ = wc; have n0_ : Aside0 (Kd.R k37 37 wc w.heap.size (fun _ => True) u3 x3_1) := ⟨by rw [← hq_]; exact (by (with_reducible repeat (first | apply Kd.R_alloc | apply Kd.R_drewN | apply Kd.R_drew)); exact HO_3.out)⟩; have n1_ : Aside0 (wc.heap[gb194]? = some (.cells #[.slice none 0 0, .int .i64 x195001_1, .int .i64 x195002_1] 35 (0, 0))) := ⟨by rw [← hq_]; exact (by (with_reducible repeat (first | refine blk_drewN ?_ _ | refine blk_drew ?_ | refine blk_alloc ?_ _)); exact BK194.out)⟩; have n2_ : Aside0 (Below w.heap.size w wc) := ⟨by rw [← hq_]; exact (by repeat (first | (with_reducible first | exact HB.out | apply below_alloc | apply pw_below_drewN | apply below_drew1 | refine below_set ?_ GE194.out) | exact HB.out))⟩; clear HO_3 BK194 HB hq_; have HO_3 := n0_; have BK194 := n1_; have HB := n2_; clear n0_ n1_ n2_))) | ((with_reducible refine gate_callee (f := 21) rfl ?_); refine goesL_ (some 135) rfl rfl Tryd.func21 (by kernel_rfl) rfl #[.int .u8 (bt a0 x4_1)] rfl (by (try simp only [List.map_toArray, List.map_cons, List.map_nil]); first | done | rfl | (simp only [List.length_drop, List.length_take]; rfl)) ?_; (with_reducible refine (umlautref17_letter.calls (bt a0 x4_1) false _ A49.out).mono ?_); rintro e w' ⟨rfl, ⟨nd, rfl⟩⟩; refine ⟨_, rfl, ?_⟩; (try (rw [drewN_self wc]; generalize hq_ : World.drewN wc _ = wc; have n0_ : Aside0 (Kd.R k37 37 wc w.heap.size (fun _ => True) u3 x3_1) := ⟨by rw [← hq_]; exact (by (with_reducible repeat (first | apply Kd.R_alloc | apply Kd.R_drewN | apply Kd.R_drew)); exact HO_3.out)⟩; have n1_ : Aside0 (wc.heap[gb194]? = some (.cells #[.slice none 0 0, .int .i64 x195001_1, .int .i64 x195002_1] 35 (0, 0))) := ⟨by rw [← hq_]; exact (by (with_reducible repeat (first | refine blk_drewN ?_ _ | refine blk_drew ?_ | refine blk_alloc ?_ _)); exact BK194.out)⟩; have n2_ : Aside0 (Below w.heap.size w wc) := ⟨by rw [← hq_]; exact (by repeat (first | (with_reducible first | exact HB.out | apply below_alloc | apply pw_below_drewN | apply below_drew1 | refine below_set ?_ GE194.out) | exact HB.out))⟩; clear HO_3 BK194 HB hq_; have HO_3 := n0_; have BK194 := n1_; have HB := n2_; clear n0_ n1_ n2_))) | ((with_reducible refine gate_callee (f := 25) rfl ?_); refine goesL_ (some 183) rfl rfl Tryd.func25 (by kernel_rfl) rfl #[.string a0, .int .i64 x4_1] rfl (by (try simp only [List.map_toArray, List.map_cons, List.map_nil]); first | done | rfl | (simp only [List.length_drop, List.length_take]; rfl)) ?_; (with_reducible refine (umlautref17_text.calls kj13 a0 x4_1 t217 t218 false _ A79.out).mono ?_); rintro e w' ⟨rfl, ⟨nd, rfl⟩⟩; refine ⟨_, rfl, ?_⟩; (try (rw [drewN_self wc]; generalize hq_ : World.drewN wc _ = wc; have n0_ : Aside0 (Kd.R k37 37 wc w.heap.size (fun _ => True) u3 x3_1) := ⟨by rw [← hq_]; exact (by (with_reducible repeat (first | apply Kd.R_alloc | apply Kd.R_drewN | apply Kd.R_drew)); exact HO_3.out)⟩; have n1_ : Aside0 (wc.heap[gb194]? = some (.cells #[.slice none 0 0, .int .i64 x195001_1, .int .i64 x195002_1] 35 (0, 0))) := ⟨by rw [← hq_]; exact (by (with_reducible repeat (first | refine blk_drewN ?_ _ | refine blk_drew ?_ | refine blk_alloc ?_ _)); exact BK194.out)⟩; have n2_ : Aside0 (Below w.heap.size w wc) := ⟨by rw [← hq_]; exact (by repeat (first | (with_reducible first | exact HB.out | apply below_alloc | apply pw_below_drewN | apply below_drew1 | refine below_set ?_ GE194.out) | exact HB.out))⟩; clear HO_3 BK194 HB hq_; have HO_3 := n0_; have BK194 := n1_; have HB := n2_; clear n0_ n1_ n2_)); have hcz83_0 : wc.cell? ⟨gb194, 0, none⟩ = some (.slice none 0 0) := (blk_cell BK194.out 0).trans rfl; have hcz83_1 : wc.cell? ⟨gb194, 1, none⟩ = some (.int .i64 x195001_1) := (blk_cell BK194.out 1).trans rfl; have hcz83_2 : wc.cell? ⟨gb194, 2, none⟩ = some (.int .i64 x195002_1) := (blk_cell BK194.out 2).trans rfl; have hfz83_0 := blk_frozen BK194.out 0; have hfz83_1 := blk_frozen BK194.out 1; have hfz83_2 := blk_frozen BK194.out 2))
                                    refine bodyPost_ret (results_cell_row rfl _ _ gb194 35 #[.slice none 0 0, .int .i64 x4_1, .int .i64 10] (0, 0) _ rfl (by (with_reducible repeat (first | refine blk_drewN ?_ _ | refine blk_drew ?_ | refine blk_alloc ?_ _)); refine blk_put (cs := #[.slice none 0 0, .int .i64 x4_1, .int .i64 x195002_1]) ?_ 2 _ rfl; (with_reducible repeat (first | refine blk_drewN ?_ _ | refine blk_drew ?_ | refine blk_alloc ?_ _)); refine blk_put (cs := #[.slice none 0 0, .int .i64 x195001_1, .int .i64 x195002_1]) ?_ 1 _ rfl; (with_reducible repeat (first | refine blk_drewN ?_ _ | refine blk_drew ?_ | refine blk_alloc ?_ _)); refine blk_put (cs := #[.slice none 0 0, .int .i64 x195001_1, .int .i64 x195002_1]) ?_ 0 _ rfl; (with_reducible repeat (first | refine blk_drewN ?_ _ | refine blk_drew ?_ | refine blk_alloc ?_ _)); exact BK194.out) Tryd.underlying35 rfl (by kernel_rfl)) rfl ?_
                                    exact ⟨_, by first | rfl | (simp [errW_none, errW_some] <;> rfl) | (simp [*, errW_none, errW_some] <;> rfl), by first | exact Kd.R_nil _ _ _ _ _ | exact Kd.N_nil _ _ _ _ _ | exact Kd.V_nil _ _ _ _ _ | exact Kd.Q_nil _ _ _ _ _ | exact Kd.S_nil _ _ _ _ _, by repeat (first | (with_reducible first | exact HB.out | apply below_alloc | apply pw_below_drewN | apply below_drew1 | refine below_set ?_ GE194.out) | exact HB.out)⟩
                               · rw [if_neg c78] at H
                                 have c78b0 : ((bt a0 x4_1) == 39) = false := beq_eq_false_iff_ne.mpr c78
                                 have c78b1 : ((bt a0 x4_1) != 39) = true := bne_iff_ne.mpr c78
                                 by_cases c84 : 0 ≤ x4_1
                                 · rw [if_pos c84] at H
                                   have c84b0 := eq_true c84
                                   have c84b1 : decide (0 ≤ x4_1) = true := decide_eq_true c84
                                   clear c84
                                   by_cases c85 : x4_1 ≤ (a0.size : Int)
                                   · rw [if_pos c85] at H
                                     have c85b0 := eq_true c85
                                     have c85b1 : decide (x4_1 ≤ (a0.size : Int)) = true := decide_eq_true c85
                                     clear c85
                                     replace H := Option.bind_eq_some_iff.mp H
                                     obtain ⟨t223, A860, H⟩ := H
                                     replace H : (if t223.toList = ([] : List UInt8) then (some (([] : List (S37)), x4_1, 10)) else (if x3_1.length < 3518437208883 then (umlautref17_Tokens.l0 kj13 a0 (x3_1 ++ [(⟨5, t223, 0, x4_1⟩ : S37)]) (wrap64 (x4_1 + (t223.size : Int)))) else (none))) = some (r1, r2, r3) := H
                                     have A86 := Aside0.mk A860
                                     clear A860
                                     by_cases c87 : t223.toList = ([] : List UInt8)
                                     · rw [if_pos c87] at H
                                       have c87b0 : (t223.toList == ([] : List UInt8)) = true := beq_iff_eq.mpr c87
                                       have c87b1 : (t223.toList != ([] : List UInt8)) = false := bne_eq_false_iff_eq.mpr c87
                                       clear c87
                                       simp only [Option.some.injEq, Prod.mk.injEq] at H
                                       obtain ⟨rfl, rfl, rfl⟩ := H
                                       as_aux_lemma =>
                                        go_wp2_with (first | ((with_reducible refine gate_callee (f := 19) rfl ?_); refine goesL_ (some 90) rfl rfl Tryd.func19 (by kernel_rfl) rfl #[.int .u8 (bt a0 x4_1)] rfl (by (try simp only [List.map_toArray, List.map_cons, List.map_nil]); first | done | rfl | (simp only [List.length_drop, List.length_take]; rfl)) ?_; (with_reducible refine (umlautref17_digit.calls (bt a0 x4_1) false _ A25.out).mono ?_); rintro e w' ⟨rfl, ⟨nd, rfl⟩⟩; refine ⟨_, rfl, ?_⟩; (try (rw [drewN_self wc]; generalize hq_ : World.drewN wc _ = wc; have n0_ : Aside0 (Kd.R k37 37 wc w.heap.size (fun _ => True) u3 x3_1) := ⟨by rw [← hq_]; exact (by (with_reducible repeat (first | apply Kd.R_alloc | apply Kd.R_drewN | apply Kd.R_drew)); exact HO_3.out)⟩; have n1_ : Aside0 (wc.heap[gb194]? = some (.cells #[.slice none 0 0, .int .i64 x195001_1, .int .i64 x195002_1] 35 (0, 0))) := ⟨by rw [← hq_]; exact (by (with_reducible repeat (first | refine blk_drewN ?_ _ | refine blk_drew ?_ | refine blk_alloc ?_ _)); exact BK194.out)⟩; have n2_ : Aside0 (Below w.heap.size w wc) := ⟨by rw [← hq_]; exact (by repeat (first | (with_reducible first | exact HB.out | apply below_alloc | apply pw_below_drewN | apply below_drew1 | refine below_set ?_ GE194.out) | exact HB.out))⟩; clear HO_3 BK194 HB hq_; have HO_3 := n0_; have BK194 := n1_; have HB := n2_; clear n0_ n1_ n2_))) | ((with_reducible refine gate_callee (f := 21) rfl ?_); refine goesL_ (some 135) rfl rfl Tryd.func21 (by kernel_rfl) rfl #[.int .u8 (bt a0 x4_1)] rfl (by (try simp only [List.map_toArray, List.map_cons, List.map_nil]); first | done | rfl | (simp only [List.length_drop, List.length_take]; rfl)) ?_; (with_reducible refine (umlautref17_letter.calls (bt a0 x4_1) false _ A49.out).mono ?_); rintro e w' ⟨rfl, ⟨nd, rfl⟩⟩; refine ⟨_, rfl, ?_⟩; (try (rw [drewN_self wc]; generalize hq_ : World.drewN wc _ = wc; have n0_ : Aside0 (Kd.R k37 37 wc w.heap.size (fun _ => True) u3 x3_1) := ⟨by rw [← hq_]; exact (by (with_reducible repeat (first | apply Kd.R_alloc | apply Kd.R_drewN | apply Kd.R_drew)); exact HO_3.out)⟩; have n1_ : Aside0 (wc.heap[gb194]? = some (.cells #[.slice none 0 0, .int .i64 x195001_1, .int .i64 x195002_1] 35 (0, 0))) := ⟨by rw [← hq_]; exact (by (with_reducible repeat (first | refine blk_drewN ?_ _ | refine blk_drew ?_ | refine blk_alloc ?_ _)); exact BK194.out)⟩; have n2_ : Aside0 (Below w.heap.size w wc) := ⟨by rw [← hq_]; exact (by repeat (first | (with_reducible first | exact HB.out | apply below_alloc | apply pw_below_drewN | apply below_drew1 | refine below_set ?_ GE194.out) | exact HB.out))⟩; clear HO_3 BK194 HB hq_; have HO_3 := n0_; have BK194 := n1_; have HB := n2_; clear n0_ n1_ n2_))) | ((with_reducible refine gate_callee (f := 26) rfl ?_); refine goesL_ (some 73) rfl rfl Tryd.func26 (by kernel_rfl) rfl #[.string (a0.extract (x4_1 : Int).toNat a0.size)] rfl (by (try simp only [List.map_toArray, List.map_cons, List.map_nil]); first | done | rfl | (simp only [List.length_drop, List.length_take]; rfl)) ?_; (with_reducible refine (umlautref17_op.calls kj13 (a0.extract (x4_1 : Int).toNat a0.size) t223 _ A86.out).mono ?_); rintro e w' ⟨rfl, ⟨nd, rfl⟩⟩; refine ⟨_, rfl, ?_⟩; (try (rw [drewN_self wc]; generalize hq_ : World.drewN wc _ = wc; have n0_ : Aside0 (Kd.R k37 37 wc w.heap.size (fun _ => True) u3 x3_1) := ⟨by rw [← hq_]; exact (by (with_reducible repeat (first | apply Kd.R_alloc | apply Kd.R_drewN | apply Kd.R_drew)); exact HO_3.out)⟩; have n1_ : Aside0 (wc.heap[gb194]? = some (.cells #[.slice none 0 0, .int .i64 x195001_1, .int .i64 x195002_1] 35 (0, 0))) := ⟨by rw [← hq_]; exact (by (with_reducible repeat (first | refine blk_drewN ?_ _ | refine blk_drew ?_ | refine blk_alloc ?_ _)); exact BK194.out)⟩; have n2_ : Aside0 (Below w.heap.size w wc) := ⟨by rw [← hq_]; exact (by repeat (first | (with_reducible first | exact HB.out | apply below_alloc | apply pw_below_drewN | apply below_drew1 | refine below_set ?_ GE194.out) | exact HB.out))⟩; clear HO_3 BK194 HB hq_; have HO_3 := n0_; have BK194 := n1_; have HB := n2_; clear n0_ n1_ n2_)); have hcz88_0 : wc.cell? ⟨gb194, 0, none⟩ = some (.slice none 0 0) := (blk_cell BK194.out 0).trans rfl; have hcz88_1 : wc.cell? ⟨gb194, 1, none⟩ = some (.int .i64 x195001_1) := (blk_cell BK194.out 1).trans rfl; have hcz88_2 : wc.cell? ⟨gb194, 2, none⟩ = some (.int .i64 x195002_1) := (blk_cell BK194.out 2).trans rfl; have hfz88_0 := blk_frozen BK194.out 0; have hfz88_1 := blk_frozen BK194.out 1; have hfz88_2 := blk_frozen BK194.out 2))
                                        refine bodyPost_ret (results_cell_row rfl _ _ gb194 35 #[.slice none 0 0, .int .i64 x4_1, .int .i64 10] (0, 0) _ rfl (by (with_reducible repeat (first | refine blk_drewN ?_ _ | refine blk_drew ?_ | refine blk_alloc ?_ _)); refine blk_put (cs := #[.slice none 0 0, .int .i64 x4_1, .int .i64 x195002_1]) ?_ 2 _ rfl; (with_reducible repeat (first | refine blk_drewN ?_ _ | refine blk_drew ?_ | refine blk_alloc ?_ _)); refine blk_put (cs := #[.slice none 0 0, .int .i64 x195001_1, .int .i64 x195002_1]) ?_ 1 _ rfl; (with_reducible repeat (first | refine blk_drewN ?_ _ | refine blk_drew ?_ | refine blk_alloc ?_ _)); refine blk_put (cs := #[.slice none 0 0, .int .i64 x195001_1, .int .i64 x195002_1]) ?_ 0 _ rfl; (with_reducible repeat (first | refine blk_drewN ?_ _ | refine blk_drew ?_ | refine blk_alloc ?_ _)); exact BK194.out) Tryd.underlying35 rfl (by kernel_rfl)) rfl ?_
                                        exact ⟨_, by first | rfl | (simp [errW_none, errW_some] <;> rfl) | (simp [*, errW_none, errW_some] <;> rfl), by first | exact Kd.R_nil _ _ _ _ _ | exact Kd.N_nil _ _ _ _ _ | exact Kd.V_nil _ _ _ _ _ | exact Kd.Q_nil _ _ _ _ _ | exact Kd.S_nil _ _ _ _ _, by repeat (first | (with_reducible first | exact HB.out | apply below_alloc | apply pw_below_drewN | apply below_drew1 | refine below_set ?_ GE194.out) | exact HB.out)⟩
                                     · rw [if_neg c87] at H
                                       have c87b0 : (t223.toList == ([] : List UInt8)) = false := beq_eq_false_iff_ne.mpr c87
                                       have c87b1 : (t223.toList != ([] : List UInt8)) = true := bne_iff_ne.mpr c87
                                       by_cases c89 : x3_1.length < 3518437208883
                                       · rw [if_pos c89] at H
                                         have LMc89 := Aside0.mk c89
                                         clear c89
                                         obtain ⟨y224, hy224⟩ : ∃ y_ : List (S37), y_ = (x3_1 ++ [(⟨5, t223, 0, x4_1⟩ : S37)]) := ⟨_, rfl⟩
                                         replace H : (umlautref17_Tokens.l0 kj13 a0 y224 (wrap64 (x4_1 + (t223.size : Int)))) = some (r1, r2, r3) := by first | (rw [hy224]; with_reducible exact H) | (have H2_ := (Option.bind_some _ _).symm.trans H; rw [hy224]; with_reducible exact H2_) | (have H2_ := (Option.bind_some _ _).symm.trans H; with_reducible exact H2_) | with_reducible exact H | (rw [hy224]; exact H) | exact H
                                         have Ny224 := Aside0.mk hy224
                                         clear hy224
                                         have H' := Aside0.mk H
                                         clear H
                                         as_aux_lemma =>
                                          go_wp2_with (first | ((with_reducible refine gate_callee (f := 19) rfl ?_); refine goesL_ (some 90) rfl rfl Tryd.func19 (by kernel_rfl) rfl #[.int .u8 (bt a0 x4_1)] rfl (by (try simp only [List.map_toArray, List.map_cons, List.map_nil]); first | done | rfl | (simp only [List.length_drop, List.length_take]; rfl)) ?_; (with_reducible refine (umlautref17_digit.calls (bt a0 x4_1) false _ A25.out).mono ?_); rintro e w' ⟨rfl, ⟨nd, rfl⟩⟩; refine ⟨_, rfl, ?_⟩) | ((with_reducible refine gate_callee (f := 21) rfl ?_); refine goesL_ (some 135) rfl rfl Tryd.func21 (by kernel_rfl) rfl #[.int .u8 (bt a0 x4_1)] rfl (by (try simp only [List.map_toArray, List.map_cons, List.map_nil]); first | done | rfl | (simp only [List.length_drop, List.length_take]; rfl)) ?_; (with_reducible refine (umlautref17_letter.calls (bt a0 x4_1) false _ A49.out).mono ?_); rintro e w' ⟨rfl, ⟨nd, rfl⟩⟩; refine ⟨_, rfl, ?_⟩) | ((with_reducible refine gate_callee (f := 26) rfl ?_); refine goesL_ (some 73) rfl rfl Tryd.func26 (by kernel_rfl) rfl #[.string (a0.extract (x4_1 : Int).toNat a0.size)] rfl (by (try simp only [List.map_toArray, List.map_cons, List.map_nil]); first | done | rfl | (simp only [List.length_drop, List.length_take]; rfl)) ?_; (with_reducible refine (umlautref17_op.calls kj13 (a0.extract (x4_1 : Int).toNat a0.size) t223 _ A86.out).mono ?_); rintro e w' ⟨rfl, ⟨nd, rfl⟩⟩; refine ⟨_, rfl, ?_⟩) | ((with_reducible refine gate_builtin (b := .append) (xs := #[.tmp 78, .tmp 82]) rfl ?_); (try (refine gate_guard (by rfl) ?_; dsimp only)); at_builtin; refine Kd.R_append k37 (w0 := w) w.heap.size rfl (.tmp 78) (.tmp 82) 33 37 (.agg #[(.int .i64 0), (.string ⟨#[]⟩), (.int .i64 0), (.int .i64 0)]) 40 rfl Tryd.underlying33 info37 rfl (by decide) (by omega) u3 x3_1 (⟨5, t223, 0, x4_1⟩ : S37) [.int .i64 5, .string t223, .int .i64 0, .int .i64 x4_1] (fun _ => True) (fun _ => False) rfl rfl ?aP (fun _ hk => hk.elim) ?aF ?aO ?aB ?aS ?aL ?_; (case aP => exact k37_mkM _ _ _ (⟨5, t223, 0, x4_1⟩ : S37)); (case aB => exact (by repeat (first | (with_reducible first | exact HB.out | apply below_alloc | apply pw_below_drewN | apply below_drew1 | refine below_set ?_ GE194.out) | exact HB.out))); (case aF => exact (fun _ _ => trivial)); (case aO => exact (by (with_reducible repeat (first | apply Kd.R_alloc | apply Kd.R_drewN | apply Kd.R_drew)); exact HO_3.out)); (case aS => exact (below_size (by repeat (first | (with_reducible first | exact HB.out | apply below_alloc | apply pw_below_drewN | apply below_drew1 | refine below_set ?_ GE194.out) | exact HB.out)))); (case aL => have := LMc89.out; omega); intro v225 w90 ho hb hg hat; rw [← Ny224.out] at ho; have n0_ := Aside0.mk (blk_grown (g := gb194) (o := .cells #[.slice none 0 0, .int .i64 x195001_1, .int .i64 x195002_1] 35 (0, 0)) (by (with_reducible repeat (first | refine blk_drewN ?_ _ | refine blk_drew ?_ | refine blk_alloc ?_ _)); exact BK194.out) hg (Kd.R_ne HO_3.out BK194.out (by decide))); have n1_ := Aside0.mk (hb); have n2_ := Aside0.mk (ho); clear BK194; clear HB; clear HO_3; have BK194 := n0_; have HB := n1_; have HO226 := n2_; clear n0_ n1_ n2_; clear ho hb hg hat))
                                          go_roundg kj13
                                          case measure => have := HK1.out; have := HJ8.out; have := HJ13.out; omega
                                          case rel => exact ⟨(y224), (wrap64 (x4_1 + (t223.size : Int))), (x195001_1), (x195002_1), (by first | rfl | (simp; done) | (simp [*]; done)), H', ⟨by have := HK1.out; have := HJ8.out; have := HJ13.out; omega⟩, ⟨by (with_reducible repeat (first | apply Kd.R_alloc | apply Kd.R_drewN | apply Kd.R_drew)); exact HO226.out⟩, ⟨by (with_reducible repeat (first | refine blk_drewN ?_ _ | refine blk_drew ?_ | refine blk_alloc ?_ _)); exact BK194.out⟩, ⟨by repeat (first | (with_reducible first | exact HB.out | apply below_alloc | apply pw_below_drewN | apply below_drew1 | refine below_set ?_ GE194.out) | exact HB.out)⟩⟩
                                       · rw [if_neg c89] at H
                                         exact absurd H (by simp)
                                   · rw [if_neg c85] at H
                                     exact absurd H (by simp)
                                 · rw [if_neg c84] at H
                                   exact absurd H (by simp)
           · rw [if_neg c7] at H
             exact absurd H (by simp)
         · rw [if_neg c6] at H
           have c6b0 : decide (x4_1 < (a0.size : Int)) = false := decide_eq_false c6
           clear c6
           simp only [Option.some.injEq, Prod.mk.injEq] at H
           obtain ⟨rfl, rfl, rfl⟩ := H
           obtain ⟨Ao91, co91, eo91⟩ := Kd.R_slice HO_3.out
           subst eo91
           have hcz92_0 : wr.cell? ⟨gb194, 0, none⟩ = some (.slice none 0 0) := (blk_cell BK194.out 0).trans rfl
           have hcz92_1 : wr.cell? ⟨gb194, 1, none⟩ = some (.int .i64 x195001_1) := (blk_cell BK194.out 1).trans rfl
           have hcz92_2 : wr.cell? ⟨gb194, 2, none⟩ = some (.int .i64 x195002_1) := (blk_cell BK194.out 2).trans rfl
           have hfz92_0 := blk_frozen BK194.out 0
           have hfz92_1 := blk_frozen BK194.out 1
           have hfz92_2 := blk_frozen BK194.out 2
           as_aux_lemma =>
            go_wp2
            refine bodyPost_ret (results_cell_row rfl _ _ gb194 35 #[.slice Ao91 x3_1.length co91, .int .i64 0, .int .i64 0] (0, 0) _ rfl (by (with_reducible repeat (first | refine blk_drewN ?_ _ | refine blk_drew ?_ | refine blk_alloc ?_ _)); refine blk_put (cs := #[.slice Ao91 x3_1.length co91, .int .i64 0, .int .i64 x195002_1]) ?_ 2 _ rfl; (with_reducible repeat (first | refine blk_drewN ?_ _ | refine blk_drew ?_ | refine blk_alloc ?_ _)); refine blk_put (cs := #[.slice Ao91 x3_1.length co91, .int .i64 x195001_1, .int .i64 x195002_1]) ?_ 1 _ rfl; (with_reducible repeat (first | refine blk_drewN ?_ _ | refine blk_drew ?_ | refine blk_alloc ?_ _)); refine blk_put (cs := #[.slice none 0 0, .int .i64 x195001_1, .int .i64 x195002_1]) ?_ 0 _ rfl; (with_reducible repeat (first | refine blk_drewN ?_ _ | refine blk_drew ?_ | refine blk_alloc ?_ _)); exact BK194.out) Tryd.underlying35 rfl (by kernel_rfl)) rfl ?_
            exact ⟨_, by first | rfl | (simp [errW_none, errW_some] <;> rfl) | (simp [*, errW_none, errW_some] <;> rfl), by (with_reducible repeat (first | apply Kd.R_alloc | apply Kd.R_drewN | apply Kd.R_drew)); exact Kd.R_mono (Kd.R_far (p := ⟨gb194, 2, none⟩) (Kd.R_far (p := ⟨gb194, 1, none⟩) (Kd.R_far (p := ⟨gb194, 0, none⟩) (Kd.R_types HO_3.out BK194.out (by decide)) (fun _ hk => hk.2) (.slice Ao91 x3_1.length co91)) (fun _ hk => hk.2) (.int .i64 0)) (fun _ hk => hk.2) (.int .i64 0)) (fun _ hk => trivial), by repeat (first | (with_reducible first | exact HB.out | apply below_alloc | apply pw_below_drewN | apply below_drew1 | refine below_set ?_ GE194.out) | exact HB.out)⟩

end Go.Proofs.YtobhcpfdgfkeiaaDoor.Lx
