/-
  Texts of this claim, joined: part 3.
-/
import Derived.Test.YtobhcpfdgfkeiaaDoorJC1
import Derived.Test.YtobhcpfdgfkeiaaDoorJC0
namespace Go.Proofs.YtobhcpfdgfkeiaaDoor.Lp
open Go.RowKit Go.Proofs.YtobhcpfdgfkeiaaDoorW.PrintWords Go.Proofs.YtobhcpfdgfkeiaaDoor.Ext Go.Proofs.YtobhcpfdgfkeiaaDoor.Lx Go.Proofs.YtobhcpfdgfkeiaaDoor.Lf
set_option linter.unusedVariables false

theorem span_next (p : UInt8 → Bool) : ∀ (l : Bytes) (c : UInt8) (r : Bytes), l.drop (spanOf p l) = c :: r → p c = false
  | [], c, r, h => by simp at h
  | a :: l, c, r, h => by
    cases hp : p a with
    | true => rw [spanOf_cons_yes hp, List.drop_succ_cons] at h; exact span_next p l c r h
    | false =>
      rw [spanOf_cons_no hp, List.drop_zero] at h
      rw [← (List.cons.inj h).1]; exact hp
theorem let_not_dig {c : UInt8} (h : isDig c = true) : isLet c = false := by
  unfold isDig at h; unfold isLet
  simp only [Bool.and_eq_true, decide_eq_true_eq] at h
  simp only [Bool.or_eq_false_iff, Bool.and_eq_false_iff, decide_eq_false_iff_not]
  omega
theorem ext_run (s : ByteArray) (i n : Nat) : (s.extract i (i + n)).data.toList = (s.data.toList.drop i).take n := by
  rw [Lib.extract_data, show i + n - i = n by omega]
theorem bytes_run (s : ByteArray) (i n : Nat) : s.extract i (i + n) = ⟨((s.data.toList.drop i).take n).toArray⟩ := by
  apply WideShapes.bytes_inj; rw [ext_run]

theorem fin_num (s : ByteArray) (hs : s.size ≤ 4000) (acc : List S37) (k i n : Nat) (hi : i < s.size) (hn : spanOf isDig (s.data.toList.drop i) = n) (h1 : 1 ≤ n) (hk : 2 * s.size + 6 < k) (ha : acc.length < 3518437208883) :
    umlautref17_Tokens.j5 (k + 1) s acc (i : Int) ((i + n : Nat) : Int) = match numOf (s.data.toList.drop i) with | none => some ([], (i : Int), 10) | some x => umlautref17_Tokens.l0 k s (acc ++ [mk37 3 ⟨#[]⟩ x.1 i]) ((i + x.2 : Nat) : Int) := by
  have hle := spanOf_le isDig (s.data.toList.drop i)
  have hls := len_size s
  rw [List.length_drop, hls, hn] at hle
  have hx := ext_run s i n
  have hdg : ∀ c, c ∈ (s.data.toList.drop i).take n → isDig c = true := by
    intro c hc
    rw [← hn, take_span] at hc
    exact mem_takeWhile hc
  have hne : (s.data.toList.drop i).take n ≠ [] := by
    intro e
    have := congrArg List.length e
    rw [List.length_take, List.length_drop, hls, List.length_nil] at this
    omega
  simp only [umlautref17_Tokens.j5]
  rw [if_pos (by omega), if_pos (by omega), if_pos (by omega), Int.toNat_natCast, Int.toNat_natCast]
  rw [rparse_eq (s.extract i (i + n)) (by rw [ByteArray.size_extract]; omega) (by rw [ByteArray.size_extract]; omega) k (by rw [ByteArray.size_extract]; omega) (by rw [hx]; exact hdg)]
  simp only [Option.bind_some]
  rw [hx]
  unfold numOf
  rw [hn, parse_dig _ hne hdg]
  by_cases hm : valOf 0 ((s.data.toList.drop i).take n) ≤ 9223372036854775807
  · rw [if_pos hm, if_pos hm]
    simp only [if_true]
    by_cases hlt : i + n < s.size
    · have hh : ((s.data.toList.drop i).drop n).head? = some s[i + n] := by rw [List.drop_drop]; exact head_at hlt
      have hnd : isDig s[i + n] = false := span_next isDig (s.data.toList.drop i) s[i + n] (s.data.toList.drop (i + n + 1)) (by rw [hn, List.drop_drop]; exact drop_at hlt)
      rw [if_pos (by omega), if_pos (by omega), bt_nat hlt, rletter_eq]
      simp only [Option.bind_some]
      rw [hh]
      simp only [Option.map_some, Option.getD_some]
      rw [show isNam s[i + n] = isLet s[i + n] from by unfold isNam; rw [hnd, Bool.or_false]]
      by_cases hl : isLet s[i + n] = true
      · rw [if_pos hl, if_pos hl]
      · rw [if_neg hl, if_neg hl, if_pos ha]; rfl
    · have hh : ((s.data.toList.drop i).drop n).head? = none := by rw [List.drop_drop]; exact head_end (by omega)
      rw [if_neg (by omega), if_pos ha, hh]
      rfl
  · rw [if_neg hm, if_neg hm]
    simp only
    rw [if_neg (by decide)]

theorem fin_nam (s : ByteArray) (hs : s.size ≤ 4000) (acc : List S37) (k i n : Nat) (hi : i < s.size) (hn : spanOf isNam (s.data.toList.drop i) = n) (hk : 60 ≤ k) (ha : acc.length < 3518437208883) :
    umlautref17_Tokens.j7 (k + 1) s acc (i : Int) ((i + n : Nat) : Int) = if 16 < n then some ([], (i : Int), 10) else if isWord (Lib.toUpperA ((s.data.toList.drop i).take n)) = true then umlautref17_Tokens.l0 k s (acc ++ [mk37 2 ⟨(Lib.toUpperA ((s.data.toList.drop i).take n)).toArray⟩ 0 i]) ((i + n : Nat) : Int)
      else umlautref17_Tokens.l0 k s (acc ++ [mk37 1 ⟨(Lib.toLowerA ((s.data.toList.drop i).take n)).toArray⟩ 0 i]) ((i + n : Nat) : Int) := by
  have hle := spanOf_le isNam (s.data.toList.drop i)
  have hls := len_size s
  rw [List.length_drop, hls, hn] at hle
  have hx := ext_run s i n
  simp only [umlautref17_Tokens.j7]
  rw [show wrap64 (((i + n : Nat) : Int) - (i : Int)) = (n : Int) from by unfold wrap64; omega]
  by_cases hb : 16 < n
  · rw [if_pos (by omega), if_pos hb]
  · rw [if_neg (by omega), if_neg hb, if_pos (by omega), if_pos (by omega), if_pos (by omega), Int.toNat_natCast, Int.toNat_natCast]
    unfold umlautref17_upper.f umlautref17_lower.f
    rw [if_pos (by rw [ByteArray.size_extract]; omega), if_pos (by rw [ByteArray.size_extract]; omega), hx]
    simp only [Option.bind_some]
    rw [rword_eq _ k hk]
    simp only [Option.bind_some]
    by_cases hw : isWord (Lib.toUpperA ((s.data.toList.drop i).take n)) = true
    · rw [if_pos hw, if_pos hw, if_pos ha]; rfl
    · rw [if_neg hw, if_neg hw, if_pos ha]; rfl

theorem step_l0 (s : ByteArray) (acc : List S37) (k i : Nat) (hlt : i < s.size) : umlautref17_Tokens.l0 (k + 1) s acc (i : Int) = umlautref17_Tokens.j1 k s acc (i : Int) (s[i].toNat : Int) (isBlank s[i]) := by
  simp only [umlautref17_Tokens.l0]
  rw [if_pos (by omega), if_pos (by omega), bt_nat hlt]
  have hbl : isBlank s[i] = (decide (s[i].toNat = 32) || decide (s[i].toNat = 9) || decide (s[i].toNat = 10) || decide (s[i].toNat = 13)) := by
    unfold isBlank
    rw [Bool.eq_iff_iff, List.contains_iff_mem]
    simp only [List.mem_cons, List.not_mem_nil, or_false, Bool.or_eq_true, decide_eq_true_eq, ← UInt8.toNat_inj]
    constructor
    · rintro (h | h | h | h) <;> simp [h]
    · rintro (((h | h) | h) | h) <;> simp [h]
  by_cases h1 : s[i].toNat = 32
  · rw [if_pos (by omega), hbl, h1]; rfl
  · rw [if_neg (by omega)]
    by_cases h2 : s[i].toNat = 9
    · rw [if_pos (by omega), hbl, h2]; rfl
    · rw [if_neg (by omega)]
      by_cases h3 : s[i].toNat = 10
      · rw [if_pos (by omega), hbl, h3]; rfl
      · rw [if_neg (by omega), hbl, decide_eq_false h1, decide_eq_false h2, decide_eq_false h3]
        congr 1
        rw [Bool.eq_iff_iff, beq_iff_eq]
        simp only [Bool.false_or, decide_eq_true_eq]
        omega
theorem step_j1 (s : ByteArray) (hs : s.size ≤ 4000) (acc : List S37) (k i : Nat) (hlt : i < s.size) : umlautref17_Tokens.j1 (k + 1) s acc (i : Int) (s[i].toNat : Int) false = umlautref17_Tokens.j2 k s acc (i : Int) (s[i].toNat : Int) (isRem (s.data.toList.drop i)) := by
  simp only [umlautref17_Tokens.j1]
  rw [if_neg (by decide), wrap_add1 _ (by omega), drop_at hlt]
  by_cases h1 : s[i].toNat = 45
  · have e1 : s[i] = 45 := UInt8.toNat_inj.mp h1
    rw [if_pos (by omega)]
    by_cases h2 : i + 1 < s.size
    · rw [if_pos (by omega), if_pos (by omega), bt_nat h2, drop_at h2]
      congr 1
      simp only [isRem]
      rw [e1, Bool.eq_iff_iff]
      simp only [beq_self_eq_true, Bool.true_and, beq_iff_eq, ← UInt8.toNat_inj]
      constructor
      · intro h; show _ = 45; omega
      · intro h; have : s[i + 1].toNat = 45 := h; omega
    · rw [if_neg (by omega), drop_end (by omega)]; rfl
  · rw [if_neg (by omega)]
    congr 1
    cases hd : s.data.toList.drop (i + 1) with
    | nil => rfl
    | cons b r =>
      simp only [isRem]
      rw [show (s[i] == (45 : UInt8)) = false from beq_eq_false_iff_ne.mpr (fun e => h1 (by rw [e]; rfl)), Bool.false_and]

theorem ref_main (s : ByteArray) (hs : s.size ≤ 4000) : ∀ (d k i : Nat) (acc : List S37), i ≤ s.size → s.size - i ≤ d → 8 * d + 9000 < k → acc.length ≤ i → umlautref17_Tokens.l0 k s acc (i : Int) = some (fromAt mk37 acc i (s.data.toList.drop i)) := by
  intro d
  induction d using Nat.strongRecOn with
  | _ d ih =>
  intro k i acc hi hd hk ha
  by_cases hlt : i < s.size
  · obtain ⟨k, rfl⟩ : ∃ m, k = m + 3 := ⟨k - 3, by omega⟩
    have hd1 := drop_at hlt
    have hls := len_size s
    rw [show k + 3 = (k + 2) + 1 by omega, step_l0 s acc (k + 2) i hlt]
    cases hb : isBlank s[i] with
    | true =>
      rw [show k + 2 = (k + 1) + 1 by omega]
      simp only [umlautref17_Tokens.j1]
      rw [if_pos True.intro, wrap_add1 _ (by omega), ih (d - 1) (by omega) (k + 1) (i + 1) acc (by omega) (by omega) (by omega) (by omega), hd1, fromAt_blank _ _ _ hb]
    | false =>
      rw [show k + 2 = (k + 1) + 1 by omega, step_j1 s hs acc (k + 1) i hlt]
      simp only [umlautref17_Tokens.j2]
      cases hr : isRem (s.data.toList.drop i) with
      | true =>
        rw [if_pos rfl]
        have hle := spanOf_le notLf (s.data.toList.drop i)
        rw [List.length_drop, hls] at hle
        have h1 : 1 ≤ spanOf notLf (s.data.toList.drop i) := by rw [hd1] at hr ⊢; exact spanOf_pos (isRem_notLf hr)
        obtain ⟨m, rfl⟩ : ∃ m, k = m + spanOf notLf (s.data.toList.drop i) + 1 := ⟨k - (spanOf notLf (s.data.toList.drop i) + 1), by omega⟩
        rw [rem_run s hs acc _ m i rfl hi]
        rw [ih (d - spanOf notLf (s.data.toList.drop i)) (by omega) m (i + spanOf notLf (s.data.toList.drop i)) acc (by omega) (by omega) (by omega) (by omega)]
        rw [← List.drop_drop]
        congr 1
        have h := fromAt_rem mk37 acc i hb (l := s.data.toList.drop (i + 1)) (by rw [← hd1]; exact hr)
        rw [← hd1] at h
        exact h.symm
      | false =>
        rw [if_neg (by decide), rdigit_eq]
        simp only [Option.bind_some]
        have hf := fromAt_tok mk37 acc i hb (l := s.data.toList.drop (i + 1)) (by rw [← hd1]; exact hr)
        have ht := tokL_cons s[i] (s.data.toList.drop (i + 1))
        rw [← hd1] at hf ht
        rw [hf]
        have go : ∀ (t : Tk) (m : Nat), tokL (s.data.toList.drop i) = some t → 8 * (d - t.len) + 9000 < m → umlautref17_Tokens.l0 m s (acc ++ [mk37 t.kind t.text t.num i]) ((i + t.len : Nat) : Int) = some (fromAt mk37 (acc ++ [mk37 t.kind t.text t.num i]) (i + t.len) ((s.data.toList.drop i).drop t.len)) := by
          intro t m h hm
          have hl := tokL_len h
          rw [List.length_drop, hls] at hl
          rw [ih (d - t.len) (by omega) m (i + t.len) _ (by omega) (by omega) hm (by rw [List.length_append]; show acc.length + 1 ≤ _; omega), List.drop_drop]
        by_cases hg : isDig s[i] = true
        · rw [if_pos hg]
          rw [let_not_dig hg, if_neg (by decide), if_pos hg] at ht
          have hle := spanOf_le isDig (s.data.toList.drop i)
          rw [List.length_drop, hls] at hle
          have h1 : 1 ≤ spanOf isDig (s.data.toList.drop i) := by rw [hd1]; exact spanOf_pos hg
          obtain ⟨m, rfl⟩ : ∃ m, k = m + 1 + spanOf isDig (s.data.toList.drop i) + 1 := ⟨k - (spanOf isDig (s.data.toList.drop i) + 2), by omega⟩
          rw [dig_run s hs acc i _ (m + 1) i rfl hi, fin_num s hs acc m i _ hlt rfl h1 (by omega) (by omega)]
          cases hq : numOf (s.data.toList.drop i) with
          | none => rw [hq] at ht; rw [ht]; rfl
          | some x =>
            rw [hq] at ht
            simp only [Option.map_some] at ht
            rw [ht]
            have hnl := numOf_len hq
            exact go _ m ht (by show 8 * (d - x.2) + 9000 < m; omega)
        · rw [if_neg hg, rletter_eq]
          simp only [Option.bind_some]
          have hg' : isDig s[i] = false := by simpa using hg
          rw [show isNam s[i] = isLet s[i] from by unfold isNam; rw [hg', Bool.or_false]]
          by_cases hl : isLet s[i] = true
          · rw [if_pos hl]
            rw [if_pos hl] at ht
            have hle := spanOf_le isNam (s.data.toList.drop i)
            rw [List.length_drop, hls] at hle
            have h1 : 1 ≤ spanOf isNam (s.data.toList.drop i) := by rw [hd1]; exact spanOf_pos (isNam_of_let hl)
            obtain ⟨m, rfl⟩ : ∃ m, k = m + 1 + spanOf isNam (s.data.toList.drop i) + 1 := ⟨k - (spanOf isNam (s.data.toList.drop i) + 2), by omega⟩
            rw [nam_run s hs acc i _ (m + 1) i rfl hi, fin_nam s hs acc m i _ hlt rfl (by omega) (by omega)]
            by_cases h16 : 16 < spanOf isNam (s.data.toList.drop i)
            · rw [if_pos h16] at ht ⊢; rw [ht]
            · rw [if_neg h16] at ht ⊢
              by_cases hw : isWord (Lib.toUpperA ((s.data.toList.drop i).take (spanOf isNam (s.data.toList.drop i)))) = true
              · rw [if_pos hw] at ht ⊢; rw [ht]; exact go _ m ht (by show 8 * (d - spanOf isNam (s.data.toList.drop i)) + 9000 < m; omega)
              · rw [if_neg hw] at ht ⊢; rw [ht]; exact go _ m ht (by show 8 * (d - spanOf isNam (s.data.toList.drop i)) + 9000 < m; omega)
          · rw [if_neg hl]
            rw [if_neg hl, if_neg hg] at ht
            by_cases hc : s[i].toNat = 39
            · rw [if_pos (by omega), rtext_eq s (by omega) k i hlt (by omega)]
              rw [if_pos hc] at ht
              simp only [Option.bind_some]
              unfold rtextAns
              cases hq : textOf (s.data.toList.drop (i + 1)) with
              | none => rw [hq] at ht; rw [ht]; rfl
              | some x =>
                rw [hq] at ht
                simp only [Option.map_some] at ht
                rw [ht]
                simp only [if_true]
                rw [if_pos (by omega)]
                have := go _ k ht (by show 8 * (d - (x.2 + 1)) + 9000 < k; omega)
                rw [show i + (x.2 + 1) = i + 1 + x.2 by omega] at this
                rw [show (⟨#[]⟩ : ByteArray) ++ ⟨x.1.toArray⟩ = ⟨x.1.toArray⟩ from by apply WideShapes.bytes_inj; rw [ByteArray.data_append]; simp]
                rw [show i + (x.2 + 1) = i + 1 + x.2 by omega]
                exact this
            · rw [if_neg (by omega), if_pos (by omega), if_pos (by omega), Int.toNat_natCast, rop_eq _ k (by omega) (by rw [ByteArray.size_extract]; omega), ext_drop]
              rw [if_neg hc] at ht
              simp only [Option.bind_some]
              have hol := opLen_le (s.data.toList.drop i)
              rw [List.length_drop, hls] at hol
              by_cases h0 : opLen (s.data.toList.drop i) = 0
              · rw [if_pos h0] at ht
                rw [ht, h0, if_pos (by rw [Lib.toList_data]; rfl)]
              · rw [if_neg h0] at ht
                have hsz : (⟨((s.data.toList.drop i).take (opLen (s.data.toList.drop i))).toArray⟩ : ByteArray).size = opLen (s.data.toList.drop i) := by
                  show ((s.data.toList.drop i).take (opLen (s.data.toList.drop i))).toArray.size = _
                  rw [List.size_toArray, List.length_take, List.length_drop, hls]; omega
                rw [if_neg (by
                  rw [Lib.toList_data]
                  intro e
                  have := congrArg List.length e
                  rw [len_size, hsz] at this
                  exact h0 this), if_pos (by omega), hsz, wrap_addn _ _ (by omega), ht]
                exact go _ k ht (by show 8 * (d - opLen (s.data.toList.drop i)) + 9000 < k; omega)
  · obtain ⟨k, rfl⟩ : ∃ m, k = m + 1 := ⟨k - 1, by omega⟩
    simp only [umlautref17_Tokens.l0]
    rw [if_neg (by omega), drop_end (by omega), fromAt_nil]

theorem ref_tokens (s : ByteArray) (k : Nat) (hk : 50000 ≤ k) : umlautref17_Tokens.f k s = some (lexL mk37 s.data.toList) := by
  unfold umlautref17_Tokens.f
  rw [lexL_from, len_size]
  by_cases hs : 4000 < s.size
  · rw [if_pos (by omega), if_pos hs]
  · rw [if_neg (by omega), if_neg hs]
    have := ref_main s (by omega) s.size k 0 [] (by omega) (by omega) (by omega) (Nat.le_refl _)
    rw [List.drop_zero] at this
    exact this
end Go.Proofs.YtobhcpfdgfkeiaaDoor.Lp

namespace Go.Proofs.YtobhcpfdgfkeiaaDoor.Lp
open Go.RowKit Go.Proofs.YtobhcpfdgfkeiaaDoorW.PrintWords Go.Proofs.YtobhcpfdgfkeiaaDoor.Ext Go.Proofs.YtobhcpfdgfkeiaaDoor.Lx Go.Proofs.YtobhcpfdgfkeiaaDoor.Lf
set_option linter.unusedVariables false

theorem lex_main (s : ByteArray) (hs : s.size ≤ 4000) : ∀ (d k n i : Nat) (acc : List S28), i ≤ s.size → s.size - i ≤ d → d + 5000 < k → acc.length ≤ i → s.size - i < n → lex_Tokens.l0 k s acc (i : Int) = some (lexF mk28 n acc i (s.data.toList.drop i)) := by
  intro d
  induction d using Nat.strongRecOn with
  | _ d ih =>
  intro k n i acc hi hd hk ha hn
  obtain ⟨k, rfl⟩ : ∃ m, k = m + 1 := ⟨k - 1, by omega⟩
  obtain ⟨n, rfl⟩ : ∃ m, n = m + 1 := ⟨n - 1, by omega⟩
  have hls := len_size s
  simp only [lex_Tokens.l0]
  by_cases hlt : i < s.size
  · rw [if_pos (by omega), if_pos (by omega), if_pos (by omega), Int.toNat_natCast, token_eq _ (by rw [ByteArray.size_extract]; omega) k (by omega) (by rw [ByteArray.size_extract]; omega), ext_drop]
    simp only [Option.bind_some]
    have hd1 := drop_at hlt
    have hf : lexF mk28 (n + 1) acc i (s.data.toList.drop i) = match tokL (s.data.toList.drop i) with
      | none => ([], (i : Int), 10)
      | some t => lexF mk28 n (acc ++ [mk28 t.kind t.text t.num i]) (i + t.len + skipL ((s.data.toList.drop i).drop t.len)) (((s.data.toList.drop i).drop t.len).drop (skipL ((s.data.toList.drop i).drop t.len))) := by
      rw [hd1]; rfl
    rw [hf]
    unfold tokAns
    cases ht : tokL (s.data.toList.drop i) with
    | none => rfl
    | some t =>
      have hl := tokL_len ht
      rw [List.length_drop, hls] at hl
      simp only
      rw [if_neg (by omega), if_pos (by omega), wrap_addn _ _ (by omega), if_pos (by omega), if_pos (by omega), Int.toNat_natCast, skip_eq _ (by rw [ByteArray.size_extract]; omega) k (by rw [ByteArray.size_extract]; omega), ext_drop]
      simp only [Option.bind_some]
      have hsk := skipL_le (s.data.toList.drop (i + t.len))
      rw [List.length_drop, hls] at hsk
      rw [List.drop_drop, wrap_addn _ _ (by omega)]
      have := ih (d - t.len) (by omega) k n (i + t.len + skipL (s.data.toList.drop (i + t.len))) (acc ++ [mk28 t.kind t.text t.num i]) (by omega) (by omega) (by omega) (by rw [List.length_append]; show acc.length + 1 ≤ _; omega) (by omega)
      rw [List.drop_drop]
      exact this
  · rw [if_neg (by omega), drop_end (by omega)]; rfl
theorem lex_tokens (s : ByteArray) (k : Nat) (hk : 10000 ≤ k) : lex_Tokens.f k s = some (lexL mk28 s.data.toList) := by
  unfold lex_Tokens.f lexL
  rw [len_size]
  by_cases hs : 4000 < s.size
  · rw [if_pos (by omega), if_pos hs]
  · rw [if_neg (by omega), if_neg hs, skip_eq s (by omega) k (by omega)]
    simp only [Option.bind_some]
    have hsk := skipL_le s.data.toList
    rw [len_size] at hsk
    exact lex_main s (by omega) s.size k (s.size + 1) _ [] (by omega) (by omega) (by omega) (Nat.zero_le _) (by omega)
end Go.Proofs.YtobhcpfdgfkeiaaDoor.Lp

namespace Go.Proofs.YtobhcpfdgfkeiaaDoor.Lp
open Go.RowKit Go.Proofs.YtobhcpfdgfkeiaaDoorW.PrintWords Go.Proofs.YtobhcpfdgfkeiaaDoor.Ext Go.Proofs.YtobhcpfdgfkeiaaDoor.Lx Go.Proofs.YtobhcpfdgfkeiaaDoor.Lf
set_option linter.unusedVariables false

abbrev Tup := Int × ByteArray × Int × Int
def mkT (a : Int) (b : ByteArray) (c d : Int) : Tup := (a, b, c, d)
def t28 (q : Tup) : S28 := ⟨q.1, q.2.1, q.2.2.1, q.2.2.2⟩
def t37 (q : Tup) : S37 := ⟨q.1, q.2.1, q.2.2.1, q.2.2.2⟩
theorem lexF_map {T : Type} (mk : Int → ByteArray → Int → Int → T) (f : Tup → T) (hf : ∀ a b c d, mk a b c d = f (mkT a b c d)) : ∀ (n : Nat) (acc : List Tup) (i : Nat) (l : Bytes), lexF mk n (acc.map f) i l = ((lexF mkT n acc i l).1.map f, (lexF mkT n acc i l).2)
  | 0, _, _, _ => rfl
  | n + 1, acc, i, [] => rfl
  | n + 1, acc, i, c :: l => by
    simp only [lexF]
    cases ht : tokL (c :: l) with
    | none => rfl
    | some t =>
      simp only
      rw [← lexF_map mk f hf n, List.map_append, hf]; rfl
theorem lexL_28 (l : Bytes) : lexL mk28 l = ((lexL mkT l).1.map t28, (lexL mkT l).2) := by
  unfold lexL
  split
  · rfl
  · exact lexF_map mk28 t28 (fun _ _ _ _ => rfl) _ [] _ _
theorem lexL_37 (l : Bytes) : lexL mk37 l = ((lexL mkT l).1.map t37, (lexL mkT l).2) := by
  unfold lexL
  split
  · rfl
  · exact lexF_map mk37 t37 (fun _ _ _ _ => rfl) _ [] _ _
theorem lexF_len {T : Type} (mk : Int → ByteArray → Int → Int → T) : ∀ (n : Nat) (acc : List T) (i : Nat) (l : Bytes), (lexF mk n acc i l).1.length ≤ acc.length + l.length
  | 0, _, _, _ => Nat.zero_le _
  | n + 1, acc, i, [] => Nat.le_add_right _ _
  | n + 1, acc, i, c :: l => by
    simp only [lexF]
    cases ht : tokL (c :: l) with
    | none => exact Nat.zero_le _
    | some t =>
      have := tokL_len ht
      have h := lexF_len mk n (acc ++ [mk t.kind t.text t.num i]) (i + t.len + skipL ((c :: l).drop t.len)) (((c :: l).drop t.len).drop (skipL ((c :: l).drop t.len)))
      rw [List.length_append, List.length_drop, List.length_drop] at h
      simp only [List.length_cons, List.length_nil] at h this ⊢
      omega
theorem lexL_len {T : Type} (mk : Int → ByteArray → Int → Int → T) (l : Bytes) : (lexL mk l).1.length ≤ 4000 := by
  unfold lexL
  split
  · exact Nat.zero_le _
  · have h := lexF_len mk (l.length + 1) [] (skipL l) (l.drop (skipL l))
    rw [List.length_drop, List.length_nil] at h
    omega
theorem rd28 (L : List Tup) (j : Nat) (h : j < L.length) : rd_T28 (L.map t28) (j : Int) = t28 L[j] := by
  unfold rd_T28
  rw [Int.toNat_natCast, List.getD_eq_getElem?_getD, List.getElem?_eq_getElem (by rw [List.length_map]; exact h), List.getElem_map]; rfl
theorem rd37 (L : List Tup) (j : Nat) (h : j < L.length) : rd_T37 (L.map t37) (j : Int) = t37 L[j] := by
  unfold rd_T37
  rw [Int.toNat_natCast, List.getD_eq_getElem?_getD, List.getElem?_eq_getElem (by rw [List.length_map]; exact h), List.getElem_map]; rfl

theorem lex_tok (s : ByteArray) (k : Nat) (hk : 10000 ≤ k) : lex_Tokens.f k s = some ((lexL mkT s.data.toList).1.map t28, (lexL mkT s.data.toList).2) := by
  rw [lex_tokens s k hk, lexL_28]
theorem ref_tok (s : ByteArray) (k : Nat) (hk : 50000 ≤ k) : umlautref17_Tokens.f k s = some ((lexL mkT s.data.toList).1.map t37, (lexL mkT s.data.toList).2) := by
  rw [ref_tokens s k hk, lexL_37]
def sel : Bytes := [83, 69, 76, 69, 67, 84]
theorem wake0 : lexL mkT [97, 60, 61, 49] = ([(1, ⟨#[97]⟩, 0, 0), (5, ⟨#[60, 61]⟩, 0, 1), (3, ⟨#[]⟩, 1, 3)], 0, 0) := by rfl
theorem wake1 : lexL mkT [83, 69, 76, 69, 67, 84] = ([(2, ⟨#[83, 69, 76, 69, 67, 84]⟩, 0, 0)], 0, 0) := by rfl
theorem wake2 : lexL mkT [97, 49] = ([(1, ⟨#[97, 49]⟩, 0, 0)], 0, 0) := by rfl
theorem awake_eq (k : Nat) (hk : 10000 ≤ k) : umlautlaw17_awake.f k = some true := by
  unfold umlautlaw17_awake.f lex_Word.f lex_Name.f lex_only.f
  rw [lex_tok _ k hk, lex_tok _ k hk, lex_tok _ k hk]
  rw [show (⟨#[97, 60, 61, 49]⟩ : ByteArray).data.toList = [97, 60, 61, 49] from rfl, wake0]
  rw [show (⟨#[83, 69, 76, 69, 67, 84]⟩ : ByteArray).data.toList = [83, 69, 76, 69, 67, 84] from rfl, wake1]
  rw [show (⟨#[97, 49]⟩ : ByteArray).data.toList = [97, 49] from rfl, wake2]
  simp only [Option.bind_some, Lib.toList_data]
  decide +kernel
end Go.Proofs.YtobhcpfdgfkeiaaDoor.Lp
