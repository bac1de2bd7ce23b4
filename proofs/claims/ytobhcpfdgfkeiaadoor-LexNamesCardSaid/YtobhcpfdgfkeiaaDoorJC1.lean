/-
  Texts of this claim, joined: part 2.
-/
import Derived.Test.YtobhcpfdgfkeiaaDoorJC0
namespace Go.Proofs.YtobhcpfdgfkeiaaDoor.Lx
open Go.RowKit Go.Proofs.YtobhcpfdgfkeiaaDoorW.PrintWords Go.Proofs.YtobhcpfdgfkeiaaDoorW.PrintLast Go.Proofs.YtobhcpfdgfkeiaaDoorW.PrintMore Go.Proofs.YtobhcpfdgfkeiaaDoor.Lf Go.Proofs.YtobhcpfdgfkeiaaDoor.Ext
attribute [local go_sem] max2_int min2_int max_two min_two max_three min_three max_four min_four   -- for this text's walks alone
set_option linter.unusedVariables false
set_option linter.unusedSimpArgs false

/-! ### umlautlaw17_awake: function 9 -/
def umlautlaw17_awake.f (k : Nat)  : Option (Bool) := (lex_Tokens.f k (⟨#[97, 60, 61, 49]⟩ : ByteArray)).bind fun bt161 => (if (bt161.1.length : Int) = 3 then (if bt161.2.2 = 0 then (if 1 < (bt161.1.length : Int) then (if ((rd_T28 bt161.1 1).f0) = 5 then (if ((rd_T28 bt161.1 1).f1).toList = ([60, 61] : List UInt8) then (if 2 < (bt161.1.length : Int) then (if ((rd_T28 bt161.1 2).f2) = 1 then ((lex_Word.f k (⟨#[83, 69, 76, 69, 67, 84]⟩ : ByteArray)).bind fun t169 => (if t169 = true then ((lex_Name.f k (⟨#[97, 49]⟩ : ByteArray)).bind fun t170 => (some t170)) else (some false))) else (some false)) else (none)) else (some false)) else (some false)) else (none)) else (some false)) else (some false))
theorem umlautlaw17_awake.mono : ∀ k, LeO (umlautlaw17_awake.f k ) (umlautlaw17_awake.f (k + 1) ) := by
  intro  k
  unfold umlautlaw17_awake.f
  repeat' first
      | (with_reducible exact lex_Name.mono _ _)
      | (with_reducible exact lex_Tokens.mono _ _)
      | (with_reducible exact lex_Word.mono _ _)
      | (with_reducible exact LeO.refl _)
      | (with_reducible exact LeO.none _)
      | (with_reducible refine LeO.ite ?_ ?_)
      | (with_reducible refine LeO.bind ?_ (fun _ => ?_))
      | exact lex_Name.mono _ _
      | exact lex_Tokens.mono _ _
      | exact lex_Word.mono _ _
      | exact LeO.none _
      | refine LeO.ite ?_ ?_
      | refine LeO.bind ?_ (fun _ => ?_)
set_option maxHeartbeats 8000000 in
set_option maxRecDepth 100000 in
theorem umlautlaw17_awake.calls (k : Nat)  (r : Bool) (w : World) (hgw : Wd w) (h : umlautlaw17_awake.f k  = some r) :
    Calls Tryd.prog 9 #[] w fun e w' => e = .returned (.bool r) ∧ Below w.heap.size w w' := by
  have HB := Aside0.mk (Below.refl w.heap.size w)
  have H : ((lex_Tokens.f k (⟨#[97, 60, 61, 49]⟩ : ByteArray)).bind fun bt161 => (if (bt161.1.length : Int) = 3 then (if bt161.2.2 = 0 then (if 1 < (bt161.1.length : Int) then (if ((rd_T28 bt161.1 1).f0) = 5 then (if ((rd_T28 bt161.1 1).f1).toList = ([60, 61] : List UInt8) then (if 2 < (bt161.1.length : Int) then (if ((rd_T28 bt161.1 2).f2) = 1 then ((lex_Word.f k (⟨#[83, 69, 76, 69, 67, 84]⟩ : ByteArray)).bind fun t169 => (if t169 = true then ((lex_Name.f k (⟨#[97, 49]⟩ : ByteArray)).bind fun t170 => (some t170)) else (some false))) else (some false)) else (none)) else (some false)) else (some false)) else (none)) else (some false)) else (some false))) = some r := h
  clear h
  replace H := Option.bind_eq_some_iff.mp H
  obtain ⟨⟨t161, t162, t163⟩, A10, H⟩ := H
  replace H : (if (t161.length : Int) = 3 then (if t163 = 0 then (if 1 < (t161.length : Int) then (if ((rd_T28 t161 1).f0) = 5 then (if ((rd_T28 t161 1).f1).toList = ([60, 61] : List UInt8) then (if 2 < (t161.length : Int) then (if ((rd_T28 t161 2).f2) = 1 then ((lex_Word.f k (⟨#[83, 69, 76, 69, 67, 84]⟩ : ByteArray)).bind fun t169 => (if t169 = true then ((lex_Name.f k (⟨#[97, 49]⟩ : ByteArray)).bind fun t170 => (some t170)) else (some false))) else (some false)) else (none)) else (some false)) else (some false)) else (none)) else (some false)) else (some false)) = some r := H
  have A1 := Aside0.mk A10
  clear A10
  by_cases c2 : (t161.length : Int) = 3
  · rw [if_pos c2] at H
    have c2b0 : ((t161.length : Int) == 3) = true := beq_iff_eq.mpr c2
    have c2b1 : ((t161.length : Int) != 3) = false := bne_eq_false_iff_eq.mpr c2
    clear c2
    by_cases c3 : t163 = 0
    · rw [if_pos c3] at H
      have c3b0 : (t163 == 0) = true := beq_iff_eq.mpr c3
      have c3b1 : (t163 != 0) = false := bne_eq_false_iff_eq.mpr c3
      clear c3
      by_cases c4 : 1 < (t161.length : Int)
      · rw [if_pos c4] at H
        have c4b0 : decide (1 < (t161.length : Int)) = true := decide_eq_true c4
        have c4b1 : decide (1 < t161.length) = true := decide_eq_true (by omega)
        clear c4
        by_cases c5 : ((rd_T28 t161 1).f0) = 5
        · rw [if_pos c5] at H
          have c5b0 : (((rd_T28 t161 1).f0) == 5) = true := beq_iff_eq.mpr c5
          have c5b1 : (((rd_T28 t161 1).f0) != 5) = false := bne_eq_false_iff_eq.mpr c5
          clear c5
          by_cases c6 : ((rd_T28 t161 1).f1).toList = ([60, 61] : List UInt8)
          · rw [if_pos c6] at H
            have c6b0 : (((rd_T28 t161 1).f1).toList == ([60, 61] : List UInt8)) = true := beq_iff_eq.mpr c6
            have c6b1 : (((rd_T28 t161 1).f1).toList != ([60, 61] : List UInt8)) = false := bne_eq_false_iff_eq.mpr c6
            clear c6
            by_cases c7 : 2 < (t161.length : Int)
            · rw [if_pos c7] at H
              have c7b0 : decide (2 < (t161.length : Int)) = true := decide_eq_true c7
              have c7b1 : decide (2 < t161.length) = true := decide_eq_true (by omega)
              clear c7
              by_cases c8 : ((rd_T28 t161 2).f2) = 1
              · rw [if_pos c8] at H
                have c8b0 : (((rd_T28 t161 2).f2) == 1) = true := beq_iff_eq.mpr c8
                have c8b1 : (((rd_T28 t161 2).f2) != 1) = false := bne_eq_false_iff_eq.mpr c8
                clear c8
                replace H := Option.bind_eq_some_iff.mp H
                obtain ⟨t169, A90, H⟩ := H
                replace H : (if t169 = true then ((lex_Name.f k (⟨#[97, 49]⟩ : ByteArray)).bind fun t170 => (some t170)) else (some false)) = some r := H
                have A9 := Aside0.mk A90
                clear A90
                by_cases c10 : t169 = true
                · subst c10
                  have H1 : ((lex_Name.f k (⟨#[97, 49]⟩ : ByteArray)).bind fun t170 => (some t170)) = some r := by rw [if_pos rfl] at H; exact H
                  clear H
                  have H := H1
                  clear H1
                  replace H := Option.bind_eq_some_iff.mp H
                  obtain ⟨t170, A110, H⟩ := H
                  replace H : (some t170) = some r := H
                  have A11 := Aside0.mk A110
                  clear A110
                  obtain rfl := Option.some.inj H
                  go_enter Tryd.func9, Tryd.ntmps9
                  go_wp2_with (first | ((with_reducible refine gate_callee (f := 10) rfl ?_); refine goesL_ (some 5) rfl rfl Tryd.func10 (by kernel_rfl) rfl #[.string (⟨#[97, 60, 61, 49]⟩ : ByteArray)] rfl (by (try simp only [List.map_toArray, List.map_cons, List.map_nil]); first | done | rfl | (simp only [List.length_drop, List.length_take]; rfl)) ?_; (with_reducible refine (lex_Tokens.calls k (⟨#[97, 60, 61, 49]⟩ : ByteArray) t161 t162 t163 _ ?hwd79 A1.out).mono ?_); (case hwd79 => exact Wd.below hgw (by repeat (first | (with_reducible first | exact HB.out | apply below_alloc | apply pw_below_drewN | apply below_drew1) | exact HB.out))); rintro e w12 ⟨v164, rfl, ho0, hb⟩; refine ⟨_, rfl, ?_⟩; have n0_ := Aside0.mk (Kd.R_lower ho0 (below_size (by repeat (first | (with_reducible first | exact HB.out | apply below_alloc | apply pw_below_drewN | apply below_drew1) | exact HB.out)))); have n1_ := Aside0.mk (below_step (by repeat (first | (with_reducible first | exact HB.out | apply below_alloc | apply pw_below_drewN | apply below_drew1) | exact HB.out)) hb); clear HB; have HO165 := n0_; have HB := n1_; clear n0_ n1_; (try clear hb); (try clear hb2); (try clear hk); (try clear hi); (try clear ho0); obtain ⟨Ao13, co13, eo13⟩ := Kd.R_slice HO165.out; subst eo13; have p166 : 0 ≤ (1 : Int) := (by omega); have q166 : 1 < (t161.length : Int) := of_decide_eq_true (by first | (with_reducible assumption) | assumption); obtain ⟨ad166, e166, hx166_0, hx166_1, hx166_2, hx166_3⟩ := at_T28 (Kd.R_reads' HO165.out).2.2 1 p166 q166; cases e166; (try simp only [show (1 : Int).toNat = 1 from rfl, Nat.reduceMul, Nat.reduceEqDiff, Go.Addr.add, ↓reduceIte] at hx166_0); (try simp only [show (1 : Int).toNat = 1 from rfl, Nat.reduceMul, Nat.reduceEqDiff, Go.Addr.add, ↓reduceIte] at hx166_1); (try simp only [show (1 : Int).toNat = 1 from rfl, Nat.reduceMul, Nat.reduceEqDiff, Go.Addr.add, ↓reduceIte] at hx166_2); (try simp only [show (1 : Int).toNat = 1 from rfl, Nat.reduceMul, Nat.reduceEqDiff, Go.Addr.add, ↓reduceIte] at hx166_3); have qi166 : (1 < t161.length) = True := eq_true (by omega); (try rw [show ((1 : Int)).toNat = 1 from rfl] at hx166_0); (try rw [show 1 * 4 = 4 from rfl] at hx166_0); (try rw [show ((1 : Int)).toNat = 1 from rfl] at hx166_1); (try rw [show 1 * 4 = 4 from rfl] at hx166_1); (try rw [show ((1 : Int)).toNat = 1 from rfl] at hx166_2); (try rw [show 1 * 4 = 4 from rfl] at hx166_2); (try rw [show ((1 : Int)).toNat = 1 from rfl] at hx166_3); (try rw [show 1 * 4 = 4 from rfl] at hx166_3); replace p166 := eq_true p166; replace q166 := eq_true q166; have p167 : 0 ≤ (1 : Int) := (by omega); have q167 : 1 < (t161.length : Int) := of_decide_eq_true (by first | (with_reducible assumption) | assumption); obtain ⟨ad167, e167, hx167_0, hx167_1, hx167_2, hx167_3⟩ := at_T28 (Kd.R_reads' HO165.out).2.2 1 p167 q167; obtain rfl : ad166 = ad167 := (by injection e167); (try simp only [show (1 : Int).toNat = 1 from rfl, Nat.reduceMul, Nat.reduceEqDiff, Go.Addr.add, ↓reduceIte] at hx167_0); (try simp only [show (1 : Int).toNat = 1 from rfl, Nat.reduceMul, Nat.reduceEqDiff, Go.Addr.add, ↓reduceIte] at hx167_1); (try simp only [show (1 : Int).toNat = 1 from rfl, Nat.reduceMul, Nat.reduceEqDiff, Go.Addr.add, ↓reduceIte] at hx167_2); (try simp only [show (1 : Int).toNat = 1 from rfl, Nat.reduceMul, Nat.reduceEqDiff, Go.Addr.add, ↓reduceIte] at hx167_3); have qi167 : (1 < t161.length) = True := eq_true (by omega); (try rw [show ((1 : Int)).toNat = 1 from rfl] at hx167_0); (try rw [show 1 * 4 = 4 from rfl] at hx167_0); (try rw [show ((1 : Int)).toNat = 1 from rfl] at hx167_1); (try rw [show 1 * 4 = 4 from rfl] at hx167_1); (try rw [show ((1 : Int)).toNat = 1 from rfl] at hx167_2); (try rw [show 1 * 4 = 4 from rfl] at hx167_2); (try rw [show ((1 : Int)).toNat = 1 from rfl] at hx167_3); (try rw [show 1 * 4 = 4 from rfl] at hx167_3); replace p167 := eq_true p167; replace q167 := eq_true q167; have p168 : 0 ≤ (2 : Int) := (by omega); have q168 : 2 < (t161.length : Int) := of_decide_eq_true (by first | (with_reducible assumption) | assumption); obtain ⟨ad168, e168, hx168_0, hx168_1, hx168_2, hx168_3⟩ := at_T28 (Kd.R_reads' HO165.out).2.2 2 p168 q168; obtain rfl : ad166 = ad168 := (by injection e168); (try simp only [show (2 : Int).toNat = 2 from rfl, Nat.reduceMul, Nat.reduceEqDiff, Go.Addr.add, ↓reduceIte] at hx168_0); (try simp only [show (2 : Int).toNat = 2 from rfl, Nat.reduceMul, Nat.reduceEqDiff, Go.Addr.add, ↓reduceIte] at hx168_1); (try simp only [show (2 : Int).toNat = 2 from rfl, Nat.reduceMul, Nat.reduceEqDiff, Go.Addr.add, ↓reduceIte] at hx168_2); (try simp only [show (2 : Int).toNat = 2 from rfl, Nat.reduceMul, Nat.reduceEqDiff, Go.Addr.add, ↓reduceIte] at hx168_3); have qi168 : (2 < t161.length) = True := eq_true (by omega); (try rw [show ((2 : Int)).toNat = 2 from rfl] at hx168_0); (try rw [show 2 * 4 = 8 from rfl] at hx168_0); (try rw [show ((2 : Int)).toNat = 2 from rfl] at hx168_1); (try rw [show 2 * 4 = 8 from rfl] at hx168_1); (try rw [show ((2 : Int)).toNat = 2 from rfl] at hx168_2); (try rw [show 2 * 4 = 8 from rfl] at hx168_2); (try rw [show ((2 : Int)).toNat = 2 from rfl] at hx168_3); (try rw [show 2 * 4 = 8 from rfl] at hx168_3); replace p168 := eq_true p168; replace q168 := eq_true q168) | (go_at_call 13; (with_reducible refine (lex_Word.calls k (⟨#[83, 69, 76, 69, 67, 84]⟩ : ByteArray) true _ ?hwd86 A9.out).mono ?_); (case hwd86 => exact Wd.below hgw (by repeat (first | (with_reducible first | exact HB.out | apply below_alloc | apply pw_below_drewN | apply below_drew1) | exact HB.out))); rintro e w14 ⟨rfl, hb⟩; have n0_ := Aside0.mk (Kd.R_below (by (with_reducible repeat (first | apply Kd.R_alloc | apply Kd.R_drewN | apply Kd.R_drew)); exact HO165.out) hb); have n1_ := Aside0.mk (below_step (by repeat (first | (with_reducible first | exact HB.out | apply below_alloc | apply pw_below_drewN | apply below_drew1) | exact HB.out)) hb); clear HO165; clear HB; have HO165 := n0_; have HB := n1_; clear n0_ n1_; (try clear hb); (try clear hb2); (try clear hk); (try clear hi)) | (go_at_call 12; (with_reducible refine (lex_Name.calls k (⟨#[97, 49]⟩ : ByteArray) t170 _ ?hwd88 A11.out).mono ?_); (case hwd88 => exact Wd.below hgw (by repeat (first | (with_reducible first | exact HB.out | apply below_alloc | apply pw_below_drewN | apply below_drew1) | exact HB.out))); rintro e w15 ⟨rfl, hb⟩; have n0_ := Aside0.mk (Kd.R_below (by (with_reducible repeat (first | apply Kd.R_alloc | apply Kd.R_drewN | apply Kd.R_drew)); exact HO165.out) hb); have n1_ := Aside0.mk (below_step (by repeat (first | (with_reducible first | exact HB.out | apply below_alloc | apply pw_below_drewN | apply below_drew1) | exact HB.out)) hb); clear HO165; clear HB; have HO165 := n0_; have HB := n1_; clear n0_ n1_; (try clear hb); (try clear hb2); (try clear hk); (try clear hi)))
                  go_ret
                  exact ⟨by first | rfl | (simp [errW_none, errW_some] <;> rfl) | (simp [*, errW_none, errW_some] <;> rfl), by repeat (first | (with_reducible first | exact HB.out | apply below_alloc | apply pw_below_drewN | apply below_drew1) | exact HB.out)⟩
                · replace c10 := Bool.eq_false_iff.mpr c10
                  subst c10
                  have H1 : (some false) = some r := by rw [if_neg (show ¬ (false = true) by decide)] at H; exact H
                  clear H
                  have H := H1
                  clear H1
                  obtain rfl := Option.some.inj H
                  go_enter Tryd.func9, Tryd.ntmps9
                  go_wp2_with (first | ((with_reducible refine gate_callee (f := 10) rfl ?_); refine goesL_ (some 5) rfl rfl Tryd.func10 (by kernel_rfl) rfl #[.string (⟨#[97, 60, 61, 49]⟩ : ByteArray)] rfl (by (try simp only [List.map_toArray, List.map_cons, List.map_nil]); first | done | rfl | (simp only [List.length_drop, List.length_take]; rfl)) ?_; (with_reducible refine (lex_Tokens.calls k (⟨#[97, 60, 61, 49]⟩ : ByteArray) t161 t162 t163 _ ?hwd80 A1.out).mono ?_); (case hwd80 => exact Wd.below hgw (by repeat (first | (with_reducible first | exact HB.out | apply below_alloc | apply pw_below_drewN | apply below_drew1) | exact HB.out))); rintro e w16 ⟨v164, rfl, ho0, hb⟩; refine ⟨_, rfl, ?_⟩; have n0_ := Aside0.mk (Kd.R_lower ho0 (below_size (by repeat (first | (with_reducible first | exact HB.out | apply below_alloc | apply pw_below_drewN | apply below_drew1) | exact HB.out)))); have n1_ := Aside0.mk (below_step (by repeat (first | (with_reducible first | exact HB.out | apply below_alloc | apply pw_below_drewN | apply below_drew1) | exact HB.out)) hb); clear HB; have HO165 := n0_; have HB := n1_; clear n0_ n1_; (try clear hb); (try clear hb2); (try clear hk); (try clear hi); (try clear ho0); obtain ⟨Ao17, co17, eo17⟩ := Kd.R_slice HO165.out; subst eo17; have p166 : 0 ≤ (1 : Int) := (by omega); have q166 : 1 < (t161.length : Int) := of_decide_eq_true (by first | (with_reducible assumption) | assumption); obtain ⟨ad166, e166, hx166_0, hx166_1, hx166_2, hx166_3⟩ := at_T28 (Kd.R_reads' HO165.out).2.2 1 p166 q166; cases e166; (try simp only [show (1 : Int).toNat = 1 from rfl, Nat.reduceMul, Nat.reduceEqDiff, Go.Addr.add, ↓reduceIte] at hx166_0); (try simp only [show (1 : Int).toNat = 1 from rfl, Nat.reduceMul, Nat.reduceEqDiff, Go.Addr.add, ↓reduceIte] at hx166_1); (try simp only [show (1 : Int).toNat = 1 from rfl, Nat.reduceMul, Nat.reduceEqDiff, Go.Addr.add, ↓reduceIte] at hx166_2); (try simp only [show (1 : Int).toNat = 1 from rfl, Nat.reduceMul, Nat.reduceEqDiff, Go.Addr.add, ↓reduceIte] at hx166_3); have qi166 : (1 < t161.length) = True := eq_true (by omega); (try rw [show ((1 : Int)).toNat = 1 from rfl] at hx166_0); (try rw [show 1 * 4 = 4 from rfl] at hx166_0); (try rw [show ((1 : Int)).toNat = 1 from rfl] at hx166_1); (try rw [show 1 * 4 = 4 from rfl] at hx166_1); (try rw [show ((1 : Int)).toNat = 1 from rfl] at hx166_2); (try rw [show 1 * 4 = 4 from rfl] at hx166_2); (try rw [show ((1 : Int)).toNat = 1 from rfl] at hx166_3); (try rw [show 1 * 4 = 4 from rfl] at hx166_3); replace p166 := eq_true p166; replace q166 := eq_true q166; have p167 : 0 ≤ (1 : Int) := (by omega); have q167 : 1 < (t161.length : Int) := of_decide_eq_true (by first | (with_reducible assumption) | assumption); obtain ⟨ad167, e167, hx167_0, hx167_1, hx167_2, hx167_3⟩ := at_T28 (Kd.R_reads' HO165.out).2.2 1 p167 q167; obtain rfl : ad166 = ad167 := (by injection e167); (try simp only [show (1 : Int).toNat = 1 from rfl, Nat.reduceMul, Nat.reduceEqDiff, Go.Addr.add, ↓reduceIte] at hx167_0); (try simp only [show (1 : Int).toNat = 1 from rfl, Nat.reduceMul, Nat.reduceEqDiff, Go.Addr.add, ↓reduceIte] at hx167_1); (try simp only [show (1 : Int).toNat = 1 from rfl, Nat.reduceMul, Nat.reduceEqDiff, Go.Addr.add, ↓reduceIte] at hx167_2); (try simp only [show (1 : Int).toNat = 1 from rfl, Nat.reduceMul, Nat.reduceEqDiff, Go.Addr.add, ↓reduceIte] at hx167_3); have qi167 : (1 < t161.length) = True := eq_true (by omega); (try rw [show ((1 : Int)).toNat = 1 from rfl] at hx167_0); (try rw [show 1 * 4 = 4 from rfl] at hx167_0); (try rw [show ((1 : Int)).toNat = 1 from rfl] at hx167_1); (try rw [show 1 * 4 = 4 from rfl] at hx167_1); (try rw [show ((1 : Int)).toNat = 1 from rfl] at hx167_2); (try rw [show 1 * 4 = 4 from rfl] at hx167_2); (try rw [show ((1 : Int)).toNat = 1 from rfl] at hx167_3); (try rw [show 1 * 4 = 4 from rfl] at hx167_3); replace p167 := eq_true p167; replace q167 := eq_true q167; have p168 : 0 ≤ (2 : Int) := (by omega); have q168 : 2 < (t161.length : Int) := of_decide_eq_true (by first | (with_reducible assumption) | assumption); obtain ⟨ad168, e168, hx168_0, hx168_1, hx168_2, hx168_3⟩ := at_T28 (Kd.R_reads' HO165.out).2.2 2 p168 q168; obtain rfl : ad166 = ad168 := (by injection e168); (try simp only [show (2 : Int).toNat = 2 from rfl, Nat.reduceMul, Nat.reduceEqDiff, Go.Addr.add, ↓reduceIte] at hx168_0); (try simp only [show (2 : Int).toNat = 2 from rfl, Nat.reduceMul, Nat.reduceEqDiff, Go.Addr.add, ↓reduceIte] at hx168_1); (try simp only [show (2 : Int).toNat = 2 from rfl, Nat.reduceMul, Nat.reduceEqDiff, Go.Addr.add, ↓reduceIte] at hx168_2); (try simp only [show (2 : Int).toNat = 2 from rfl, Nat.reduceMul, Nat.reduceEqDiff, Go.Addr.add, ↓reduceIte] at hx168_3); have qi168 : (2 < t161.length) = True := eq_true (by omega); (try rw [show ((2 : Int)).toNat = 2 from rfl] at hx168_0); (try rw [show 2 * 4 = 8 from rfl] at hx168_0); (try rw [show ((2 : Int)).toNat = 2 from rfl] at hx168_1); (try rw [show 2 * 4 = 8 from rfl] at hx168_1); (try rw [show ((2 : Int)).toNat = 2 from rfl] at hx168_2); (try rw [show 2 * 4 = 8 from rfl] at hx168_2); (try rw [show ((2 : Int)).toNat = 2 from rfl] at hx168_3); (try rw [show 2 * 4 = 8 from rfl] at hx168_3); replace p168 := eq_true p168; replace q168 := eq_true q168) | (go_at_call 13; (with_reducible refine (lex_Word.calls k (⟨#[83, 69, 76, 69, 67, 84]⟩ : ByteArray) false _ ?hwd87 A9.out).mono ?_); (case hwd87 => exact Wd.below hgw (by repeat (first | (with_reducible first | exact HB.out | apply below_alloc | apply pw_below_drewN | apply below_drew1) | exact HB.out))); rintro e w18 ⟨rfl, hb⟩; have n0_ := Aside0.mk (Kd.R_below (by (with_reducible repeat (first | apply Kd.R_alloc | apply Kd.R_drewN | apply Kd.R_drew)); exact HO165.out) hb); have n1_ := Aside0.mk (below_step (by repeat (first | (with_reducible first | exact HB.out | apply below_alloc | apply pw_below_drewN | apply below_drew1) | exact HB.out)) hb); clear HO165; clear HB; have HO165 := n0_; have HB := n1_; clear n0_ n1_; (try clear hb); (try clear hb2); (try clear hk); (try clear hi)))
                  go_ret
                  exact ⟨by first | rfl | (simp [errW_none, errW_some] <;> rfl) | (simp [*, errW_none, errW_some] <;> rfl), by repeat (first | (with_reducible first | exact HB.out | apply below_alloc | apply pw_below_drewN | apply below_drew1) | exact HB.out)⟩
              · rw [if_neg c8] at H
                have c8b0 : (((rd_T28 t161 2).f2) == 1) = false := beq_eq_false_iff_ne.mpr c8
                have c8b1 : (((rd_T28 t161 2).f2) != 1) = true := bne_iff_ne.mpr c8
                obtain rfl := Option.some.inj H
                go_enter Tryd.func9, Tryd.ntmps9
                go_wp2_with (first | ((with_reducible refine gate_callee (f := 10) rfl ?_); refine goesL_ (some 5) rfl rfl Tryd.func10 (by kernel_rfl) rfl #[.string (⟨#[97, 60, 61, 49]⟩ : ByteArray)] rfl (by (try simp only [List.map_toArray, List.map_cons, List.map_nil]); first | done | rfl | (simp only [List.length_drop, List.length_take]; rfl)) ?_; (with_reducible refine (lex_Tokens.calls k (⟨#[97, 60, 61, 49]⟩ : ByteArray) t161 t162 t163 _ ?hwd81 A1.out).mono ?_); (case hwd81 => exact Wd.below hgw (by repeat (first | (with_reducible first | exact HB.out | apply below_alloc | apply pw_below_drewN | apply below_drew1) | exact HB.out))); rintro e w19 ⟨v164, rfl, ho0, hb⟩; refine ⟨_, rfl, ?_⟩; have n0_ := Aside0.mk (Kd.R_lower ho0 (below_size (by repeat (first | (with_reducible first | exact HB.out | apply below_alloc | apply pw_below_drewN | apply below_drew1) | exact HB.out)))); have n1_ := Aside0.mk (below_step (by repeat (first | (with_reducible first | exact HB.out | apply below_alloc | apply pw_below_drewN | apply below_drew1) | exact HB.out)) hb); clear HB; have HO165 := n0_; have HB := n1_; clear n0_ n1_; (try clear hb); (try clear hb2); (try clear hk); (try clear hi); (try clear ho0); obtain ⟨Ao20, co20, eo20⟩ := Kd.R_slice HO165.out; subst eo20; have p166 : 0 ≤ (1 : Int) := (by omega); have q166 : 1 < (t161.length : Int) := of_decide_eq_true (by first | (with_reducible assumption) | assumption); obtain ⟨ad166, e166, hx166_0, hx166_1, hx166_2, hx166_3⟩ := at_T28 (Kd.R_reads' HO165.out).2.2 1 p166 q166; cases e166; (try simp only [show (1 : Int).toNat = 1 from rfl, Nat.reduceMul, Nat.reduceEqDiff, Go.Addr.add, ↓reduceIte] at hx166_0); (try simp only [show (1 : Int).toNat = 1 from rfl, Nat.reduceMul, Nat.reduceEqDiff, Go.Addr.add, ↓reduceIte] at hx166_1); (try simp only [show (1 : Int).toNat = 1 from rfl, Nat.reduceMul, Nat.reduceEqDiff, Go.Addr.add, ↓reduceIte] at hx166_2); (try simp only [show (1 : Int).toNat = 1 from rfl, Nat.reduceMul, Nat.reduceEqDiff, Go.Addr.add, ↓reduceIte] at hx166_3); have qi166 : (1 < t161.length) = True := eq_true (by omega); (try rw [show ((1 : Int)).toNat = 1 from rfl] at hx166_0); (try rw [show 1 * 4 = 4 from rfl] at hx166_0); (try rw [show ((1 : Int)).toNat = 1 from rfl] at hx166_1); (try rw [show 1 * 4 = 4 from rfl] at hx166_1); (try rw [show ((1 : Int)).toNat = 1 from rfl] at hx166_2); (try rw [show 1 * 4 = 4 from rfl] at hx166_2); (try rw [show ((1 : Int)).toNat = 1 from rfl] at hx166_3); (try rw [show 1 * 4 = 4 from rfl] at hx166_3); replace p166 := eq_true p166; replace q166 := eq_true q166; have p167 : 0 ≤ (1 : Int) := (by omega); have q167 : 1 < (t161.length : Int) := of_decide_eq_true (by first | (with_reducible assumption) | assumption); obtain ⟨ad167, e167, hx167_0, hx167_1, hx167_2, hx167_3⟩ := at_T28 (Kd.R_reads' HO165.out).2.2 1 p167 q167; obtain rfl : ad166 = ad167 := (by injection e167); (try simp only [show (1 : Int).toNat = 1 from rfl, Nat.reduceMul, Nat.reduceEqDiff, Go.Addr.add, ↓reduceIte] at hx167_0); (try simp only [show (1 : Int).toNat = 1 from rfl, Nat.reduceMul, Nat.reduceEqDiff, Go.Addr.add, ↓reduceIte] at hx167_1); (try simp only [show (1 : Int).toNat = 1 from rfl, Nat.reduceMul, Nat.reduceEqDiff, Go.Addr.add, ↓reduceIte] at hx167_2); (try simp only [show (1 : Int).toNat = 1 from rfl, Nat.reduceMul, Nat.reduceEqDiff, Go.Addr.add, ↓reduceIte] at hx167_3); have qi167 : (1 < t161.length) = True := eq_true (by omega); (try rw [show ((1 : Int)).toNat = 1 from rfl] at hx167_0); (try rw [show 1 * 4 = 4 from rfl] at hx167_0); (try rw [show ((1 : Int)).toNat = 1 from rfl] at hx167_1); (try rw [show 1 * 4 = 4 from rfl] at hx167_1); (try rw [show ((1 : Int)).toNat = 1 from rfl] at hx167_2); (try rw [show 1 * 4 = 4 from rfl] at hx167_2); (try rw [show ((1 : Int)).toNat = 1 from rfl] at hx167_3); (try rw [show 1 * 4 = 4 from rfl] at hx167_3); replace p167 := eq_true p167; replace q167 := eq_true q167; have p168 : 0 ≤ (2 : Int) := (by omega); have q168 : 2 < (t161.length : Int) := of_decide_eq_true (by first | (with_reducible assumption) | assumption); obtain ⟨ad168, e168, hx168_0, hx168_1, hx168_2, hx168_3⟩ := at_T28 (Kd.R_reads' HO165.out).2.2 2 p168 q168; obtain rfl : ad166 = ad168 := (by injection e168); (try simp only [show (2 : Int).toNat = 2 from rfl, Nat.reduceMul, Nat.reduceEqDiff, Go.Addr.add, ↓reduceIte] at hx168_0); (try simp only [show (2 : Int).toNat = 2 from rfl, Nat.reduceMul, Nat.reduceEqDiff, Go.Addr.add, ↓reduceIte] at hx168_1); (try simp only [show (2 : Int).toNat = 2 from rfl, Nat.reduceMul, Nat.reduceEqDiff, Go.Addr.add, ↓reduceIte] at hx168_2); (try simp only [show (2 : Int).toNat = 2 from rfl, Nat.reduceMul, Nat.reduceEqDiff, Go.Addr.add, ↓reduceIte] at hx168_3); have qi168 : (2 < t161.length) = True := eq_true (by omega); (try rw [show ((2 : Int)).toNat = 2 from rfl] at hx168_0); (try rw [show 2 * 4 = 8 from rfl] at hx168_0); (try rw [show ((2 : Int)).toNat = 2 from rfl] at hx168_1); (try rw [show 2 * 4 = 8 from rfl] at hx168_1); (try rw [show ((2 : Int)).toNat = 2 from rfl] at hx168_2); (try rw [show 2 * 4 = 8 from rfl] at hx168_2); (try rw [show ((2 : Int)).toNat = 2 from rfl] at hx168_3); (try rw [show 2 * 4 = 8 from rfl] at hx168_3); replace p168 := eq_true p168; replace q168 := eq_true q168))
                go_ret
                exact ⟨by first | rfl | (simp [errW_none, errW_some] <;> rfl) | (simp [*, errW_none, errW_some] <;> rfl), by repeat (first | (with_reducible first | exact HB.out | apply below_alloc | apply pw_below_drewN | apply below_drew1) | exact HB.out)⟩
            · rw [if_neg c7] at H
              exact absurd H (by simp)
          · rw [if_neg c6] at H
            have c6b0 : (((rd_T28 t161 1).f1).toList == ([60, 61] : List UInt8)) = false := beq_eq_false_iff_ne.mpr c6
            have c6b1 : (((rd_T28 t161 1).f1).toList != ([60, 61] : List UInt8)) = true := bne_iff_ne.mpr c6
            obtain rfl := Option.some.inj H
            go_enter Tryd.func9, Tryd.ntmps9
            go_wp2_with (first | ((with_reducible refine gate_callee (f := 10) rfl ?_); refine goesL_ (some 5) rfl rfl Tryd.func10 (by kernel_rfl) rfl #[.string (⟨#[97, 60, 61, 49]⟩ : ByteArray)] rfl (by (try simp only [List.map_toArray, List.map_cons, List.map_nil]); first | done | rfl | (simp only [List.length_drop, List.length_take]; rfl)) ?_; (with_reducible refine (lex_Tokens.calls k (⟨#[97, 60, 61, 49]⟩ : ByteArray) t161 t162 t163 _ ?hwd82 A1.out).mono ?_); (case hwd82 => exact Wd.below hgw (by repeat (first | (with_reducible first | exact HB.out | apply below_alloc | apply pw_below_drewN | apply below_drew1) | exact HB.out))); rintro e w21 ⟨v164, rfl, ho0, hb⟩; refine ⟨_, rfl, ?_⟩; have n0_ := Aside0.mk (Kd.R_lower ho0 (below_size (by repeat (first | (with_reducible first | exact HB.out | apply below_alloc | apply pw_below_drewN | apply below_drew1) | exact HB.out)))); have n1_ := Aside0.mk (below_step (by repeat (first | (with_reducible first | exact HB.out | apply below_alloc | apply pw_below_drewN | apply below_drew1) | exact HB.out)) hb); clear HB; have HO165 := n0_; have HB := n1_; clear n0_ n1_; (try clear hb); (try clear hb2); (try clear hk); (try clear hi); (try clear ho0); obtain ⟨Ao22, co22, eo22⟩ := Kd.R_slice HO165.out; subst eo22; have p166 : 0 ≤ (1 : Int) := (by omega); have q166 : 1 < (t161.length : Int) := of_decide_eq_true (by first | (with_reducible assumption) | assumption); obtain ⟨ad166, e166, hx166_0, hx166_1, hx166_2, hx166_3⟩ := at_T28 (Kd.R_reads' HO165.out).2.2 1 p166 q166; cases e166; (try simp only [show (1 : Int).toNat = 1 from rfl, Nat.reduceMul, Nat.reduceEqDiff, Go.Addr.add, ↓reduceIte] at hx166_0); (try simp only [show (1 : Int).toNat = 1 from rfl, Nat.reduceMul, Nat.reduceEqDiff, Go.Addr.add, ↓reduceIte] at hx166_1); (try simp only [show (1 : Int).toNat = 1 from rfl, Nat.reduceMul, Nat.reduceEqDiff, Go.Addr.add, ↓reduceIte] at hx166_2); (try simp only [show (1 : Int).toNat = 1 from rfl, Nat.reduceMul, Nat.reduceEqDiff, Go.Addr.add, ↓reduceIte] at hx166_3); have qi166 : (1 < t161.length) = True := eq_true (by omega); (try rw [show ((1 : Int)).toNat = 1 from rfl] at hx166_0); (try rw [show 1 * 4 = 4 from rfl] at hx166_0); (try rw [show ((1 : Int)).toNat = 1 from rfl] at hx166_1); (try rw [show 1 * 4 = 4 from rfl] at hx166_1); (try rw [show ((1 : Int)).toNat = 1 from rfl] at hx166_2); (try rw [show 1 * 4 = 4 from rfl] at hx166_2); (try rw [show ((1 : Int)).toNat = 1 from rfl] at hx166_3); (try rw [show 1 * 4 = 4 from rfl] at hx166_3); replace p166 := eq_true p166; replace q166 := eq_true q166; have p167 : 0 ≤ (1 : Int) := (by omega); have q167 : 1 < (t161.length : Int) := of_decide_eq_true (by first | (with_reducible assumption) | assumption); obtain ⟨ad167, e167, hx167_0, hx167_1, hx167_2, hx167_3⟩ := at_T28 (Kd.R_reads' HO165.out).2.2 1 p167 q167; obtain rfl : ad166 = ad167 := (by injection e167); (try simp only [show (1 : Int).toNat = 1 from rfl, Nat.reduceMul, Nat.reduceEqDiff, Go.Addr.add, ↓reduceIte] at hx167_0); (try simp only [show (1 : Int).toNat = 1 from rfl, Nat.reduceMul, Nat.reduceEqDiff, Go.Addr.add, ↓reduceIte] at hx167_1); (try simp only [show (1 : Int).toNat = 1 from rfl, Nat.reduceMul, Nat.reduceEqDiff, Go.Addr.add, ↓reduceIte] at hx167_2); (try simp only [show (1 : Int).toNat = 1 from rfl, Nat.reduceMul, Nat.reduceEqDiff, Go.Addr.add, ↓reduceIte] at hx167_3); have qi167 : (1 < t161.length) = True := eq_true (by omega); (try rw [show ((1 : Int)).toNat = 1 from rfl] at hx167_0); (try rw [show 1 * 4 = 4 from rfl] at hx167_0); (try rw [show ((1 : Int)).toNat = 1 from rfl] at hx167_1); (try rw [show 1 * 4 = 4 from rfl] at hx167_1); (try rw [show ((1 : Int)).toNat = 1 from rfl] at hx167_2); (try rw [show 1 * 4 = 4 from rfl] at hx167_2); (try rw [show ((1 : Int)).toNat = 1 from rfl] at hx167_3); (try rw [show 1 * 4 = 4 from rfl] at hx167_3); replace p167 := eq_true p167; replace q167 := eq_true q167))
            go_ret
            exact ⟨by first | rfl | (simp [errW_none, errW_some] <;> rfl) | (simp [*, errW_none, errW_some] <;> rfl), by repeat (first | (with_reducible first | exact HB.out | apply below_alloc | apply pw_below_drewN | apply below_drew1) | exact HB.out)⟩
        · rw [if_neg c5] at H
          have c5b0 : (((rd_T28 t161 1).f0) == 5) = false := beq_eq_false_iff_ne.mpr c5
          have c5b1 : (((rd_T28 t161 1).f0) != 5) = true := bne_iff_ne.mpr c5
          obtain rfl := Option.some.inj H
          go_enter Tryd.func9, Tryd.ntmps9
          go_wp2_with (first | ((with_reducible refine gate_callee (f := 10) rfl ?_); refine goesL_ (some 5) rfl rfl Tryd.func10 (by kernel_rfl) rfl #[.string (⟨#[97, 60, 61, 49]⟩ : ByteArray)] rfl (by (try simp only [List.map_toArray, List.map_cons, List.map_nil]); first | done | rfl | (simp only [List.length_drop, List.length_take]; rfl)) ?_; (with_reducible refine (lex_Tokens.calls k (⟨#[97, 60, 61, 49]⟩ : ByteArray) t161 t162 t163 _ ?hwd83 A1.out).mono ?_); (case hwd83 => exact Wd.below hgw (by repeat (first | (with_reducible first | exact HB.out | apply below_alloc | apply pw_below_drewN | apply below_drew1) | exact HB.out))); rintro e w23 ⟨v164, rfl, ho0, hb⟩; refine ⟨_, rfl, ?_⟩; have n0_ := Aside0.mk (Kd.R_lower ho0 (below_size (by repeat (first | (with_reducible first | exact HB.out | apply below_alloc | apply pw_below_drewN | apply below_drew1) | exact HB.out)))); have n1_ := Aside0.mk (below_step (by repeat (first | (with_reducible first | exact HB.out | apply below_alloc | apply pw_below_drewN | apply below_drew1) | exact HB.out)) hb); clear HB; have HO165 := n0_; have HB := n1_; clear n0_ n1_; (try clear hb); (try clear hb2); (try clear hk); (try clear hi); (try clear ho0); obtain ⟨Ao24, co24, eo24⟩ := Kd.R_slice HO165.out; subst eo24; have p166 : 0 ≤ (1 : Int) := (by omega); have q166 : 1 < (t161.length : Int) := of_decide_eq_true (by first | (with_reducible assumption) | assumption); obtain ⟨ad166, e166, hx166_0, hx166_1, hx166_2, hx166_3⟩ := at_T28 (Kd.R_reads' HO165.out).2.2 1 p166 q166; cases e166; (try simp only [show (1 : Int).toNat = 1 from rfl, Nat.reduceMul, Nat.reduceEqDiff, Go.Addr.add, ↓reduceIte] at hx166_0); (try simp only [show (1 : Int).toNat = 1 from rfl, Nat.reduceMul, Nat.reduceEqDiff, Go.Addr.add, ↓reduceIte] at hx166_1); (try simp only [show (1 : Int).toNat = 1 from rfl, Nat.reduceMul, Nat.reduceEqDiff, Go.Addr.add, ↓reduceIte] at hx166_2); (try simp only [show (1 : Int).toNat = 1 from rfl, Nat.reduceMul, Nat.reduceEqDiff, Go.Addr.add, ↓reduceIte] at hx166_3); have qi166 : (1 < t161.length) = True := eq_true (by omega); (try rw [show ((1 : Int)).toNat = 1 from rfl] at hx166_0); (try rw [show 1 * 4 = 4 from rfl] at hx166_0); (try rw [show ((1 : Int)).toNat = 1 from rfl] at hx166_1); (try rw [show 1 * 4 = 4 from rfl] at hx166_1); (try rw [show ((1 : Int)).toNat = 1 from rfl] at hx166_2); (try rw [show 1 * 4 = 4 from rfl] at hx166_2); (try rw [show ((1 : Int)).toNat = 1 from rfl] at hx166_3); (try rw [show 1 * 4 = 4 from rfl] at hx166_3); replace p166 := eq_true p166; replace q166 := eq_true q166))
          go_ret
          exact ⟨by first | rfl | (simp [errW_none, errW_some] <;> rfl) | (simp [*, errW_none, errW_some] <;> rfl), by repeat (first | (with_reducible first | exact HB.out | apply below_alloc | apply pw_below_drewN | apply below_drew1) | exact HB.out)⟩
      · rw [if_neg c4] at H
        exact absurd H (by simp)
    · rw [if_neg c3] at H
      have c3b0 : (t163 == 0) = false := beq_eq_false_iff_ne.mpr c3
      have c3b1 : (t163 != 0) = true := bne_iff_ne.mpr c3
      obtain rfl := Option.some.inj H
      go_enter Tryd.func9, Tryd.ntmps9
      go_wp2_with (first | ((with_reducible refine gate_callee (f := 10) rfl ?_); refine goesL_ (some 5) rfl rfl Tryd.func10 (by kernel_rfl) rfl #[.string (⟨#[97, 60, 61, 49]⟩ : ByteArray)] rfl (by (try simp only [List.map_toArray, List.map_cons, List.map_nil]); first | done | rfl | (simp only [List.length_drop, List.length_take]; rfl)) ?_; (with_reducible refine (lex_Tokens.calls k (⟨#[97, 60, 61, 49]⟩ : ByteArray) t161 t162 t163 _ ?hwd84 A1.out).mono ?_); (case hwd84 => exact Wd.below hgw (by repeat (first | (with_reducible first | exact HB.out | apply below_alloc | apply pw_below_drewN | apply below_drew1) | exact HB.out))); rintro e w25 ⟨v164, rfl, ho0, hb⟩; refine ⟨_, rfl, ?_⟩; have n0_ := Aside0.mk (Kd.R_lower ho0 (below_size (by repeat (first | (with_reducible first | exact HB.out | apply below_alloc | apply pw_below_drewN | apply below_drew1) | exact HB.out)))); have n1_ := Aside0.mk (below_step (by repeat (first | (with_reducible first | exact HB.out | apply below_alloc | apply pw_below_drewN | apply below_drew1) | exact HB.out)) hb); clear HB; have HO165 := n0_; have HB := n1_; clear n0_ n1_; (try clear hb); (try clear hb2); (try clear hk); (try clear hi); (try clear ho0); obtain ⟨Ao26, co26, eo26⟩ := Kd.R_slice HO165.out; subst eo26))
      go_ret
      exact ⟨by first | rfl | (simp [errW_none, errW_some] <;> rfl) | (simp [*, errW_none, errW_some] <;> rfl), by repeat (first | (with_reducible first | exact HB.out | apply below_alloc | apply pw_below_drewN | apply below_drew1) | exact HB.out)⟩
  · rw [if_neg c2] at H
    have c2b0 : ((t161.length : Int) == 3) = false := beq_eq_false_iff_ne.mpr c2
    have c2b1 : ((t161.length : Int) != 3) = true := bne_iff_ne.mpr c2
    obtain rfl := Option.some.inj H
    go_enter Tryd.func9, Tryd.ntmps9
    go_wp2_with (first | ((with_reducible refine gate_callee (f := 10) rfl ?_); refine goesL_ (some 5) rfl rfl Tryd.func10 (by kernel_rfl) rfl #[.string (⟨#[97, 60, 61, 49]⟩ : ByteArray)] rfl (by (try simp only [List.map_toArray, List.map_cons, List.map_nil]); first | done | rfl | (simp only [List.length_drop, List.length_take]; rfl)) ?_; (with_reducible refine (lex_Tokens.calls k (⟨#[97, 60, 61, 49]⟩ : ByteArray) t161 t162 t163 _ ?hwd85 A1.out).mono ?_); (case hwd85 => exact Wd.below hgw (by repeat (first | (with_reducible first | exact HB.out | apply below_alloc | apply pw_below_drewN | apply below_drew1) | exact HB.out))); rintro e w27 ⟨v164, rfl, ho0, hb⟩; refine ⟨_, rfl, ?_⟩; have n0_ := Aside0.mk (Kd.R_lower ho0 (below_size (by repeat (first | (with_reducible first | exact HB.out | apply below_alloc | apply pw_below_drewN | apply below_drew1) | exact HB.out)))); have n1_ := Aside0.mk (below_step (by repeat (first | (with_reducible first | exact HB.out | apply below_alloc | apply pw_below_drewN | apply below_drew1) | exact HB.out)) hb); clear HB; have HO165 := n0_; have HB := n1_; clear n0_ n1_; (try clear hb); (try clear hb2); (try clear hk); (try clear hi); (try clear ho0); obtain ⟨Ao28, co28, eo28⟩ := Kd.R_slice HO165.out; subst eo28))
    go_ret
    exact ⟨by first | rfl | (simp [errW_none, errW_some] <;> rfl) | (simp [*, errW_none, errW_some] <;> rfl), by repeat (first | (with_reducible first | exact HB.out | apply below_alloc | apply pw_below_drewN | apply below_drew1) | exact HB.out)⟩

/-! ### umlautref17_digit: function 19 -/
def umlautref17_digit.f (a0 : Int) : Option (Bool) := if a0 ≥ 48 then (some (decide (a0 ≤ 57))) else (some false)
set_option maxHeartbeats 8000000 in
set_option maxRecDepth 100000 in
theorem umlautref17_digit.calls (a0 : Int) (r : Bool) (w : World) (h : umlautref17_digit.f a0 = some r) :
    Calls Tryd.prog 19 #[.int .u8 a0] w fun e w' => e = .returned (.bool r) ∧ Drawn0 w w' := by
  have H : (if a0 ≥ 48 then (some (decide (a0 ≤ 57))) else (some false)) = some r := h
  clear h
  by_cases c2 : a0 ≥ 48
  · rw [if_pos c2] at H
    have c2b0 : decide (48 ≤ a0) = true := decide_eq_true c2
    clear c2
    obtain rfl := Option.some.inj H
    go_enter Tryd.func19, Tryd.ntmps19
    go_wp2
    go_ret
    exact ⟨by first | rfl | (simp; done) | (simp [*]; done), by repeat (first | exact Drawn0.refl _ | apply Drawn0.step)⟩
  · rw [if_neg c2] at H
    have c2b0 : decide (48 ≤ a0) = false := decide_eq_false c2
    clear c2
    obtain rfl := Option.some.inj H
    go_enter Tryd.func19, Tryd.ntmps19
    go_wp2
    go_ret
    exact ⟨by first | rfl | (simp; done) | (simp [*]; done), by repeat (first | exact Drawn0.refl _ | apply Drawn0.step)⟩

end Go.Proofs.YtobhcpfdgfkeiaaDoor.Lx

namespace Go.Proofs.YtobhcpfdgfkeiaaDoor.Lp
open Go.RowKit Go.Proofs.YtobhcpfdgfkeiaaDoorW.PrintWords Go.Proofs.YtobhcpfdgfkeiaaDoor.Ext Go.Proofs.YtobhcpfdgfkeiaaDoor.Lx
set_option linter.unusedVariables false

theorem bt_nat {s : ByteArray} {i : Nat} (h : i < s.size) : bt s (i : Int) = (s[i].toNat : Int) := (bt_at s i (by simpa using h)).symm
theorem u8_back (c : UInt8) : ((c.toNat : Int)).toNat.toUInt8 = c := by simp
theorem wrap_nat (n : Nat) (h : n ≤ 9223372036854775807) : wrap64 (n : Int) = n := by unfold wrap64; omega
theorem wrap_add1 (i : Nat) (h : i + 1 ≤ 9223372036854775807) : wrap64 ((i : Int) + 1) = ((i + 1 : Nat) : Int) := by unfold wrap64; omega
theorem wrap_addn (i n : Nat) (h : i + n ≤ 9223372036854775807) : wrap64 ((i : Int) + (n : Int)) = ((i + n : Nat) : Int) := by unfold wrap64; omega
theorem ext_drop (s : ByteArray) (i : Nat) : (s.extract i s.size).data.toList = s.data.toList.drop i := Lib.extract_to_end s i
theorem ext_take (s : ByteArray) (n : Nat) : (s.extract 0 n).data.toList = s.data.toList.take n := by rw [Lib.extract_data]; simp
theorem len_size (s : ByteArray) : s.data.toList.length = s.size := by simp

theorem prefix_eq (a b : ByteArray) : strings_HasPrefix.f a b = some (Lib.hasPrefix a.data.toList b.data.toList) := rfl
theorem blank_eq (c : UInt8) : strings_IndexByte.f (⟨#[32, 9, 10, 13]⟩ : ByteArray) (c.toNat : Int) = some (Lib.indexByte [32, 9, 10, 13] c) := by
  unfold strings_IndexByte.f; rw [u8_back]
theorem blank_iff (c : UInt8) : (Lib.indexByte [32, 9, 10, 13] c ≥ 0) ↔ isBlank c = true := by
  unfold isBlank; rw [Lib.contains_iff_indexByte]; simp
theorem u8_comm (x y : UInt8) : (x == y) = (y == x) := by rw [Bool.eq_iff_iff, beq_iff_eq, beq_iff_eq]; exact eq_comm
theorem two_eq (a b c d : UInt8) (r : Bytes) : Lib.hasPrefix (c :: d :: r) [a, b] = (c == a && d == b) := by
  show (a == c && (b == d && true)) = _
  rw [Bool.and_true, u8_comm a c, u8_comm b d]
theorem two_one (a b c : UInt8) : Lib.hasPrefix [c] [a, b] = false := by
  show (a == c && false) = _
  rw [Bool.and_false]
theorem rem_eq (c : UInt8) (l : Bytes) : Lib.hasPrefix (c :: l) [45, 45] = isRem (c :: l) := by
  cases l with
  | nil => rw [two_one]; rfl
  | cons d r => rw [two_eq]; rfl

theorem skip_at (s : ByteArray) (hs : s.size ≤ 140737488351232) : ∀ (d k i : Nat), i ≤ s.size → s.size - i ≤ d → d < k → lex_skip.l0 k s (i : Int) = some ((i + skipL (s.data.toList.drop i) : Nat) : Int) := by
  intro d
  induction d using Nat.strongRecOn with
  | _ d ih =>
  intro k i hi hd hk
  obtain ⟨k, rfl⟩ : ∃ m, k = m + 1 := ⟨k - 1, by omega⟩
  simp only [lex_skip.l0]
  by_cases hlt : i < s.size
  · rw [if_pos (by omega), if_pos (by omega), bt_nat hlt, blank_eq]
    simp only [Option.bind_some]
    rw [drop_at hlt]
    cases hb : isBlank s[i] with
    | true =>
      rw [if_pos ((blank_iff _).mpr hb), wrap_add1 _ (by omega), ih (d - 1) (by omega) k (i + 1) (by omega) (by omega) (by omega), skipL_blank hb]
      congr 2; omega
    | false =>
      rw [if_neg (by rw [blank_iff, hb]; simp), if_pos (by omega), prefix_eq, Int.toNat_natCast, ext_drop, drop_at hlt]
      simp only [Option.bind_some]
      rw [rem_eq]
      cases hr : isRem (s[i] :: s.data.toList.drop (i + 1)) with
      | true =>
        rw [if_pos rfl]
        have hsz : (s.extract i s.size).size ≤ 9223372036854775807 := by rw [ByteArray.size_extract]; omega
        unfold lex_span.f spanBy
        rw [if_pos hsz, if_pos rfl, ext_drop]
        simp only [Option.map_some, Option.bind_some]
        have h1 := spanOf_pos (l := s.data.toList.drop (i + 1)) (isRem_notLf hr)
        have h2 := spanOf_le notLf (s.data.toList.drop i)
        rw [List.length_drop, len_size] at h2
        rw [← drop_at hlt] at h1
        rw [wrap_addn _ _ (by omega), ih (d - spanOf notLf (s.data.toList.drop i)) (by omega) k _ (by omega) (by omega) (by omega), skipL_rem hb hr, ← drop_at hlt, List.drop_drop]
        congr 2; omega
      | false =>
        rw [if_neg (by simp), skipL_none hb hr]; rfl
  · rw [if_neg (by omega), drop_end (by omega), skipL_nil]; rfl
theorem skip_eq (s : ByteArray) (hs : s.size ≤ 140737488351232) (k : Nat) (hk : s.size < k) : lex_skip.f k s = some ((skipL s.data.toList : Nat) : Int) := by
  unfold lex_skip.f
  have := skip_at s hs s.size k 0 (by omega) (by omega) hk
  simpa using this
end Go.Proofs.YtobhcpfdgfkeiaaDoor.Lp

namespace Go.Proofs.YtobhcpfdgfkeiaaDoor.Lp
open Go.RowKit Go.Proofs.YtobhcpfdgfkeiaaDoorW.PrintWords Go.Proofs.YtobhcpfdgfkeiaaDoor.Ext Go.Proofs.YtobhcpfdgfkeiaaDoor.Lx Go.Proofs.YtobhcpfdgfkeiaaDoor.Lf
set_option linter.unusedVariables false

theorem single_eq (c : UInt8) : strings_IndexByte.f (⟨#[40, 41, 44, 46, 59, 42, 61, 60, 62, 43, 45, 47, 37, 38, 124, 94]⟩ : ByteArray) (c.toNat : Int) = some (Lib.indexByte [40, 41, 44, 46, 59, 42, 61, 60, 62, 43, 45, 47, 37, 38, 124, 94] c) := by
  unfold strings_IndexByte.f; rw [u8_back]
theorem single_iff (c : UInt8) : (Lib.indexByte [40, 41, 44, 46, 59, 42, 61, 60, 62, 43, 45, 47, 37, 38, 124, 94] c ≥ 0) ↔ single c = true := by
  unfold single; rw [Lib.contains_iff_indexByte]; simp
def noTok : Int × ByteArray × Int × Int × Int := (0, ⟨#[]⟩, 0, 0, 0)
def opAns (l : Bytes) : Int × ByteArray × Int × Int × Int := if opLen l = 0 then noTok else (5, ⟨(l.take (opLen l)).toArray⟩, 0, 0, (opLen l : Nat))
theorem bytes_take (s : ByteArray) (n : Nat) : s.extract 0 n = ⟨(s.data.toList.take n).toArray⟩ := by
  apply WideShapes.bytes_inj
  rw [ext_take]
theorem op_one (s : ByteArray) (k : Nat) (h0 : 0 < s.size) (r : Option (Int × ByteArray × Int × Int × Int)) (hr : r = if single s[0] = true then some (5, ⟨(s.data.toList.take 1).toArray⟩, 0, 0, 1) else some noTok) :
    (if 0 < (s.size : Int) then ((strings_IndexByte.f (⟨#[40, 41, 44, 46, 59, 42, 61, 60, 62, 43, 45, 47, 37, 38, 124, 94]⟩ : ByteArray) (bt s 0)).bind fun t116 => (if t116 ≥ 0 then (if 0 ≤ 1 then (if 1 ≤ (s.size : Int) then (some (5, s.extract 0 1, 0, 0, 1)) else (none)) else (none)) else (some (0, (⟨#[]⟩ : ByteArray), 0, 0, 0)))) else (none)) = r := by
  have hb : bt s 0 = (s[0].toNat : Int) := bt_nat (i := 0) h0
  rw [if_pos (by omega), hb, single_eq, hr]
  simp only [Option.bind_some]
  by_cases h : single s[0] = true
  · rw [if_pos ((single_iff _).mpr h), if_pos h, if_pos (by decide), if_pos (by omega), bytes_take]
  · rw [if_neg (fun h' => h ((single_iff _).mp h')), if_neg h]; rfl
def opFind (l : Bytes) : List ByteArray → Int × ByteArray × Int × Int × Int
  | [] => if single (l.headD 0) = true then (5, ⟨(l.take 1).toArray⟩, 0, 0, 1) else noTok
  | o :: os => if Lib.hasPrefix l o.data.toList = true then (5, o, 0, 0, 2) else opFind l os
theorem rdOf_at (ops : List ByteArray) (j : Nat) (h : j < ops.length) : rdOf ByteArray.empty ops (j : Int) = ops[j] := by
  unfold rdOf
  rw [Int.toNat_natCast, List.getD_eq_getElem?_getD, List.getElem?_eq_getElem h]; rfl
theorem op_loop (s : ByteArray) (h0 : 0 < s.size) (ops : List ByteArray) (hl : ops.length ≤ 100) : ∀ (d k j : Nat), j ≤ ops.length → ops.length - j ≤ d → d < k → lex_op.l0 k s ops (ops.length : Int) (j : Int) = some (opFind s.data.toList (ops.drop j)) := by
  intro d
  induction d with
  | zero =>
    intro k j hj hd hk
    obtain ⟨k, rfl⟩ : ∃ m, k = m + 1 := ⟨k - 1, by omega⟩
    simp only [lex_op.l0]
    rw [if_neg (by omega), List.drop_eq_nil_of_le (by omega)]
    refine op_one s k h0 _ ?_
    have e : s.data.toList.headD 0 = s[0] := by have := drop_at (k := 0) h0; rw [List.drop_zero] at this; rw [this]; rfl
    unfold opFind
    rw [e]
    split <;> rfl
  | succ d ih =>
    intro k j hj hd hk
    obtain ⟨k, rfl⟩ : ∃ m, k = m + 1 := ⟨k - 1, by omega⟩
    by_cases hlt : j < ops.length
    · simp only [lex_op.l0]
      rw [if_pos (by omega), if_pos (by omega), if_pos (by omega), rdOf_at ops j hlt, prefix_eq, List.drop_eq_getElem_cons hlt]
      simp only [Option.bind_some, opFind]
      by_cases hp : Lib.hasPrefix s.data.toList ops[j].data.toList = true
      · rw [if_pos hp, if_pos hp]
      · rw [if_neg hp, if_neg hp, wrap_add1 _ (by omega), ih k (j + 1) (by omega) (by omega) (by omega)]
    · exact (show _ from by
        simp only [lex_op.l0]
        rw [if_neg (by omega), List.drop_eq_nil_of_le (by omega)]
        refine op_one s k h0 _ ?_
        have e : s.data.toList.headD 0 = s[0] := by have := drop_at (k := 0) h0; rw [List.drop_zero] at this; rw [this]; rfl
        unfold opFind
        rw [e]
        split <;> rfl)
def twoOps : List ByteArray := [⟨#[60, 62]⟩, ⟨#[60, 61]⟩, ⟨#[62, 61]⟩, ⟨#[60, 60]⟩, ⟨#[62, 62]⟩, ⟨#[124, 124]⟩]
theorem opFind_eq (l : Bytes) (h : l ≠ []) : opFind l twoOps = opAns l := by
  match l, h with
  | [c], _ =>
    simp only [opFind, twoOps, two_one]
    unfold opAns opLen
    by_cases h : single c = true
    · simp [h]
    · simp [h]
  | c :: d :: r, _ =>
    simp only [opFind, twoOps, two_eq]
    by_cases h1 : c = 60 ∧ d = 62
    · obtain ⟨rfl, rfl⟩ := h1; rfl
    by_cases h2 : c = 60 ∧ d = 61
    · obtain ⟨rfl, rfl⟩ := h2; rfl
    by_cases h3 : c = 62 ∧ d = 61
    · obtain ⟨rfl, rfl⟩ := h3; rfl
    by_cases h4 : c = 60 ∧ d = 60
    · obtain ⟨rfl, rfl⟩ := h4; rfl
    by_cases h5 : c = 62 ∧ d = 62
    · obtain ⟨rfl, rfl⟩ := h5; rfl
    by_cases h6 : c = 124 ∧ d = 124
    · obtain ⟨rfl, rfl⟩ := h6; rfl
    have e : double c d = false := by
      rw [Bool.eq_false_iff]
      intro h
      unfold double at h
      rw [List.contains_iff_mem] at h
      simp only [List.mem_cons, Prod.mk.injEq, List.not_mem_nil, or_false] at h
      rcases h with h | h | h | h | h | h
      · exact h1 h
      · exact h2 h
      · exact h3 h
      · exact h4 h
      · exact h5 h
      · exact h6 h
    have n (a b : UInt8) (h : ¬ (c = a ∧ d = b)) : (c == a && d == b) = false := by
      rw [Bool.eq_false_iff]; intro h'
      rw [Bool.and_eq_true, beq_iff_eq, beq_iff_eq] at h'
      exact h h'
    have e2 : opLen (c :: d :: r) = if single c = true then 1 else 0 := by
      show (if double c d = true then 2 else if single c = true then 1 else 0) = _
      rw [e]; simp
    unfold opAns
    rw [e2, n _ _ h1, n _ _ h2, n _ _ h3, n _ _ h4, n _ _ h5, n _ _ h6]
    simp only [Bool.false_eq_true, if_false, List.headD_cons]
    by_cases h : single c = true
    · simp [h]
    · simp [h]
theorem op_eq (s : ByteArray) (k : Nat) (hk : 7 ≤ k) (h0 : 0 < s.size) : lex_op.f k s = some (opAns s.data.toList) := by
  unfold lex_op.f
  simp only [Option.bind_some]
  have := op_loop s h0 twoOps (by decide) 6 k 0 (by decide) (by decide) (by omega)
  rw [List.drop_zero, opFind_eq _ (by intro e; have := len_size s; rw [e] at this; simp at this; omega)] at this
  exact this
end Go.Proofs.YtobhcpfdgfkeiaaDoor.Lp

namespace Go.Proofs.YtobhcpfdgfkeiaaDoor.Lp
open Go.RowKit Go.Proofs.YtobhcpfdgfkeiaaDoorW.PrintWords Go.Proofs.YtobhcpfdgfkeiaaDoor.Ext Go.Proofs.YtobhcpfdgfkeiaaDoor.Lx Go.Proofs.YtobhcpfdgfkeiaaDoor.Lf
set_option linter.unusedVariables false

def tokAns (l : Bytes) : Int × ByteArray × Int × Int × Int := match tokL l with | none => noTok | some t => (t.kind, t.text, t.num, 0, (t.len : Nat))
theorem tokL_cons (c : UInt8) (r : Bytes) : tokL (c :: r) =
    if isLet c = true then
      if 16 < spanOf isNam (c :: r) then none
      else if isWord (Lib.toUpperA ((c :: r).take (spanOf isNam (c :: r)))) = true then some ⟨2, ⟨(Lib.toUpperA ((c :: r).take (spanOf isNam (c :: r)))).toArray⟩, 0, spanOf isNam (c :: r)⟩
      else some ⟨1, ⟨(Lib.toLowerA ((c :: r).take (spanOf isNam (c :: r)))).toArray⟩, 0, spanOf isNam (c :: r)⟩
    else if isDig c = true then (numOf (c :: r)).map fun x => ⟨3, ⟨#[]⟩, x.1, x.2⟩
    else if c.toNat = 39 then (textOf r).map fun x => ⟨4, ⟨x.1.toArray⟩, 0, x.2 + 1⟩
    else if opLen (c :: r) = 0 then none else some ⟨5, ⟨((c :: r).take (opLen (c :: r))).toArray⟩, 0, opLen (c :: r)⟩ := rfl
theorem token_eq (s : ByteArray) (hs : s.size ≤ 140737488351232) (k : Nat) (hk : 7 ≤ k) (h0 : 0 < s.size) : lex_token.f k s = some (tokAns s.data.toList) := by
  have e : s.data.toList = s[0] :: s.data.toList.drop 1 := by have := drop_at (k := 0) h0; simpa using this
  have hb : bt s 0 = (s[0].toNat : Int) := bt_nat (i := 0) h0
  unfold lex_token.f
  rw [if_pos (by omega), hb, letter_eq]
  simp only [Option.bind_some]
  unfold tokAns
  by_cases h1 : isLet s[0] = true
  · rw [if_pos h1]
    unfold lex_name.f
    rw [if_pos hs]
    simp only [Option.bind_some]
    have ht : tokL s.data.toList = _ := (congrArg tokL e).trans (tokL_cons _ _)
    rw [if_pos h1, ← e] at ht
    rw [ht]
    unfold nameAns nameAnsN
    by_cases h2 : 16 < spanOf isNam s.data.toList
    · rw [if_pos h2, if_pos h2]; rfl
    · rw [if_neg h2, if_neg h2]
      by_cases h3 : isWord (Lib.toUpperA (s.data.toList.take (spanOf isNam s.data.toList))) = true
      · rw [if_pos h3, if_pos h3]
      · rw [if_neg h3, if_neg h3]
  · rw [if_neg h1, digit_eq]
    simp only [Option.bind_some]
    by_cases h2 : isDig s[0] = true
    · rw [if_pos h2]
      unfold lex_number.f
      rw [if_pos hs]
      simp only [Option.bind_some]
      have ht : tokL s.data.toList = _ := (congrArg tokL e).trans (tokL_cons _ _)
      rw [if_neg h1, if_pos h2, ← e] at ht
      rw [ht]
      unfold numAns
      cases hn : numOf s.data.toList with
      | none => rfl
      | some x => rfl
    · rw [if_neg h2]
      by_cases h3 : s[0].toNat = 39
      · rw [if_pos (by omega)]
        unfold lex_text.f
        rw [if_pos hs]
        simp only [Option.bind_some]
        have ht : tokL s.data.toList = _ := (congrArg tokL e).trans (tokL_cons _ _)
        rw [if_neg h1, if_neg h2, if_pos h3] at ht
        rw [ht]
        unfold textAns
        cases hn : textOf (s.data.toList.drop 1) with
        | none => rfl
        | some x => rfl
      · rw [if_neg (by omega), op_eq s k hk h0]
        simp only [Option.bind_some]
        have ht : tokL s.data.toList = _ := (congrArg tokL e).trans (tokL_cons _ _)
        rw [if_neg h1, if_neg h2, if_neg h3, ← e] at ht
        rw [ht]
        unfold opAns
        by_cases h4 : opLen s.data.toList = 0
        · rw [if_pos h4, if_pos h4]
        · rw [if_neg h4, if_neg h4]
end Go.Proofs.YtobhcpfdgfkeiaaDoor.Lp

namespace Go.Proofs.YtobhcpfdgfkeiaaDoor.Lx
open Go.RowKit Go.Proofs.YtobhcpfdgfkeiaaDoorW.PrintWords Go.Proofs.YtobhcpfdgfkeiaaDoorW.PrintLast Go.Proofs.YtobhcpfdgfkeiaaDoorW.PrintMore Go.Proofs.YtobhcpfdgfkeiaaDoor.Lf Go.Proofs.YtobhcpfdgfkeiaaDoor.Ext
attribute [local go_sem] max2_int min2_int max_two min_two max_three min_three max_four min_four   -- for this text's walks alone
set_option linter.unusedVariables false
set_option linter.unusedSimpArgs false

/-! ### umlautref1_Sub: function 40 -/
def umlautref1_Sub.f (a0 : Int) (a1 : Int) : Option (Int × Int) := if a1 < 0 then (if a0 > (wrap64 (9223372036854775807 + a1)) then (some (0, 17)) else (if a1 > 0 then (if a0 < (wrap64 ((-9223372036854775808) + a1)) then (some (0, 17)) else (some (wrap64 (a0 - a1), 0))) else (some (wrap64 (a0 - a1), 0)))) else (if a1 > 0 then (if a0 < (wrap64 ((-9223372036854775808) + a1)) then (some (0, 17)) else (some (wrap64 (a0 - a1), 0))) else (some (wrap64 (a0 - a1), 0)))
set_option maxHeartbeats 8000000 in
set_option maxRecDepth 100000 in
theorem umlautref1_Sub.calls (a0 : Int) (a1 : Int) (r1 : Int) (r2 : Int) (w : World) (h : umlautref1_Sub.f a0 a1 = some (r1, r2)) :
    Calls Tryd.prog 40 #[.int .i64 a0, .int .i64 a1] w fun e w' => e = .returned (.tuple #[.int .i64 r1, .int .i64 r2]) ∧ Drawn0 w w' := by
  have H : (if a1 < 0 then (if a0 > (wrap64 (9223372036854775807 + a1)) then (some (0, 17)) else (if a1 > 0 then (if a0 < (wrap64 ((-9223372036854775808) + a1)) then (some (0, 17)) else (some (wrap64 (a0 - a1), 0))) else (some (wrap64 (a0 - a1), 0)))) else (if a1 > 0 then (if a0 < (wrap64 ((-9223372036854775808) + a1)) then (some (0, 17)) else (some (wrap64 (a0 - a1), 0))) else (some (wrap64 (a0 - a1), 0)))) = some (r1, r2) := h
  clear h
  by_cases c3 : a1 < 0
  · rw [if_pos c3] at H
    have c3b0 : decide (a1 < 0) = true := decide_eq_true c3
    clear c3
    by_cases c4 : a0 > (wrap64 (9223372036854775807 + a1))
    · rw [if_pos c4] at H
      have c4b0 : decide ((wrap64 (9223372036854775807 + a1)) < a0) = true := decide_eq_true c4
      clear c4
      simp only [Option.some.injEq, Prod.mk.injEq] at H
      obtain ⟨rfl, rfl⟩ := H
      go_enter Tryd.func40, Tryd.ntmps40
      go_wp2
      go_ret2
      exact ⟨by first | rfl | (simp; done) | (simp [*]; done), by repeat (first | exact Drawn0.refl _ | apply Drawn0.step)⟩
    · rw [if_neg c4] at H
      have c4b0 : decide ((wrap64 (9223372036854775807 + a1)) < a0) = false := decide_eq_false c4
      clear c4
      by_cases c5 : a1 > 0
      · rw [if_pos c5] at H
        have c5b0 : decide (0 < a1) = true := decide_eq_true c5
        clear c5
        by_cases c6 : a0 < (wrap64 ((-9223372036854775808) + a1))
        · rw [if_pos c6] at H
          have c6b0 : decide (a0 < (wrap64 ((-9223372036854775808) + a1))) = true := decide_eq_true c6
          clear c6
          simp only [Option.some.injEq, Prod.mk.injEq] at H
          obtain ⟨rfl, rfl⟩ := H
          go_enter Tryd.func40, Tryd.ntmps40
          go_wp2
          go_ret2
          exact ⟨by first | rfl | (simp; done) | (simp [*]; done), by repeat (first | exact Drawn0.refl _ | apply Drawn0.step)⟩
        · rw [if_neg c6] at H
          have c6b0 : decide (a0 < (wrap64 ((-9223372036854775808) + a1))) = false := decide_eq_false c6
          clear c6
          simp only [Option.some.injEq, Prod.mk.injEq] at H
          obtain ⟨rfl, rfl⟩ := H
          go_enter Tryd.func40, Tryd.ntmps40
          go_wp2
          go_ret2
          exact ⟨by first | rfl | (simp; done) | (simp [*]; done), by repeat (first | exact Drawn0.refl _ | apply Drawn0.step)⟩
      · rw [if_neg c5] at H
        have c5b0 : decide (0 < a1) = false := decide_eq_false c5
        clear c5
        simp only [Option.some.injEq, Prod.mk.injEq] at H
        obtain ⟨rfl, rfl⟩ := H
        go_enter Tryd.func40, Tryd.ntmps40
        go_wp2
        go_ret2
        exact ⟨by first | rfl | (simp; done) | (simp [*]; done), by repeat (first | exact Drawn0.refl _ | apply Drawn0.step)⟩
  · rw [if_neg c3] at H
    have c3b0 : decide (a1 < 0) = false := decide_eq_false c3
    clear c3
    by_cases c7 : a1 > 0
    · rw [if_pos c7] at H
      have c7b0 : decide (0 < a1) = true := decide_eq_true c7
      clear c7
      by_cases c8 : a0 < (wrap64 ((-9223372036854775808) + a1))
      · rw [if_pos c8] at H
        have c8b0 : decide (a0 < (wrap64 ((-9223372036854775808) + a1))) = true := decide_eq_true c8
        clear c8
        simp only [Option.some.injEq, Prod.mk.injEq] at H
        obtain ⟨rfl, rfl⟩ := H
        go_enter Tryd.func40, Tryd.ntmps40
        go_wp2
        go_ret2
        exact ⟨by first | rfl | (simp; done) | (simp [*]; done), by repeat (first | exact Drawn0.refl _ | apply Drawn0.step)⟩
      · rw [if_neg c8] at H
        have c8b0 : decide (a0 < (wrap64 ((-9223372036854775808) + a1))) = false := decide_eq_false c8
        clear c8
        simp only [Option.some.injEq, Prod.mk.injEq] at H
        obtain ⟨rfl, rfl⟩ := H
        go_enter Tryd.func40, Tryd.ntmps40
        go_wp2
        go_ret2
        exact ⟨by first | rfl | (simp; done) | (simp [*]; done), by repeat (first | exact Drawn0.refl _ | apply Drawn0.step)⟩
    · rw [if_neg c7] at H
      have c7b0 : decide (0 < a1) = false := decide_eq_false c7
      clear c7
      simp only [Option.some.injEq, Prod.mk.injEq] at H
      obtain ⟨rfl, rfl⟩ := H
      go_enter Tryd.func40, Tryd.ntmps40
      go_wp2
      go_ret2
      exact ⟨by first | rfl | (simp; done) | (simp [*]; done), by repeat (first | exact Drawn0.refl _ | apply Drawn0.step)⟩

/-! ### umlautref1_Neg: function 28 -/
def umlautref1_Neg.f (a0 : Int) : Option (Int × Int) := (umlautref1_Sub.f 0 a0).bind fun bt171 => (some (bt171.1, bt171.2))
set_option maxHeartbeats 8000000 in
set_option maxRecDepth 100000 in
theorem umlautref1_Neg.calls (a0 : Int) (r1 : Int) (r2 : Int) (w : World) (h : umlautref1_Neg.f a0 = some (r1, r2)) :
    Calls Tryd.prog 28 #[.int .i64 a0] w fun e w' => e = .returned (.tuple #[.int .i64 r1, .int .i64 r2]) ∧ Drawn0 w w' := by
  have H : ((umlautref1_Sub.f 0 a0).bind fun bt171 => (some (bt171.1, bt171.2))) = some (r1, r2) := h
  clear h
  replace H := Option.bind_eq_some_iff.mp H
  obtain ⟨⟨t171, t172⟩, A20, H⟩ := H
  replace H : (some (t171, t172)) = some (r1, r2) := H
  have A2 := Aside0.mk A20
  clear A20
  simp only [Option.some.injEq, Prod.mk.injEq] at H
  obtain ⟨rfl, rfl⟩ := H
  go_enter Tryd.func28, Tryd.ntmps28
  go_wp2_with (first | ((with_reducible refine gate_callee (f := 40) rfl ?_); refine goesL_ (some 5) rfl rfl Tryd.func40 (by kernel_rfl) rfl #[.int .i64 0, .int .i64 a0] rfl (by (try simp only [List.map_toArray, List.map_cons, List.map_nil]); first | done | rfl | (simp only [List.length_drop, List.length_take]; rfl)) ?_; (with_reducible refine (umlautref1_Sub.calls 0 a0 t171 t172 _ A2.out).mono ?_); rintro e w' ⟨rfl, ⟨nd, rfl⟩⟩; refine ⟨_, rfl, ?_⟩))
  go_ret2
  exact ⟨by first | rfl | (simp; done) | (simp [*]; done), by repeat (first | exact Drawn0.refl _ | apply Drawn0.step)⟩

end Go.Proofs.YtobhcpfdgfkeiaaDoor.Lx

namespace Go.Proofs.YtobhcpfdgfkeiaaDoor.Lx
open Go.RowKit Go.Proofs.YtobhcpfdgfkeiaaDoorW.PrintWords Go.Proofs.YtobhcpfdgfkeiaaDoorW.PrintLast Go.Proofs.YtobhcpfdgfkeiaaDoorW.PrintMore Go.Proofs.YtobhcpfdgfkeiaaDoor.Lf Go.Proofs.YtobhcpfdgfkeiaaDoor.Ext
attribute [local go_sem] max2_int min2_int max_two min_two max_three min_three max_four min_four   -- for this text's walks alone
set_option linter.unusedVariables false
set_option linter.unusedSimpArgs false

/-! ### umlautref1_Mul: function 15 -/
def umlautref1_Mul.j0 : Nat → Int → Int → Bool → Option (Int × Int)
  | 0, _, _, _ => none
  | k + 1, x0, x1, x12 => if x12 = true then (some (0, 0)) else (if x0 = (-1) then ((umlautref1_Neg.f x1).bind fun bt173 => (some (bt173.1, bt173.2))) else (if x1 = (-1) then ((umlautref1_Neg.f x0).bind fun bt175 => (some (bt175.1, bt175.2))) else (if x1 = 0 then (none) else (if (wrap64 (Int.tdiv (wrap64 (x0 * x1)) x1)) = x0 then (some (wrap64 (x0 * x1), 0)) else (some (0, 17))))))
def umlautref1_Mul.f (k : Nat) (a0 : Int) (a1 : Int) : Option (Int × Int) := if a0 = 0 then (umlautref1_Mul.j0 k a0 a1 true) else (umlautref1_Mul.j0 k a0 a1 (a1 == 0))
theorem umlautref1_Mul.mono_l : ∀ k, (∀ y0 y1 y2, LeO (umlautref1_Mul.j0 k y0 y1 y2) (umlautref1_Mul.j0 (k + 1) y0 y1 y2))
  | 0 => fun _ _ _ r h => by simp [umlautref1_Mul.j0] at h
  | k + 1 => by
    have ih0 := umlautref1_Mul.mono_l k
    · intro y0 y1 y2
      unfold umlautref1_Mul.j0
      repeat' first
      | (with_reducible exact ih0 _ _ _)
      | (with_reducible exact LeO.refl _)
      | (with_reducible exact LeO.none _)
      | (with_reducible refine LeO.ite ?_ ?_)
      | (with_reducible refine LeO.bind ?_ (fun _ => ?_))
      | exact ih0 _ _ _
      | exact LeO.none _
      | refine LeO.ite ?_ ?_
      | refine LeO.bind ?_ (fun _ => ?_)
theorem umlautref1_Mul.mono : ∀ a0 a1 k, LeO (umlautref1_Mul.f k a0 a1) (umlautref1_Mul.f (k + 1) a0 a1) := by
  intro a0 a1 k
  have ih0 := umlautref1_Mul.mono_l k
  unfold umlautref1_Mul.f
  repeat' first
      | (with_reducible exact ih0 _ _ _)
      | (with_reducible exact LeO.refl _)
      | (with_reducible exact LeO.none _)
      | (with_reducible refine LeO.ite ?_ ?_)
      | (with_reducible refine LeO.bind ?_ (fun _ => ?_))
      | exact ih0 _ _ _
      | exact LeO.none _
      | refine LeO.ite ?_ ?_
      | refine LeO.bind ?_ (fun _ => ?_)
set_option maxHeartbeats 8000000 in
set_option maxRecDepth 100000 in
theorem umlautref1_Mul.calls (k : Nat) (a0 : Int) (a1 : Int) (r1 : Int) (r2 : Int) (w : World) (h : umlautref1_Mul.f k a0 a1 = some (r1, r2)) :
    Calls Tryd.prog 15 #[.int .i64 a0, .int .i64 a1] w fun e w' => e = .returned (.tuple #[.int .i64 r1, .int .i64 r2]) ∧ Drawn0 w w' := by
  have H : (if a0 = 0 then (umlautref1_Mul.j0 k a0 a1 true) else (umlautref1_Mul.j0 k a0 a1 (a1 == 0))) = some (r1, r2) := h
  clear h
  have HC3 := Aside0.mk H
  clear H
  go_enter Tryd.func15, Tryd.ntmps15
  go_upto_region 1 with (fail)
  go_cut [12] (fun v12 wc => ∃ (kq : Nat) (x12_2 : Bool), v12 = .bool x12_2 ∧ Aside0 (umlautref1_Mul.j0 kq a0 a1 x12_2 = some (r1, r2)) ∧ Aside0 (kq ≤ k) ∧ Drawn0 w wc)
  case first =>
    have H := HC3.out
    clear HC3
    by_cases c4 : a0 = 0
    · rw [if_pos c4] at H
      have c4b0 : (a0 == 0) = true := beq_iff_eq.mpr c4
      have c4b1 : (a0 != 0) = false := bne_eq_false_iff_eq.mpr c4
      clear c4
      (first | rw [c4b0] | (simp only [i64_w, i32_w]; rw [c4b0]) | skip)
      have H' := Aside0.mk H
      clear H
      go_wp2
      go_meet
      case rel => exact ⟨_, (true), (by first | rfl | (simp; done) | (simp [*]; done)), H', ⟨by first | omega | exact Nat.le_refl _⟩, by repeat (first | exact Drawn0.refl _ | apply Drawn0.step)⟩
    · rw [if_neg c4] at H
      have c4b0 : (a0 == 0) = false := beq_eq_false_iff_ne.mpr c4
      have c4b1 : (a0 != 0) = true := bne_iff_ne.mpr c4
      (first | rw [c4b0] | (simp only [i64_w, i32_w]; rw [c4b0]) | skip)
      have H' := Aside0.mk H
      clear H
      go_wp2
      go_meet
      case rel => exact ⟨_, ((a1 == 0)), (by first | rfl | (simp; done) | (simp [*]; done)), H', ⟨by first | omega | exact Nat.le_refl _⟩, by repeat (first | exact Drawn0.refl _ | apply Drawn0.step)⟩
  case rest =>
    clear HC3
    try clear c1
    try clear p2
    try clear c4
    try clear c4b0
    try clear c4b1
    obtain ⟨kq, x12_2, rfl, HA, HJ2, ⟨mc2, rfl⟩⟩ := hcut
    cases kq with
    | zero => exact absurd HA.out (by simp [umlautref1_Mul.j0])
    | succ kj2 =>
      have H := HA.out
      clear HA
      simp only [umlautref1_Mul.j0] at H
      by_cases c5 : x12_2 = true
      · subst c5
        have H1 : (some (0, 0)) = some (r1, r2) := by rw [if_pos rfl] at H; exact H
        clear H
        have H := H1
        clear H1
        simp only [Option.some.injEq, Prod.mk.injEq] at H
        obtain ⟨rfl, rfl⟩ := H
        go_wp2
        go_ret2
        exact ⟨by first | rfl | (simp; done) | (simp [*]; done), by repeat (first | exact Drawn0.refl _ | apply Drawn0.step)⟩
      · replace c5 := Bool.eq_false_iff.mpr c5
        subst c5
        have H1 : (if a0 = (-1) then ((umlautref1_Neg.f a1).bind fun bt173 => (some (bt173.1, bt173.2))) else (if a1 = (-1) then ((umlautref1_Neg.f a0).bind fun bt175 => (some (bt175.1, bt175.2))) else (if a1 = 0 then (none) else (if (wrap64 (Int.tdiv (wrap64 (a0 * a1)) a1)) = a0 then (some (wrap64 (a0 * a1), 0)) else (some (0, 17)))))) = some (r1, r2) := by rw [if_neg (show ¬ (false = true) by decide)] at H; exact H
        clear H
        have H := H1
        clear H1
        by_cases c6 : a0 = (-1)
        · rw [if_pos c6] at H
          have c6b0 : (a0 == (-1)) = true := beq_iff_eq.mpr c6
          have c6b1 : (a0 != (-1)) = false := bne_eq_false_iff_eq.mpr c6
          clear c6
          replace H := Option.bind_eq_some_iff.mp H
          obtain ⟨⟨t173, t174⟩, A70, H⟩ := H
          replace H : (some (t173, t174)) = some (r1, r2) := H
          have A7 := Aside0.mk A70
          clear A70
          simp only [Option.some.injEq, Prod.mk.injEq] at H
          obtain ⟨rfl, rfl⟩ := H
          go_wp2_with (first | ((with_reducible refine gate_callee (f := 28) rfl ?_); refine goesL_ (some 16) rfl rfl Tryd.func28 (by kernel_rfl) rfl #[.int .i64 a1] rfl (by (try simp only [List.map_toArray, List.map_cons, List.map_nil]); first | done | rfl | (simp only [List.length_drop, List.length_take]; rfl)) ?_; (with_reducible refine (umlautref1_Neg.calls a1 t173 t174 _ A7.out).mono ?_); rintro e w' ⟨rfl, ⟨nd, rfl⟩⟩; refine ⟨_, rfl, ?_⟩))
          go_ret2
          exact ⟨by first | rfl | (simp; done) | (simp [*]; done), by repeat (first | exact Drawn0.refl _ | apply Drawn0.step)⟩
        · rw [if_neg c6] at H
          have c6b0 : (a0 == (-1)) = false := beq_eq_false_iff_ne.mpr c6
          have c6b1 : (a0 != (-1)) = true := bne_iff_ne.mpr c6
          by_cases c8 : a1 = (-1)
          · rw [if_pos c8] at H
            have c8b0 : (a1 == (-1)) = true := beq_iff_eq.mpr c8
            have c8b1 : (a1 != (-1)) = false := bne_eq_false_iff_eq.mpr c8
            clear c8
            replace H := Option.bind_eq_some_iff.mp H
            obtain ⟨⟨t175, t176⟩, A90, H⟩ := H
            replace H : (some (t175, t176)) = some (r1, r2) := H
            have A9 := Aside0.mk A90
            clear A90
            simp only [Option.some.injEq, Prod.mk.injEq] at H
            obtain ⟨rfl, rfl⟩ := H
            go_wp2_with (first | ((with_reducible refine gate_callee (f := 28) rfl ?_); refine goesL_ (some 22) rfl rfl Tryd.func28 (by kernel_rfl) rfl #[.int .i64 a0] rfl (by (try simp only [List.map_toArray, List.map_cons, List.map_nil]); first | done | rfl | (simp only [List.length_drop, List.length_take]; rfl)) ?_; (with_reducible refine (umlautref1_Neg.calls a0 t175 t176 _ A9.out).mono ?_); rintro e w' ⟨rfl, ⟨nd, rfl⟩⟩; refine ⟨_, rfl, ?_⟩))
            go_ret2
            exact ⟨by first | rfl | (simp; done) | (simp [*]; done), by repeat (first | exact Drawn0.refl _ | apply Drawn0.step)⟩
          · rw [if_neg c8] at H
            have c8b0 : (a1 == (-1)) = false := beq_eq_false_iff_ne.mpr c8
            have c8b1 : (a1 != (-1)) = true := bne_iff_ne.mpr c8
            by_cases c10 : a1 = 0
            · rw [if_pos c10] at H
              exact absurd H (by simp)
            · rw [if_neg c10] at H
              have c10b0 : (a1 == 0) = false := beq_eq_false_iff_ne.mpr c10
              have c10b1 : (a1 != 0) = true := bne_iff_ne.mpr c10
              by_cases c11 : (wrap64 (Int.tdiv (wrap64 (a0 * a1)) a1)) = a0
              · rw [if_pos c11] at H
                have c11b0 : ((wrap64 (Int.tdiv (wrap64 (a0 * a1)) a1)) == a0) = true := beq_iff_eq.mpr c11
                have c11b1 : ((wrap64 (Int.tdiv (wrap64 (a0 * a1)) a1)) != a0) = false := bne_eq_false_iff_eq.mpr c11
                clear c11
                simp only [Option.some.injEq, Prod.mk.injEq] at H
                obtain ⟨rfl, rfl⟩ := H
                go_wp2
                go_ret2
                exact ⟨by first | rfl | (simp; done) | (simp [*]; done), by repeat (first | exact Drawn0.refl _ | apply Drawn0.step)⟩
              · rw [if_neg c11] at H
                have c11b0 : ((wrap64 (Int.tdiv (wrap64 (a0 * a1)) a1)) == a0) = false := beq_eq_false_iff_ne.mpr c11
                have c11b1 : ((wrap64 (Int.tdiv (wrap64 (a0 * a1)) a1)) != a0) = true := bne_iff_ne.mpr c11
                simp only [Option.some.injEq, Prod.mk.injEq] at H
                obtain ⟨rfl, rfl⟩ := H
                go_wp2
                go_ret2
                exact ⟨by first | rfl | (simp; done) | (simp [*]; done), by repeat (first | exact Drawn0.refl _ | apply Drawn0.step)⟩

end Go.Proofs.YtobhcpfdgfkeiaaDoor.Lx

namespace Go.Proofs.YtobhcpfdgfkeiaaDoor.Lx
open Go.RowKit Go.Proofs.YtobhcpfdgfkeiaaDoorW.PrintWords Go.Proofs.YtobhcpfdgfkeiaaDoorW.PrintLast Go.Proofs.YtobhcpfdgfkeiaaDoorW.PrintMore Go.Proofs.YtobhcpfdgfkeiaaDoor.Lf Go.Proofs.YtobhcpfdgfkeiaaDoor.Ext
attribute [local go_sem] max2_int min2_int max_two min_two max_three min_three max_four min_four   -- for this text's walks alone
set_option linter.unusedVariables false
set_option linter.unusedSimpArgs false

/-! ### umlautref1_Add: function 16 -/
def umlautref1_Add.f (a0 : Int) (a1 : Int) : Option (Int × Int) := if a1 > 0 then (if a0 > (wrap64 (9223372036854775807 - a1)) then (some (0, 17)) else (if a1 < 0 then (if a0 < (wrap64 ((-9223372036854775808) - a1)) then (some (0, 17)) else (some (wrap64 (a0 + a1), 0))) else (some (wrap64 (a0 + a1), 0)))) else (if a1 < 0 then (if a0 < (wrap64 ((-9223372036854775808) - a1)) then (some (0, 17)) else (some (wrap64 (a0 + a1), 0))) else (some (wrap64 (a0 + a1), 0)))
set_option maxHeartbeats 8000000 in
set_option maxRecDepth 100000 in
theorem umlautref1_Add.calls (a0 : Int) (a1 : Int) (r1 : Int) (r2 : Int) (w : World) (h : umlautref1_Add.f a0 a1 = some (r1, r2)) :
    Calls Tryd.prog 16 #[.int .i64 a0, .int .i64 a1] w fun e w' => e = .returned (.tuple #[.int .i64 r1, .int .i64 r2]) ∧ Drawn0 w w' := by
  have H : (if a1 > 0 then (if a0 > (wrap64 (9223372036854775807 - a1)) then (some (0, 17)) else (if a1 < 0 then (if a0 < (wrap64 ((-9223372036854775808) - a1)) then (some (0, 17)) else (some (wrap64 (a0 + a1), 0))) else (some (wrap64 (a0 + a1), 0)))) else (if a1 < 0 then (if a0 < (wrap64 ((-9223372036854775808) - a1)) then (some (0, 17)) else (some (wrap64 (a0 + a1), 0))) else (some (wrap64 (a0 + a1), 0)))) = some (r1, r2) := h
  clear h
  by_cases c3 : a1 > 0
  · rw [if_pos c3] at H
    have c3b0 : decide (0 < a1) = true := decide_eq_true c3
    clear c3
    by_cases c4 : a0 > (wrap64 (9223372036854775807 - a1))
    · rw [if_pos c4] at H
      have c4b0 : decide ((wrap64 (9223372036854775807 - a1)) < a0) = true := decide_eq_true c4
      clear c4
      simp only [Option.some.injEq, Prod.mk.injEq] at H
      obtain ⟨rfl, rfl⟩ := H
      go_enter Tryd.func16, Tryd.ntmps16
      go_wp2
      go_ret2
      exact ⟨by first | rfl | (simp; done) | (simp [*]; done), by repeat (first | exact Drawn0.refl _ | apply Drawn0.step)⟩
    · rw [if_neg c4] at H
      have c4b0 : decide ((wrap64 (9223372036854775807 - a1)) < a0) = false := decide_eq_false c4
      clear c4
      by_cases c5 : a1 < 0
      · rw [if_pos c5] at H
        have c5b0 : decide (a1 < 0) = true := decide_eq_true c5
        clear c5
        by_cases c6 : a0 < (wrap64 ((-9223372036854775808) - a1))
        · rw [if_pos c6] at H
          have c6b0 : decide (a0 < (wrap64 ((-9223372036854775808) - a1))) = true := decide_eq_true c6
          clear c6
          simp only [Option.some.injEq, Prod.mk.injEq] at H
          obtain ⟨rfl, rfl⟩ := H
          go_enter Tryd.func16, Tryd.ntmps16
          go_wp2
          go_ret2
          exact ⟨by first | rfl | (simp; done) | (simp [*]; done), by repeat (first | exact Drawn0.refl _ | apply Drawn0.step)⟩
        · rw [if_neg c6] at H
          have c6b0 : decide (a0 < (wrap64 ((-9223372036854775808) - a1))) = false := decide_eq_false c6
          clear c6
          simp only [Option.some.injEq, Prod.mk.injEq] at H
          obtain ⟨rfl, rfl⟩ := H
          go_enter Tryd.func16, Tryd.ntmps16
          go_wp2
          go_ret2
          exact ⟨by first | rfl | (simp; done) | (simp [*]; done), by repeat (first | exact Drawn0.refl _ | apply Drawn0.step)⟩
      · rw [if_neg c5] at H
        have c5b0 : decide (a1 < 0) = false := decide_eq_false c5
        clear c5
        simp only [Option.some.injEq, Prod.mk.injEq] at H
        obtain ⟨rfl, rfl⟩ := H
        go_enter Tryd.func16, Tryd.ntmps16
        go_wp2
        go_ret2
        exact ⟨by first | rfl | (simp; done) | (simp [*]; done), by repeat (first | exact Drawn0.refl _ | apply Drawn0.step)⟩
  · rw [if_neg c3] at H
    have c3b0 : decide (0 < a1) = false := decide_eq_false c3
    clear c3
    by_cases c7 : a1 < 0
    · rw [if_pos c7] at H
      have c7b0 : decide (a1 < 0) = true := decide_eq_true c7
      clear c7
      by_cases c8 : a0 < (wrap64 ((-9223372036854775808) - a1))
      · rw [if_pos c8] at H
        have c8b0 : decide (a0 < (wrap64 ((-9223372036854775808) - a1))) = true := decide_eq_true c8
        clear c8
        simp only [Option.some.injEq, Prod.mk.injEq] at H
        obtain ⟨rfl, rfl⟩ := H
        go_enter Tryd.func16, Tryd.ntmps16
        go_wp2
        go_ret2
        exact ⟨by first | rfl | (simp; done) | (simp [*]; done), by repeat (first | exact Drawn0.refl _ | apply Drawn0.step)⟩
      · rw [if_neg c8] at H
        have c8b0 : decide (a0 < (wrap64 ((-9223372036854775808) - a1))) = false := decide_eq_false c8
        clear c8
        simp only [Option.some.injEq, Prod.mk.injEq] at H
        obtain ⟨rfl, rfl⟩ := H
        go_enter Tryd.func16, Tryd.ntmps16
        go_wp2
        go_ret2
        exact ⟨by first | rfl | (simp; done) | (simp [*]; done), by repeat (first | exact Drawn0.refl _ | apply Drawn0.step)⟩
    · rw [if_neg c7] at H
      have c7b0 : decide (a1 < 0) = false := decide_eq_false c7
      clear c7
      simp only [Option.some.injEq, Prod.mk.injEq] at H
      obtain ⟨rfl, rfl⟩ := H
      go_enter Tryd.func16, Tryd.ntmps16
      go_wp2
      go_ret2
      exact ⟨by first | rfl | (simp; done) | (simp [*]; done), by repeat (first | exact Drawn0.refl _ | apply Drawn0.step)⟩

end Go.Proofs.YtobhcpfdgfkeiaaDoor.Lx

namespace Go.Proofs.YtobhcpfdgfkeiaaDoor.Lx
open Go.RowKit Go.Proofs.YtobhcpfdgfkeiaaDoorW.PrintWords Go.Proofs.YtobhcpfdgfkeiaaDoorW.PrintLast Go.Proofs.YtobhcpfdgfkeiaaDoorW.PrintMore Go.Proofs.YtobhcpfdgfkeiaaDoor.Lf Go.Proofs.YtobhcpfdgfkeiaaDoor.Ext
attribute [local go_sem] max2_int min2_int max_two min_two max_three min_three max_four min_four   -- for this text's walks alone
set_option linter.unusedVariables false
set_option linter.unusedSimpArgs false

/-! ### umlautref1_Parse: function 20 -/
mutual
def umlautref1_Parse.j0 : Nat → ByteArray → Bool → Option (Int × Int)
  | 0, _, _ => none
  | k + 1, x0, x4 => if x4 = true then (if 1 ≤ (x0.size : Int) then (umlautref1_Parse.j1 k (x0.extract 1 x0.size) x4) else (none)) else (umlautref1_Parse.j1 k x0 x4)
def umlautref1_Parse.j1 : Nat → ByteArray → Bool → Option (Int × Int)
  | 0, _, _ => none
  | k + 1, x0, x4 => umlautref1_Parse.l0 k x0 x4 0
def umlautref1_Parse.l0 : Nat → ByteArray → Bool → Int → Option (Int × Int)
  | 0, _, _, _ => none
  | k + 1, x0, x4, x5 => if x5 < (x0.size : Int) then (if 0 ≤ x5 then (if (bt x0 x5) < 48 then (some (0, 3)) else (if (bt x0 x5) > 57 then (some (0, 3)) else (umlautref1_Parse.l0 k x0 x4 (wrap64 (x5 + 1))))) else (none)) else (if x0.toList = ([] : List UInt8) then (some (0, 3)) else (umlautref1_Parse.l1 k x0 x4 0 0))
def umlautref1_Parse.l1 : Nat → ByteArray → Bool → Int → Int → Option (Int × Int)
  | 0, _, _, _, _ => none
  | k + 1, x0, x4, x6, x7 => if x7 < (x0.size : Int) then ((umlautref1_Mul.f k x6 10).bind fun bt177 => (if bt177.2 = 0 then (if 0 ≤ x7 then (if x4 = true then ((umlautref1_Add.f bt177.1 (-(((bt x0 x7) - 48) % 256))).bind fun bt179 => (if bt179.2 = 0 then (umlautref1_Parse.l1 k x0 x4 bt179.1 (wrap64 (x7 + 1))) else (some (0, bt179.2)))) else ((umlautref1_Add.f bt177.1 (((bt x0 x7) - 48) % 256)).bind fun bt181 => (if bt181.2 = 0 then (umlautref1_Parse.l1 k x0 x4 bt181.1 (wrap64 (x7 + 1))) else (some (0, bt181.2))))) else (none)) else (some (0, bt177.2)))) else (some (x6, 0))
end
def umlautref1_Parse.f (k : Nat) (a0 : ByteArray) : Option (Int × Int) := if (a0.size : Int) > 0 then (if 0 < (a0.size : Int) then (umlautref1_Parse.j0 k a0 ((bt a0 0) == 45)) else (none)) else (umlautref1_Parse.j0 k a0 false)
theorem umlautref1_Parse.mono_l : ∀ k, (∀ y0 y1, LeO (umlautref1_Parse.j0 k y0 y1) (umlautref1_Parse.j0 (k + 1) y0 y1)) ∧ (∀ y0 y1, LeO (umlautref1_Parse.j1 k y0 y1) (umlautref1_Parse.j1 (k + 1) y0 y1)) ∧ (∀ y0 y1 y2, LeO (umlautref1_Parse.l0 k y0 y1 y2) (umlautref1_Parse.l0 (k + 1) y0 y1 y2)) ∧ (∀ y0 y1 y2 y3, LeO (umlautref1_Parse.l1 k y0 y1 y2 y3) (umlautref1_Parse.l1 (k + 1) y0 y1 y2 y3))
  | 0 => ⟨fun _ _ r h => by simp [umlautref1_Parse.j0] at h, fun _ _ r h => by simp [umlautref1_Parse.j1] at h, fun _ _ _ r h => by simp [umlautref1_Parse.l0] at h, fun _ _ _ _ r h => by simp [umlautref1_Parse.l1] at h⟩
  | k + 1 => by
    obtain ⟨ih0, ih1, ih2, ih3⟩ := umlautref1_Parse.mono_l k
    refine ⟨?_, ?_, ?_, ?_⟩
    · intro y0 y1
      unfold umlautref1_Parse.j0
      repeat' first
      | (with_reducible exact ih0 _ _)
      | (with_reducible exact ih1 _ _)
      | (with_reducible exact ih2 _ _ _)
      | (with_reducible exact ih3 _ _ _ _)
      | (with_reducible exact umlautref1_Mul.mono _ _ _)
      | (with_reducible exact LeO.refl _)
      | (with_reducible exact LeO.none _)
      | (with_reducible refine LeO.ite ?_ ?_)
      | (with_reducible refine LeO.bind ?_ (fun _ => ?_))
      | exact ih0 _ _
      | exact ih1 _ _
      | exact ih2 _ _ _
      | exact ih3 _ _ _ _
      | exact umlautref1_Mul.mono _ _ _
      | exact LeO.none _
      | refine LeO.ite ?_ ?_
      | refine LeO.bind ?_ (fun _ => ?_)
    · intro y0 y1
      unfold umlautref1_Parse.j1
      repeat' first
      | (with_reducible exact ih0 _ _)
      | (with_reducible exact ih1 _ _)
      | (with_reducible exact ih2 _ _ _)
      | (with_reducible exact ih3 _ _ _ _)
      | (with_reducible exact umlautref1_Mul.mono _ _ _)
      | (with_reducible exact LeO.refl _)
      | (with_reducible exact LeO.none _)
      | (with_reducible refine LeO.ite ?_ ?_)
      | (with_reducible refine LeO.bind ?_ (fun _ => ?_))
      | exact ih0 _ _
      | exact ih1 _ _
      | exact ih2 _ _ _
      | exact ih3 _ _ _ _
      | exact umlautref1_Mul.mono _ _ _
      | exact LeO.none _
      | refine LeO.ite ?_ ?_
      | refine LeO.bind ?_ (fun _ => ?_)
    · intro y0 y1 y2
      unfold umlautref1_Parse.l0
      repeat' first
      | (with_reducible exact ih0 _ _)
      | (with_reducible exact ih1 _ _)
      | (with_reducible exact ih2 _ _ _)
      | (with_reducible exact ih3 _ _ _ _)
      | (with_reducible exact umlautref1_Mul.mono _ _ _)
      | (with_reducible exact LeO.refl _)
      | (with_reducible exact LeO.none _)
      | (with_reducible refine LeO.ite ?_ ?_)
      | (with_reducible refine LeO.bind ?_ (fun _ => ?_))
      | exact ih0 _ _
      | exact ih1 _ _
      | exact ih2 _ _ _
      | exact ih3 _ _ _ _
      | exact umlautref1_Mul.mono _ _ _
      | exact LeO.none _
      | refine LeO.ite ?_ ?_
      | refine LeO.bind ?_ (fun _ => ?_)
    · intro y0 y1 y2 y3
      unfold umlautref1_Parse.l1
      repeat' first
      | (with_reducible exact ih0 _ _)
      | (with_reducible exact ih1 _ _)
      | (with_reducible exact ih2 _ _ _)
      | (with_reducible exact ih3 _ _ _ _)
      | (with_reducible exact umlautref1_Mul.mono _ _ _)
      | (with_reducible exact LeO.refl _)
      | (with_reducible exact LeO.none _)
      | (with_reducible refine LeO.ite ?_ ?_)
      | (with_reducible refine LeO.bind ?_ (fun _ => ?_))
      | exact ih0 _ _
      | exact ih1 _ _
      | exact ih2 _ _ _
      | exact ih3 _ _ _ _
      | exact umlautref1_Mul.mono _ _ _
      | exact LeO.none _
      | refine LeO.ite ?_ ?_
      | refine LeO.bind ?_ (fun _ => ?_)
theorem umlautref1_Parse.mono : ∀ a0 k, LeO (umlautref1_Parse.f k a0) (umlautref1_Parse.f (k + 1) a0) := by
  intro a0 k
  obtain ⟨ih0, ih1, ih2, ih3⟩ := umlautref1_Parse.mono_l k
  unfold umlautref1_Parse.f
  repeat' first
      | (with_reducible exact ih0 _ _)
      | (with_reducible exact ih1 _ _)
      | (with_reducible exact ih2 _ _ _)
      | (with_reducible exact ih3 _ _ _ _)
      | (with_reducible exact umlautref1_Mul.mono _ _ _)
      | (with_reducible exact LeO.refl _)
      | (with_reducible exact LeO.none _)
      | (with_reducible refine LeO.ite ?_ ?_)
      | (with_reducible refine LeO.bind ?_ (fun _ => ?_))
      | exact ih0 _ _
      | exact ih1 _ _
      | exact ih2 _ _ _
      | exact ih3 _ _ _ _
      | exact umlautref1_Mul.mono _ _ _
      | exact LeO.none _
      | refine LeO.ite ?_ ?_
      | refine LeO.bind ?_ (fun _ => ?_)
set_option maxHeartbeats 8000000 in
set_option maxRecDepth 100000 in
theorem umlautref1_Parse.calls (k : Nat) (a0 : ByteArray) (r1 : Int) (r2 : Int) (w : World) (h : umlautref1_Parse.f k a0 = some (r1, r2)) :
    Calls Tryd.prog 20 #[.string a0] w fun e w' => e = .returned (.tuple #[.int .i64 r1, .int .i64 r2]) ∧ Drawn0 w w' := by
  have H : (if (a0.size : Int) > 0 then (if 0 < (a0.size : Int) then (umlautref1_Parse.j0 k a0 ((bt a0 0) == 45)) else (none)) else (umlautref1_Parse.j0 k a0 false)) = some (r1, r2) := h
  clear h
  have HC2 := Aside0.mk H
  clear H
  go_enter Tryd.func20, Tryd.ntmps20
  go_upto_region 1 with (fail)
  go_cut [4] (fun v4 wc => ∃ (kq : Nat) (x4_1 : Bool), v4 = .bool x4_1 ∧ Aside0 (umlautref1_Parse.j0 kq a0 x4_1 = some (r1, r2)) ∧ Aside0 (kq ≤ k) ∧ Drawn0 w wc)
  case first =>
    have H := HC2.out
    clear HC2
    by_cases c3 : (a0.size : Int) > 0
    · rw [if_pos c3] at H
      have c3b0 : decide (0 < (a0.size : Int)) = true := decide_eq_true c3
      have c3b1 : decide (0 < a0.size) = true := decide_eq_true (by omega)
      clear c3
      (first | rw [c3b0] | (simp only [i64_w, i32_w]; rw [c3b0]) | skip)
      by_cases c4 : 0 < (a0.size : Int)
      · rw [if_pos c4] at H
        have c4b0 : decide (0 < (a0.size : Int)) = true := decide_eq_true c4
        have c4b1 : decide (0 < a0.size) = true := decide_eq_true (by omega)
        clear c4
        have H' := Aside0.mk H
        clear H
        have p5 : 0 ≤ (0 : Int) := (by omega)
        have q5 : 0 < a0.size := (by have : (0 : Int) < (a0.size : Int) := of_decide_eq_true (by first | (with_reducible assumption) | assumption); omega)
        have hx5 : ∀ h : 0 < a0.size, ((a0[0]'h).toNat : Int) = bt a0 0 := bt_at a0 0
        clear p5
        have qi5 : (0 < (a0.size : Int)) = True := eq_true (of_decide_eq_true (by first | (with_reducible assumption) | assumption))
        replace q5 := eq_true q5
        go_wp2
        go_meet
        case rel => exact ⟨_, (((bt a0 0) == 45)), (by first | rfl | (simp; done) | (simp [*]; done)), H', ⟨by first | omega | exact Nat.le_refl _⟩, by repeat (first | exact Drawn0.refl _ | apply Drawn0.step)⟩
      · rw [if_neg c4] at H
        exact absurd H (by simp)
    · rw [if_neg c3] at H
      have c3b0 : decide (0 < (a0.size : Int)) = false := decide_eq_false c3
      have c3b1 : decide (0 < a0.size) = false := decide_eq_false (by omega)
      clear c3
      (first | rw [c3b0] | (simp only [i64_w, i32_w]; rw [c3b0]) | skip)
      have H' := Aside0.mk H
      clear H
      go_wp2
      go_meet
      case rel => exact ⟨_, (false), (by first | rfl | (simp; done) | (simp [*]; done)), H', ⟨by first | omega | exact Nat.le_refl _⟩, by repeat (first | exact Drawn0.refl _ | apply Drawn0.step)⟩
  case rest =>
    clear HC2
    try clear c2
    try clear p2
    try clear c3
    try clear c3b0
    try clear c3b1
    try clear c4
    try clear c4b0
    try clear c4b1
    try clear p5
    try clear q5
    try clear hx5
    try clear qi5
    try clear p5
    try clear q5
    obtain ⟨kq, x4_1, rfl, HA, HJ1, ⟨mc1, rfl⟩⟩ := hcut
    cases kq with
    | zero => exact absurd HA.out (by simp [umlautref1_Parse.j0])
    | succ kj1 =>
      have H := HA.out
      clear HA
      simp only [umlautref1_Parse.j0] at H
      have HC6 := Aside0.mk H
      clear H
      go_upto_if 19 with (fail)
      go_cut [0] (fun v0 wc => ∃ (kq : Nat) (x0_5 : ByteArray), v0 = .string x0_5 ∧ Aside0 (umlautref1_Parse.j1 kq x0_5 x4_1 = some (r1, r2)) ∧ Aside0 (kq ≤ kj1) ∧ Drawn0 w wc)
      case first =>
        have H := HC6.out
        clear HC6
        by_cases c7 : x4_1 = true
        · subst c7
          have H1 : (if 1 ≤ (a0.size : Int) then (umlautref1_Parse.j1 kj1 (a0.extract 1 a0.size) true) else (none)) = some (r1, r2) := by rw [if_pos rfl] at H; exact H
          clear H
          have H := H1
          clear H1
          by_cases c8 : 1 ≤ (a0.size : Int)
          · rw [if_pos c8] at H
            have c8b0 := eq_true c8
            have c8b1 : decide (1 ≤ (a0.size : Int)) = true := decide_eq_true c8
            clear c8
            have H' := Aside0.mk H
            clear H
            go_wp2
            go_meet
            case rel => exact ⟨_, (a0.extract 1 a0.size), (by first | rfl | (simp; done) | (simp [*]; done)), H', ⟨by have := HJ1.out; first | omega | exact Nat.le_refl _⟩, by repeat (first | exact Drawn0.refl _ | apply Drawn0.step)⟩
          · rw [if_neg c8] at H
            exact absurd H (by simp)
        · replace c7 := Bool.eq_false_iff.mpr c7
          subst c7
          have H1 : (umlautref1_Parse.j1 kj1 a0 false) = some (r1, r2) := by rw [if_neg (show ¬ (false = true) by decide)] at H; exact H
          clear H
          have H := H1
          clear H1
          have H' := Aside0.mk H
          clear H
          go_wp2
          go_meet
          case rel => exact ⟨_, (a0), (by first | rfl | (simp; done) | (simp [*]; done)), H', ⟨by have := HJ1.out; first | omega | exact Nat.le_refl _⟩, by repeat (first | exact Drawn0.refl _ | apply Drawn0.step)⟩
      case rest =>
        clear HC6
        try clear c1
        try clear c2
        try clear p2
        try clear c3
        try clear c3b0
        try clear c3b1
        try clear c4
        try clear c4b0
        try clear c4b1
        try clear p5
        try clear q5
        try clear hx5
        try clear qi5
        try clear c7
        try clear c8
        try clear c8b0
        try clear c8b1
        try clear p2
        try clear p5
        try clear q5
        obtain ⟨kq, x0_5, rfl, HA, HJ5, ⟨mc5, rfl⟩⟩ := hcut
        cases kq with
        | zero => exact absurd HA.out (by simp [umlautref1_Parse.j1])
        | succ kj5 =>
          have H := HA.out
          clear HA
          simp only [umlautref1_Parse.j1] at H
          have H' := Aside0.mk H
          clear H
          go_wp2
          go_loopg [5] kj5 (fun kq v5 w' => ∃ (x5_3 : Int), v5 = .int .i64 x5_3 ∧ Aside0 (umlautref1_Parse.l0 kq x0_5 x4_1 x5_3 = some (r1, r2)) ∧ Aside0 (kq ≤ kj5) ∧ Drawn0 w w')
          case atStart => exact ⟨(0), (by first | rfl | (simp; done) | (simp [*]; done)), H', ⟨Nat.le_refl _⟩, by repeat (first | exact Drawn0.refl _ | apply Drawn0.step)⟩
          case round =>
            clear H'
            try clear c1
            try clear c2
            try clear p2
            try clear c3
            try clear c3b0
            try clear c3b1
            try clear c4
            try clear c4b0
            try clear c4b1
            try clear c5
            try clear p5
            try clear q5
            try clear hx5
            try clear qi5
            try clear c7
            try clear c8
            try clear c8b0
            try clear c8b1
            try clear p2
            try clear p5
            try clear q5
            obtain ⟨x5_3, rfl, HA, HK3, ⟨m3, rfl⟩⟩ := hrel
            cases gk with
            | zero => exact absurd HA.out (by simp [umlautref1_Parse.l0])
            | succ k3 =>
              have H := HA.out
              clear HA
              simp only [umlautref1_Parse.l0] at H
              by_cases c9 : x5_3 < (x0_5.size : Int)
              · rw [if_pos c9] at H
                have c9b0 : decide (x5_3 < (x0_5.size : Int)) = true := decide_eq_true c9
                clear c9
                by_cases c10 : 0 ≤ x5_3
                · rw [if_pos c10] at H
                  have c10b0 : decide (0 ≤ x5_3) = true := decide_eq_true c10
                  clear c10
                  by_cases c12 : (bt x0_5 x5_3) < 48
                  · rw [if_pos c12] at H
                    have c12b0 : decide ((bt x0_5 x5_3) < 48) = true := decide_eq_true c12
                    clear c12
                    simp only [Option.some.injEq, Prod.mk.injEq] at H
                    obtain ⟨rfl, rfl⟩ := H
                    have p11 : 0 ≤ (x5_3 : Int) := of_decide_eq_true (by first | (with_reducible assumption) | assumption)
                    have q11 : x5_3 < (x0_5.size : Int) := of_decide_eq_true (by first | (with_reducible assumption) | assumption)
                    have hx11 := bt_at x0_5 x5_3
                    replace p11 := eq_true p11
                    replace q11 := eq_true q11
                    go_wp2
                    go_ret2
                    exact ⟨by first | rfl | (simp; done) | (simp [*]; done), by repeat (first | exact Drawn0.refl _ | apply Drawn0.step)⟩
                  · rw [if_neg c12] at H
                    have c12b0 : decide ((bt x0_5 x5_3) < 48) = false := decide_eq_false c12
                    clear c12
                    by_cases c14 : (bt x0_5 x5_3) > 57
                    · rw [if_pos c14] at H
                      have c14b0 : decide (57 < (bt x0_5 x5_3)) = true := decide_eq_true c14
                      clear c14
                      simp only [Option.some.injEq, Prod.mk.injEq] at H
                      obtain ⟨rfl, rfl⟩ := H
                      have p11 : 0 ≤ (x5_3 : Int) := of_decide_eq_true (by first | (with_reducible assumption) | assumption)
                      have q11 : x5_3 < (x0_5.size : Int) := of_decide_eq_true (by first | (with_reducible assumption) | assumption)
                      have hx11 := bt_at x0_5 x5_3
                      replace p11 := eq_true p11
                      replace q11 := eq_true q11
                      have p13 : 0 ≤ (x5_3 : Int) := of_decide_eq_true (by first | (with_reducible assumption) | assumption)
                      have q13 : x5_3 < (x0_5.size : Int) := of_decide_eq_true (by first | (with_reducible assumption) | assumption)
                      have hx13 := bt_at x0_5 x5_3
                      replace p13 := eq_true p13
                      replace q13 := eq_true q13
                      go_wp2
                      go_ret2
                      exact ⟨by first | rfl | (simp; done) | (simp [*]; done), by repeat (first | exact Drawn0.refl _ | apply Drawn0.step)⟩
                    · rw [if_neg c14] at H
                      have c14b0 : decide (57 < (bt x0_5 x5_3)) = false := decide_eq_false c14
                      clear c14
                      have H' := Aside0.mk H
                      clear H
                      have p11 : 0 ≤ (x5_3 : Int) := of_decide_eq_true (by first | (with_reducible assumption) | assumption)
                      have q11 : x5_3 < (x0_5.size : Int) := of_decide_eq_true (by first | (with_reducible assumption) | assumption)
                      have hx11 := bt_at x0_5 x5_3
                      replace p11 := eq_true p11
                      replace q11 := eq_true q11
                      have p13 : 0 ≤ (x5_3 : Int) := of_decide_eq_true (by first | (with_reducible assumption) | assumption)
                      have q13 : x5_3 < (x0_5.size : Int) := of_decide_eq_true (by first | (with_reducible assumption) | assumption)
                      have hx13 := bt_at x0_5 x5_3
                      replace p13 := eq_true p13
                      replace q13 := eq_true q13
                      go_wp2
                      go_roundg k3
                      case measure => have := HJ1.out; have := HJ5.out; have := HK3.out; omega
                      case rel => exact ⟨(wrap64 (x5_3 + 1)), (by first | rfl | (simp; done) | (simp [*]; done)), H', ⟨by have := HJ1.out; have := HJ5.out; have := HK3.out; omega⟩, by repeat (first | exact Drawn0.refl _ | apply Drawn0.step)⟩
                · rw [if_neg c10] at H
                  exact absurd H (by simp)
              · rw [if_neg c9] at H
                have c9b0 : decide (x5_3 < (x0_5.size : Int)) = false := decide_eq_false c9
                clear c9
                by_cases c15 : x0_5.toList = ([] : List UInt8)
                · rw [if_pos c15] at H
                  have c15b0 : (x0_5.toList == ([] : List UInt8)) = true := beq_iff_eq.mpr c15
                  have c15b1 : (x0_5.toList != ([] : List UInt8)) = false := bne_eq_false_iff_eq.mpr c15
                  clear c15
                  simp only [Option.some.injEq, Prod.mk.injEq] at H
                  obtain ⟨rfl, rfl⟩ := H
                  go_wp2
                  go_ret2
                  exact ⟨by first | rfl | (simp; done) | (simp [*]; done), by repeat (first | exact Drawn0.refl _ | apply Drawn0.step)⟩
                · rw [if_neg c15] at H
                  have c15b0 : (x0_5.toList == ([] : List UInt8)) = false := beq_eq_false_iff_ne.mpr c15
                  have c15b1 : (x0_5.toList != ([] : List UInt8)) = true := bne_iff_ne.mpr c15
                  have H' := Aside0.mk H
                  clear H
                  go_wp2
                  go_loopg [6, 7] k3 (fun kq v6 v7 w' => ∃ (x6_4 : Int) (x7_4 : Int), v6 = .int .i64 x6_4 ∧ v7 = .int .i64 x7_4 ∧ Aside0 (umlautref1_Parse.l1 kq x0_5 x4_1 x6_4 x7_4 = some (r1, r2)) ∧ Aside0 (kq ≤ k3) ∧ Drawn0 w w')
                  case atStart => exact ⟨(0), (0), (by first | rfl | (simp; done) | (simp [*]; done)), (by first | rfl | (simp; done) | (simp [*]; done)), H', ⟨Nat.le_refl _⟩, by repeat (first | exact Drawn0.refl _ | apply Drawn0.step)⟩
                  case round =>
                    clear H'
                    try clear c1
                    try clear p1
                    try clear q1
                    try clear hx1
                    try clear c2
                    try clear p2
                    try clear c3
                    try clear c3b0
                    try clear c3b1
                    try clear c4
                    try clear c4b0
                    try clear c4b1
                    try clear c5
                    try clear p5
                    try clear q5
                    try clear hx5
                    try clear qi5
                    try clear p6
                    try clear c7
                    try clear c8
                    try clear c8b0
                    try clear c8b1
                    try clear c9
                    try clear c9b0
                    try clear c10
                    try clear c10b0
                    try clear p11
                    try clear q11
                    try clear hx11
                    try clear c12
                    try clear c12b0
                    try clear p13
                    try clear q13
                    try clear hx13
                    try clear c14
                    try clear c14b0
                    try clear c15
                    try clear c15b0
                    try clear c15b1
                    try clear p11
                    try clear p13
                    try clear p2
                    try clear p5
                    try clear q11
                    try clear q13
                    try clear q5
                    obtain ⟨x6_4, x7_4, rfl, rfl, HA, HK4, ⟨m4, rfl⟩⟩ := hrel
                    cases gk with
                    | zero => exact absurd HA.out (by simp [umlautref1_Parse.l1])
                    | succ k4 =>
                      have H := HA.out
                      clear HA
                      simp only [umlautref1_Parse.l1] at H
                      by_cases c16 : x7_4 < (x0_5.size : Int)
                      · rw [if_pos c16] at H
                        have c16b0 : decide (x7_4 < (x0_5.size : Int)) = true := decide_eq_true c16
                        clear c16
                        replace H := Option.bind_eq_some_iff.mp H
                        obtain ⟨⟨t177, t178⟩, A170, H⟩ := H
                        replace H : (if t178 = 0 then (if 0 ≤ x7_4 then (if x4_1 = true then ((umlautref1_Add.f t177 (-(((bt x0_5 x7_4) - 48) % 256))).bind fun bt179 => (if bt179.2 = 0 then (umlautref1_Parse.l1 k4 x0_5 x4_1 bt179.1 (wrap64 (x7_4 + 1))) else (some (0, bt179.2)))) else ((umlautref1_Add.f t177 (((bt x0_5 x7_4) - 48) % 256)).bind fun bt181 => (if bt181.2 = 0 then (umlautref1_Parse.l1 k4 x0_5 x4_1 bt181.1 (wrap64 (x7_4 + 1))) else (some (0, bt181.2))))) else (none)) else (some (0, t178))) = some (r1, r2) := H
                        have A17 := Aside0.mk A170
                        clear A170
                        by_cases c18 : t178 = 0
                        · rw [if_pos c18] at H
                          have c18b0 : (t178 == 0) = true := beq_iff_eq.mpr c18
                          have c18b1 : (t178 != 0) = false := bne_eq_false_iff_eq.mpr c18
                          clear c18
                          by_cases c19 : 0 ≤ x7_4
                          · rw [if_pos c19] at H
                            have c19b0 : decide (0 ≤ x7_4) = true := decide_eq_true c19
                            clear c19
                            by_cases c21 : x4_1 = true
                            · subst c21
                              have H1 : ((umlautref1_Add.f t177 (-(((bt x0_5 x7_4) - 48) % 256))).bind fun bt179 => (if bt179.2 = 0 then (umlautref1_Parse.l1 k4 x0_5 true bt179.1 (wrap64 (x7_4 + 1))) else (some (0, bt179.2)))) = some (r1, r2) := by rw [if_pos rfl] at H; exact H
                              clear H
                              have H := H1
                              clear H1
                              replace H := Option.bind_eq_some_iff.mp H
                              obtain ⟨⟨t179, t180⟩, A220, H⟩ := H
                              replace H : (if t180 = 0 then (umlautref1_Parse.l1 k4 x0_5 true t179 (wrap64 (x7_4 + 1))) else (some (0, t180))) = some (r1, r2) := H
                              have A22 := Aside0.mk A220
                              clear A220
                              by_cases c23 : t180 = 0
                              · rw [if_pos c23] at H
                                have c23b0 : (t180 == 0) = true := beq_iff_eq.mpr c23
                                have c23b1 : (t180 != 0) = false := bne_eq_false_iff_eq.mpr c23
                                clear c23
                                have H' := Aside0.mk H
                                clear H
                                go_wp2_with (first | ((with_reducible refine gate_callee (f := 15) rfl ?_); refine goesL_ (some 48) rfl rfl Tryd.func15 (by kernel_rfl) rfl #[.int .i64 x6_4, .int .i64 10] rfl (by (try simp only [List.map_toArray, List.map_cons, List.map_nil]); first | done | rfl | (simp only [List.length_drop, List.length_take]; rfl)) ?_; (with_reducible refine (umlautref1_Mul.calls k4 x6_4 10 t177 t178 _ A17.out).mono ?_); rintro e w' ⟨rfl, ⟨nd, rfl⟩⟩; refine ⟨_, rfl, ?_⟩; have p20 : 0 ≤ (x7_4 : Int) := of_decide_eq_true (by first | (with_reducible assumption) | assumption); have q20 : x7_4 < (x0_5.size : Int) := of_decide_eq_true (by first | (with_reducible assumption) | assumption); have hx20 := bt_at x0_5 x7_4; replace p20 := eq_true p20; replace q20 := eq_true q20) | ((with_reducible refine gate_callee (f := 16) rfl ?_); refine goesL_ (some 65) rfl rfl Tryd.func16 (by kernel_rfl) rfl #[.int .i64 t177, .int .i64 (-(((bt x0_5 x7_4) - 48) % 256))] rfl (by (try simp only [List.map_toArray, List.map_cons, List.map_nil]); first | done | rfl | (simp only [List.length_drop, List.length_take]; rfl)) ?_; (with_reducible refine (umlautref1_Add.calls t177 (-(((bt x0_5 x7_4) - 48) % 256)) t179 t180 _ A22.out).mono ?_); rintro e w' ⟨rfl, ⟨nd, rfl⟩⟩; refine ⟨_, rfl, ?_⟩))
                                go_roundg k4
                                case measure => have := HJ1.out; have := HJ5.out; have := HK3.out; have := HK4.out; omega
                                case rel => exact ⟨(t179), (wrap64 (x7_4 + 1)), (by first | rfl | (simp; done) | (simp [*]; done)), (by first | rfl | (simp; done) | (simp [*]; done)), H', ⟨by have := HJ1.out; have := HJ5.out; have := HK3.out; have := HK4.out; omega⟩, by repeat (first | exact Drawn0.refl _ | apply Drawn0.step)⟩
                              · rw [if_neg c23] at H
                                have c23b0 : (t180 == 0) = false := beq_eq_false_iff_ne.mpr c23
                                have c23b1 : (t180 != 0) = true := bne_iff_ne.mpr c23
                                simp only [Option.some.injEq, Prod.mk.injEq] at H
                                obtain ⟨rfl, rfl⟩ := H
                                go_wp2_with (first | ((with_reducible refine gate_callee (f := 15) rfl ?_); refine goesL_ (some 48) rfl rfl Tryd.func15 (by kernel_rfl) rfl #[.int .i64 x6_4, .int .i64 10] rfl (by (try simp only [List.map_toArray, List.map_cons, List.map_nil]); first | done | rfl | (simp only [List.length_drop, List.length_take]; rfl)) ?_; (with_reducible refine (umlautref1_Mul.calls k4 x6_4 10 t177 t178 _ A17.out).mono ?_); rintro e w' ⟨rfl, ⟨nd, rfl⟩⟩; refine ⟨_, rfl, ?_⟩; have p20 : 0 ≤ (x7_4 : Int) := of_decide_eq_true (by first | (with_reducible assumption) | assumption); have q20 : x7_4 < (x0_5.size : Int) := of_decide_eq_true (by first | (with_reducible assumption) | assumption); have hx20 := bt_at x0_5 x7_4; replace p20 := eq_true p20; replace q20 := eq_true q20) | ((with_reducible refine gate_callee (f := 16) rfl ?_); refine goesL_ (some 65) rfl rfl Tryd.func16 (by kernel_rfl) rfl #[.int .i64 t177, .int .i64 (-(((bt x0_5 x7_4) - 48) % 256))] rfl (by (try simp only [List.map_toArray, List.map_cons, List.map_nil]); first | done | rfl | (simp only [List.length_drop, List.length_take]; rfl)) ?_; (with_reducible refine (umlautref1_Add.calls t177 (-(((bt x0_5 x7_4) - 48) % 256)) t179 t180 _ A22.out).mono ?_); rintro e w' ⟨rfl, ⟨nd, rfl⟩⟩; refine ⟨_, rfl, ?_⟩))
                                go_ret2
                                exact ⟨by first | rfl | (simp; done) | (simp [*]; done), by repeat (first | exact Drawn0.refl _ | apply Drawn0.step)⟩
                            · replace c21 := Bool.eq_false_iff.mpr c21
                              subst c21
                              have H1 : ((umlautref1_Add.f t177 (((bt x0_5 x7_4) - 48) % 256)).bind fun bt181 => (if bt181.2 = 0 then (umlautref1_Parse.l1 k4 x0_5 false bt181.1 (wrap64 (x7_4 + 1))) else (some (0, bt181.2)))) = some (r1, r2) := by rw [if_neg (show ¬ (false = true) by decide)] at H; exact H
                              clear H
                              have H := H1
                              clear H1
                              replace H := Option.bind_eq_some_iff.mp H
                              obtain ⟨⟨t181, t182⟩, A240, H⟩ := H
                              replace H : (if t182 = 0 then (umlautref1_Parse.l1 k4 x0_5 false t181 (wrap64 (x7_4 + 1))) else (some (0, t182))) = some (r1, r2) := H
                              have A24 := Aside0.mk A240
                              clear A240
                              by_cases c25 : t182 = 0
                              · rw [if_pos c25] at H
                                have c25b0 : (t182 == 0) = true := beq_iff_eq.mpr c25
                                have c25b1 : (t182 != 0) = false := bne_eq_false_iff_eq.mpr c25
                                clear c25
                                have H' := Aside0.mk H
                                clear H
                                go_wp2_with (first | ((with_reducible refine gate_callee (f := 15) rfl ?_); refine goesL_ (some 48) rfl rfl Tryd.func15 (by kernel_rfl) rfl #[.int .i64 x6_4, .int .i64 10] rfl (by (try simp only [List.map_toArray, List.map_cons, List.map_nil]); first | done | rfl | (simp only [List.length_drop, List.length_take]; rfl)) ?_; (with_reducible refine (umlautref1_Mul.calls k4 x6_4 10 t177 t178 _ A17.out).mono ?_); rintro e w' ⟨rfl, ⟨nd, rfl⟩⟩; refine ⟨_, rfl, ?_⟩; have p20 : 0 ≤ (x7_4 : Int) := of_decide_eq_true (by first | (with_reducible assumption) | assumption); have q20 : x7_4 < (x0_5.size : Int) := of_decide_eq_true (by first | (with_reducible assumption) | assumption); have hx20 := bt_at x0_5 x7_4; replace p20 := eq_true p20; replace q20 := eq_true q20) | ((with_reducible refine gate_callee (f := 16) rfl ?_); refine goesL_ (some 65) rfl rfl Tryd.func16 (by kernel_rfl) rfl #[.int .i64 t177, .int .i64 (((bt x0_5 x7_4) - 48) % 256)] rfl (by (try simp only [List.map_toArray, List.map_cons, List.map_nil]); first | done | rfl | (simp only [List.length_drop, List.length_take]; rfl)) ?_; (with_reducible refine (umlautref1_Add.calls t177 (((bt x0_5 x7_4) - 48) % 256) t181 t182 _ A24.out).mono ?_); rintro e w' ⟨rfl, ⟨nd, rfl⟩⟩; refine ⟨_, rfl, ?_⟩))
                                go_roundg k4
                                case measure => have := HJ1.out; have := HJ5.out; have := HK3.out; have := HK4.out; omega
                                case rel => exact ⟨(t181), (wrap64 (x7_4 + 1)), (by first | rfl | (simp; done) | (simp [*]; done)), (by first | rfl | (simp; done) | (simp [*]; done)), H', ⟨by have := HJ1.out; have := HJ5.out; have := HK3.out; have := HK4.out; omega⟩, by repeat (first | exact Drawn0.refl _ | apply Drawn0.step)⟩
                              · rw [if_neg c25] at H
                                have c25b0 : (t182 == 0) = false := beq_eq_false_iff_ne.mpr c25
                                have c25b1 : (t182 != 0) = true := bne_iff_ne.mpr c25
                                simp only [Option.some.injEq, Prod.mk.injEq] at H
                                obtain ⟨rfl, rfl⟩ := H
                                go_wp2_with (first | ((with_reducible refine gate_callee (f := 15) rfl ?_); refine goesL_ (some 48) rfl rfl Tryd.func15 (by kernel_rfl) rfl #[.int .i64 x6_4, .int .i64 10] rfl (by (try simp only [List.map_toArray, List.map_cons, List.map_nil]); first | done | rfl | (simp only [List.length_drop, List.length_take]; rfl)) ?_; (with_reducible refine (umlautref1_Mul.calls k4 x6_4 10 t177 t178 _ A17.out).mono ?_); rintro e w' ⟨rfl, ⟨nd, rfl⟩⟩; refine ⟨_, rfl, ?_⟩; have p20 : 0 ≤ (x7_4 : Int) := of_decide_eq_true (by first | (with_reducible assumption) | assumption); have q20 : x7_4 < (x0_5.size : Int) := of_decide_eq_true (by first | (with_reducible assumption) | assumption); have hx20 := bt_at x0_5 x7_4; replace p20 := eq_true p20; replace q20 := eq_true q20) | ((with_reducible refine gate_callee (f := 16) rfl ?_); refine goesL_ (some 65) rfl rfl Tryd.func16 (by kernel_rfl) rfl #[.int .i64 t177, .int .i64 (((bt x0_5 x7_4) - 48) % 256)] rfl (by (try simp only [List.map_toArray, List.map_cons, List.map_nil]); first | done | rfl | (simp only [List.length_drop, List.length_take]; rfl)) ?_; (with_reducible refine (umlautref1_Add.calls t177 (((bt x0_5 x7_4) - 48) % 256) t181 t182 _ A24.out).mono ?_); rintro e w' ⟨rfl, ⟨nd, rfl⟩⟩; refine ⟨_, rfl, ?_⟩))
                                go_ret2
                                exact ⟨by first | rfl | (simp; done) | (simp [*]; done), by repeat (first | exact Drawn0.refl _ | apply Drawn0.step)⟩
                          · rw [if_neg c19] at H
                            exact absurd H (by simp)
                        · rw [if_neg c18] at H
                          have c18b0 : (t178 == 0) = false := beq_eq_false_iff_ne.mpr c18
                          have c18b1 : (t178 != 0) = true := bne_iff_ne.mpr c18
                          simp only [Option.some.injEq, Prod.mk.injEq] at H
                          obtain ⟨rfl, rfl⟩ := H
                          go_wp2_with (first | ((with_reducible refine gate_callee (f := 15) rfl ?_); refine goesL_ (some 48) rfl rfl Tryd.func15 (by kernel_rfl) rfl #[.int .i64 x6_4, .int .i64 10] rfl (by (try simp only [List.map_toArray, List.map_cons, List.map_nil]); first | done | rfl | (simp only [List.length_drop, List.length_take]; rfl)) ?_; (with_reducible refine (umlautref1_Mul.calls k4 x6_4 10 t177 t178 _ A17.out).mono ?_); rintro e w' ⟨rfl, ⟨nd, rfl⟩⟩; refine ⟨_, rfl, ?_⟩))
                          go_ret2
                          exact ⟨by first | rfl | (simp; done) | (simp [*]; done), by repeat (first | exact Drawn0.refl _ | apply Drawn0.step)⟩
                      · rw [if_neg c16] at H
                        have c16b0 : decide (x7_4 < (x0_5.size : Int)) = false := decide_eq_false c16
                        clear c16
                        simp only [Option.some.injEq, Prod.mk.injEq] at H
                        obtain ⟨rfl, rfl⟩ := H
                        go_wp2
                        go_ret2
                        exact ⟨by first | rfl | (simp; done) | (simp [*]; done), by repeat (first | exact Drawn0.refl _ | apply Drawn0.step)⟩

end Go.Proofs.YtobhcpfdgfkeiaaDoor.Lx

namespace Go.Proofs.YtobhcpfdgfkeiaaDoor.Lx
open Go.RowKit Go.Proofs.YtobhcpfdgfkeiaaDoorW.PrintWords Go.Proofs.YtobhcpfdgfkeiaaDoorW.PrintLast Go.Proofs.YtobhcpfdgfkeiaaDoorW.PrintMore Go.Proofs.YtobhcpfdgfkeiaaDoor.Lf Go.Proofs.YtobhcpfdgfkeiaaDoor.Ext
attribute [local go_sem] max2_int min2_int max_two min_two max_three min_three max_four min_four   -- for this text's walks alone
set_option linter.unusedVariables false
set_option linter.unusedSimpArgs false

/-! ### umlautref17_letter: function 21 -/
def umlautref17_letter.f (a0 : Int) : Option (Bool) := if a0 ≥ 97 then (if a0 ≤ 122 then (some true) else (if a0 ≥ 65 then (if a0 ≤ 90 then (some true) else (if a0 = 95 then (some true) else ((umlautref17_digit.f a0).bind fun t183 => (some t183)))) else (if a0 = 95 then (some true) else ((umlautref17_digit.f a0).bind fun t184 => (some t184))))) else (if a0 ≥ 65 then (if a0 ≤ 90 then (some true) else (if a0 = 95 then (some true) else ((umlautref17_digit.f a0).bind fun t185 => (some t185)))) else (if a0 = 95 then (some true) else ((umlautref17_digit.f a0).bind fun t186 => (some t186))))
set_option maxHeartbeats 8000000 in
set_option maxRecDepth 100000 in
theorem umlautref17_letter.calls (a0 : Int) (r : Bool) (w : World) (h : umlautref17_letter.f a0 = some r) :
    Calls Tryd.prog 21 #[.int .u8 a0] w fun e w' => e = .returned (.bool r) ∧ Drawn0 w w' := by
  have H : (if a0 ≥ 97 then (if a0 ≤ 122 then (some true) else (if a0 ≥ 65 then (if a0 ≤ 90 then (some true) else (if a0 = 95 then (some true) else ((umlautref17_digit.f a0).bind fun t183 => (some t183)))) else (if a0 = 95 then (some true) else ((umlautref17_digit.f a0).bind fun t184 => (some t184))))) else (if a0 ≥ 65 then (if a0 ≤ 90 then (some true) else (if a0 = 95 then (some true) else ((umlautref17_digit.f a0).bind fun t185 => (some t185)))) else (if a0 = 95 then (some true) else ((umlautref17_digit.f a0).bind fun t186 => (some t186))))) = some r := h
  clear h
  by_cases c2 : a0 ≥ 97
  · rw [if_pos c2] at H
    have c2b0 : decide (97 ≤ a0) = true := decide_eq_true c2
    clear c2
    by_cases c3 : a0 ≤ 122
    · rw [if_pos c3] at H
      have c3b0 : decide (a0 ≤ 122) = true := decide_eq_true c3
      clear c3
      obtain rfl := Option.some.inj H
      go_enter Tryd.func21, Tryd.ntmps21
      go_wp2
      go_ret
      exact ⟨by first | rfl | (simp; done) | (simp [*]; done), by repeat (first | exact Drawn0.refl _ | apply Drawn0.step)⟩
    · rw [if_neg c3] at H
      have c3b0 : decide (a0 ≤ 122) = false := decide_eq_false c3
      clear c3
      by_cases c4 : a0 ≥ 65
      · rw [if_pos c4] at H
        have c4b0 : decide (65 ≤ a0) = true := decide_eq_true c4
        clear c4
        by_cases c5 : a0 ≤ 90
        · rw [if_pos c5] at H
          have c5b0 : decide (a0 ≤ 90) = true := decide_eq_true c5
          clear c5
          obtain rfl := Option.some.inj H
          go_enter Tryd.func21, Tryd.ntmps21
          go_wp2
          go_ret
          exact ⟨by first | rfl | (simp; done) | (simp [*]; done), by repeat (first | exact Drawn0.refl _ | apply Drawn0.step)⟩
        · rw [if_neg c5] at H
          have c5b0 : decide (a0 ≤ 90) = false := decide_eq_false c5
          clear c5
          by_cases c6 : a0 = 95
          · rw [if_pos c6] at H
            have c6b0 : (a0 == 95) = true := beq_iff_eq.mpr c6
            have c6b1 : (a0 != 95) = false := bne_eq_false_iff_eq.mpr c6
            clear c6
            obtain rfl := Option.some.inj H
            go_enter Tryd.func21, Tryd.ntmps21
            go_wp2
            go_ret
            exact ⟨by first | rfl | (simp; done) | (simp [*]; done), by repeat (first | exact Drawn0.refl _ | apply Drawn0.step)⟩
          · rw [if_neg c6] at H
            have c6b0 : (a0 == 95) = false := beq_eq_false_iff_ne.mpr c6
            have c6b1 : (a0 != 95) = true := bne_iff_ne.mpr c6
            replace H := Option.bind_eq_some_iff.mp H
            obtain ⟨t183, A70, H⟩ := H
            replace H : (some t183) = some r := H
            have A7 := Aside0.mk A70
            clear A70
            obtain rfl := Option.some.inj H
            go_enter Tryd.func21, Tryd.ntmps21
            go_wp2_with (first | (go_at_call 19; (with_reducible refine (umlautref17_digit.calls a0 t183 _ A7.out).mono ?_); rintro e w' ⟨rfl, ⟨nd, rfl⟩⟩))
            go_ret
            exact ⟨by first | rfl | (simp; done) | (simp [*]; done), by repeat (first | exact Drawn0.refl _ | apply Drawn0.step)⟩
      · rw [if_neg c4] at H
        have c4b0 : decide (65 ≤ a0) = false := decide_eq_false c4
        clear c4
        by_cases c8 : a0 = 95
        · rw [if_pos c8] at H
          have c8b0 : (a0 == 95) = true := beq_iff_eq.mpr c8
          have c8b1 : (a0 != 95) = false := bne_eq_false_iff_eq.mpr c8
          clear c8
          obtain rfl := Option.some.inj H
          go_enter Tryd.func21, Tryd.ntmps21
          go_wp2
          go_ret
          exact ⟨by first | rfl | (simp; done) | (simp [*]; done), by repeat (first | exact Drawn0.refl _ | apply Drawn0.step)⟩
        · rw [if_neg c8] at H
          have c8b0 : (a0 == 95) = false := beq_eq_false_iff_ne.mpr c8
          have c8b1 : (a0 != 95) = true := bne_iff_ne.mpr c8
          replace H := Option.bind_eq_some_iff.mp H
          obtain ⟨t184, A90, H⟩ := H
          replace H : (some t184) = some r := H
          have A9 := Aside0.mk A90
          clear A90
          obtain rfl := Option.some.inj H
          go_enter Tryd.func21, Tryd.ntmps21
          go_wp2_with (first | (go_at_call 19; (with_reducible refine (umlautref17_digit.calls a0 t184 _ A9.out).mono ?_); rintro e w' ⟨rfl, ⟨nd, rfl⟩⟩))
          go_ret
          exact ⟨by first | rfl | (simp; done) | (simp [*]; done), by repeat (first | exact Drawn0.refl _ | apply Drawn0.step)⟩
  · rw [if_neg c2] at H
    have c2b0 : decide (97 ≤ a0) = false := decide_eq_false c2
    clear c2
    by_cases c10 : a0 ≥ 65
    · rw [if_pos c10] at H
      have c10b0 : decide (65 ≤ a0) = true := decide_eq_true c10
      clear c10
      by_cases c11 : a0 ≤ 90
      · rw [if_pos c11] at H
        have c11b0 : decide (a0 ≤ 90) = true := decide_eq_true c11
        clear c11
        obtain rfl := Option.some.inj H
        go_enter Tryd.func21, Tryd.ntmps21
        go_wp2
        go_ret
        exact ⟨by first | rfl | (simp; done) | (simp [*]; done), by repeat (first | exact Drawn0.refl _ | apply Drawn0.step)⟩
      · rw [if_neg c11] at H
        have c11b0 : decide (a0 ≤ 90) = false := decide_eq_false c11
        clear c11
        by_cases c12 : a0 = 95
        · rw [if_pos c12] at H
          have c12b0 : (a0 == 95) = true := beq_iff_eq.mpr c12
          have c12b1 : (a0 != 95) = false := bne_eq_false_iff_eq.mpr c12
          clear c12
          obtain rfl := Option.some.inj H
          go_enter Tryd.func21, Tryd.ntmps21
          go_wp2
          go_ret
          exact ⟨by first | rfl | (simp; done) | (simp [*]; done), by repeat (first | exact Drawn0.refl _ | apply Drawn0.step)⟩
        · rw [if_neg c12] at H
          have c12b0 : (a0 == 95) = false := beq_eq_false_iff_ne.mpr c12
          have c12b1 : (a0 != 95) = true := bne_iff_ne.mpr c12
          replace H := Option.bind_eq_some_iff.mp H
          obtain ⟨t185, A130, H⟩ := H
          replace H : (some t185) = some r := H
          have A13 := Aside0.mk A130
          clear A130
          obtain rfl := Option.some.inj H
          go_enter Tryd.func21, Tryd.ntmps21
          go_wp2_with (first | (go_at_call 19; (with_reducible refine (umlautref17_digit.calls a0 t185 _ A13.out).mono ?_); rintro e w' ⟨rfl, ⟨nd, rfl⟩⟩))
          go_ret
          exact ⟨by first | rfl | (simp; done) | (simp [*]; done), by repeat (first | exact Drawn0.refl _ | apply Drawn0.step)⟩
    · rw [if_neg c10] at H
      have c10b0 : decide (65 ≤ a0) = false := decide_eq_false c10
      clear c10
      by_cases c14 : a0 = 95
      · rw [if_pos c14] at H
        have c14b0 : (a0 == 95) = true := beq_iff_eq.mpr c14
        have c14b1 : (a0 != 95) = false := bne_eq_false_iff_eq.mpr c14
        clear c14
        obtain rfl := Option.some.inj H
        go_enter Tryd.func21, Tryd.ntmps21
        go_wp2
        go_ret
        exact ⟨by first | rfl | (simp; done) | (simp [*]; done), by repeat (first | exact Drawn0.refl _ | apply Drawn0.step)⟩
      · rw [if_neg c14] at H
        have c14b0 : (a0 == 95) = false := beq_eq_false_iff_ne.mpr c14
        have c14b1 : (a0 != 95) = true := bne_iff_ne.mpr c14
        replace H := Option.bind_eq_some_iff.mp H
        obtain ⟨t186, A150, H⟩ := H
        replace H : (some t186) = some r := H
        have A15 := Aside0.mk A150
        clear A150
        obtain rfl := Option.some.inj H
        go_enter Tryd.func21, Tryd.ntmps21
        go_wp2_with (first | (go_at_call 19; (with_reducible refine (umlautref17_digit.calls a0 t186 _ A15.out).mono ?_); rintro e w' ⟨rfl, ⟨nd, rfl⟩⟩))
        go_ret
        exact ⟨by first | rfl | (simp; done) | (simp [*]; done), by repeat (first | exact Drawn0.refl _ | apply Drawn0.step)⟩

-- BY HAND: function 22 (umlautref17_upper)

/-! ### umlautref17_Words: function 39 -/
def umlautref17_Words.f  : Option (List ByteArray) := some (([(⟨#[65, 76, 76]⟩ : ByteArray), (⟨#[65, 78, 68]⟩ : ByteArray), (⟨#[65, 83]⟩ : ByteArray), (⟨#[65, 83, 67]⟩ : ByteArray), (⟨#[66, 65, 67, 75]⟩ : ByteArray), (⟨#[66, 69, 84, 87, 69, 69, 78]⟩ : ByteArray), (⟨#[66, 79, 79, 76]⟩ : ByteArray), (⟨#[66, 89]⟩ : ByteArray), (⟨#[67, 65, 83, 84]⟩ : ByteArray), (⟨#[67, 79, 76, 76, 65, 84, 69]⟩ : ByteArray), (⟨#[67, 79, 76, 76, 65, 84, 73, 79, 78]⟩ : ByteArray), (⟨#[67, 82, 69, 65, 84, 69]⟩ : ByteArray), (⟨#[68, 69, 76, 69, 84, 69]⟩ : ByteArray), (⟨#[68, 69, 83, 67]⟩ : ByteArray), (⟨#[68, 73, 83, 84, 73, 78, 67, 84]⟩ : ByteArray), (⟨#[68, 82, 79, 80]⟩ : ByteArray), (⟨#[69, 83, 67, 65, 80, 69]⟩ : ByteArray), (⟨#[70, 65, 76, 83, 69]⟩ : ByteArray), (⟨#[70, 82, 79, 77]⟩ : ByteArray), (⟨#[71, 82, 79, 85, 80]⟩ : ByteArray), (⟨#[72, 65, 86, 73, 78, 71]⟩ : ByteArray), (⟨#[73, 78]⟩ : ByteArray), (⟨#[73, 78, 68, 69, 88]⟩ : ByteArray), (⟨#[73, 78, 83, 69, 82, 84]⟩ : ByteArray), (⟨#[73, 78, 84]⟩ : ByteArray), (⟨#[73, 78, 84, 79]⟩ : ByteArray), (⟨#[73, 83]⟩ : ByteArray), (⟨#[74, 79, 73, 78]⟩ : ByteArray), (⟨#[76, 69, 86, 69, 76]⟩ : ByteArray), (⟨#[76, 73, 75, 69]⟩ : ByteArray), (⟨#[76, 73, 77, 73, 84]⟩ : ByteArray), (⟨#[78, 79, 84]⟩ : ByteArray), (⟨#[78, 85, 76, 76]⟩ : ByteArray), (⟨#[79, 70, 70, 83, 69, 84]⟩ : ByteArray), (⟨#[79, 78]⟩ : ByteArray), (⟨#[79, 82]⟩ : ByteArray), (⟨#[79, 82, 68, 69, 82]⟩ : ByteArray), (⟨#[83, 69, 76, 69, 67, 84]⟩ : ByteArray), (⟨#[83, 69, 84]⟩ : ByteArray), (⟨#[83, 72, 73, 70, 84]⟩ : ByteArray), (⟨#[84, 65, 66, 76, 69]⟩ : ByteArray), (⟨#[84, 69, 88, 84]⟩ : ByteArray), (⟨#[84, 82, 85, 69]⟩ : ByteArray), (⟨#[85, 78, 73, 81, 85, 69]⟩ : ByteArray), (⟨#[85, 80, 68, 65, 84, 69]⟩ : ByteArray), (⟨#[86, 65, 76, 85, 69, 83]⟩ : ByteArray), (⟨#[87, 72, 69, 82, 69]⟩ : ByteArray), (⟨#[88, 79, 82]⟩ : ByteArray)] : List ByteArray))
set_option maxHeartbeats 8000000 in
set_option maxRecDepth 100000 in
theorem umlautref17_Words.calls  (r : List ByteArray) (w : World) (h : umlautref17_Words.f  = some r) :
    Calls Tryd.prog 39 #[] w fun e w' => ∃ v0_ : Value, e = .returned (v0_) ∧ Kd.R Kd.string 9 w' w.heap.size (fun _ => True) v0_ r ∧ Below w.heap.size w w' := by
  have HB := Aside0.mk (Below.refl w.heap.size w)
  have H : (some (([(⟨#[65, 76, 76]⟩ : ByteArray), (⟨#[65, 78, 68]⟩ : ByteArray), (⟨#[65, 83]⟩ : ByteArray), (⟨#[65, 83, 67]⟩ : ByteArray), (⟨#[66, 65, 67, 75]⟩ : ByteArray), (⟨#[66, 69, 84, 87, 69, 69, 78]⟩ : ByteArray), (⟨#[66, 79, 79, 76]⟩ : ByteArray), (⟨#[66, 89]⟩ : ByteArray), (⟨#[67, 65, 83, 84]⟩ : ByteArray), (⟨#[67, 79, 76, 76, 65, 84, 69]⟩ : ByteArray), (⟨#[67, 79, 76, 76, 65, 84, 73, 79, 78]⟩ : ByteArray), (⟨#[67, 82, 69, 65, 84, 69]⟩ : ByteArray), (⟨#[68, 69, 76, 69, 84, 69]⟩ : ByteArray), (⟨#[68, 69, 83, 67]⟩ : ByteArray), (⟨#[68, 73, 83, 84, 73, 78, 67, 84]⟩ : ByteArray), (⟨#[68, 82, 79, 80]⟩ : ByteArray), (⟨#[69, 83, 67, 65, 80, 69]⟩ : ByteArray), (⟨#[70, 65, 76, 83, 69]⟩ : ByteArray), (⟨#[70, 82, 79, 77]⟩ : ByteArray), (⟨#[71, 82, 79, 85, 80]⟩ : ByteArray), (⟨#[72, 65, 86, 73, 78, 71]⟩ : ByteArray), (⟨#[73, 78]⟩ : ByteArray), (⟨#[73, 78, 68, 69, 88]⟩ : ByteArray), (⟨#[73, 78, 83, 69, 82, 84]⟩ : ByteArray), (⟨#[73, 78, 84]⟩ : ByteArray), (⟨#[73, 78, 84, 79]⟩ : ByteArray), (⟨#[73, 83]⟩ : ByteArray), (⟨#[74, 79, 73, 78]⟩ : ByteArray), (⟨#[76, 69, 86, 69, 76]⟩ : ByteArray), (⟨#[76, 73, 75, 69]⟩ : ByteArray), (⟨#[76, 73, 77, 73, 84]⟩ : ByteArray), (⟨#[78, 79, 84]⟩ : ByteArray), (⟨#[78, 85, 76, 76]⟩ : ByteArray), (⟨#[79, 70, 70, 83, 69, 84]⟩ : ByteArray), (⟨#[79, 78]⟩ : ByteArray), (⟨#[79, 82]⟩ : ByteArray), (⟨#[79, 82, 68, 69, 82]⟩ : ByteArray), (⟨#[83, 69, 76, 69, 67, 84]⟩ : ByteArray), (⟨#[83, 69, 84]⟩ : ByteArray), (⟨#[83, 72, 73, 70, 84]⟩ : ByteArray), (⟨#[84, 65, 66, 76, 69]⟩ : ByteArray), (⟨#[84, 69, 88, 84]⟩ : ByteArray), (⟨#[84, 82, 85, 69]⟩ : ByteArray), (⟨#[85, 78, 73, 81, 85, 69]⟩ : ByteArray), (⟨#[85, 80, 68, 65, 84, 69]⟩ : ByteArray), (⟨#[86, 65, 76, 85, 69, 83]⟩ : ByteArray), (⟨#[87, 72, 69, 82, 69]⟩ : ByteArray), (⟨#[88, 79, 82]⟩ : ByteArray)] : List ByteArray))) = some r := h
  clear h
  obtain ⟨y187, hy187⟩ : ∃ y_ : List ByteArray, y_ = (([(⟨#[65, 76, 76]⟩ : ByteArray), (⟨#[65, 78, 68]⟩ : ByteArray), (⟨#[65, 83]⟩ : ByteArray), (⟨#[65, 83, 67]⟩ : ByteArray), (⟨#[66, 65, 67, 75]⟩ : ByteArray), (⟨#[66, 69, 84, 87, 69, 69, 78]⟩ : ByteArray), (⟨#[66, 79, 79, 76]⟩ : ByteArray), (⟨#[66, 89]⟩ : ByteArray), (⟨#[67, 65, 83, 84]⟩ : ByteArray), (⟨#[67, 79, 76, 76, 65, 84, 69]⟩ : ByteArray), (⟨#[67, 79, 76, 76, 65, 84, 73, 79, 78]⟩ : ByteArray), (⟨#[67, 82, 69, 65, 84, 69]⟩ : ByteArray), (⟨#[68, 69, 76, 69, 84, 69]⟩ : ByteArray), (⟨#[68, 69, 83, 67]⟩ : ByteArray), (⟨#[68, 73, 83, 84, 73, 78, 67, 84]⟩ : ByteArray), (⟨#[68, 82, 79, 80]⟩ : ByteArray), (⟨#[69, 83, 67, 65, 80, 69]⟩ : ByteArray), (⟨#[70, 65, 76, 83, 69]⟩ : ByteArray), (⟨#[70, 82, 79, 77]⟩ : ByteArray), (⟨#[71, 82, 79, 85, 80]⟩ : ByteArray), (⟨#[72, 65, 86, 73, 78, 71]⟩ : ByteArray), (⟨#[73, 78]⟩ : ByteArray), (⟨#[73, 78, 68, 69, 88]⟩ : ByteArray), (⟨#[73, 78, 83, 69, 82, 84]⟩ : ByteArray), (⟨#[73, 78, 84]⟩ : ByteArray), (⟨#[73, 78, 84, 79]⟩ : ByteArray), (⟨#[73, 83]⟩ : ByteArray), (⟨#[74, 79, 73, 78]⟩ : ByteArray), (⟨#[76, 69, 86, 69, 76]⟩ : ByteArray), (⟨#[76, 73, 75, 69]⟩ : ByteArray), (⟨#[76, 73, 77, 73, 84]⟩ : ByteArray), (⟨#[78, 79, 84]⟩ : ByteArray), (⟨#[78, 85, 76, 76]⟩ : ByteArray), (⟨#[79, 70, 70, 83, 69, 84]⟩ : ByteArray), (⟨#[79, 78]⟩ : ByteArray), (⟨#[79, 82]⟩ : ByteArray), (⟨#[79, 82, 68, 69, 82]⟩ : ByteArray), (⟨#[83, 69, 76, 69, 67, 84]⟩ : ByteArray), (⟨#[83, 69, 84]⟩ : ByteArray), (⟨#[83, 72, 73, 70, 84]⟩ : ByteArray), (⟨#[84, 65, 66, 76, 69]⟩ : ByteArray), (⟨#[84, 69, 88, 84]⟩ : ByteArray), (⟨#[84, 82, 85, 69]⟩ : ByteArray), (⟨#[85, 78, 73, 81, 85, 69]⟩ : ByteArray), (⟨#[85, 80, 68, 65, 84, 69]⟩ : ByteArray), (⟨#[86, 65, 76, 85, 69, 83]⟩ : ByteArray), (⟨#[87, 72, 69, 82, 69]⟩ : ByteArray), (⟨#[88, 79, 82]⟩ : ByteArray)] : List ByteArray)) := ⟨_, rfl⟩
  replace H : (some y187) = some r := by first | (rw [hy187]; with_reducible exact H) | (have H2_ := (Option.bind_some _ _).symm.trans H; rw [hy187]; with_reducible exact H2_) | (have H2_ := (Option.bind_some _ _).symm.trans H; with_reducible exact H2_) | with_reducible exact H | (rw [hy187]; exact H) | exact H
  have Ny187 := Aside0.mk hy187
  clear hy187
  obtain rfl := Option.some.inj H
  go_enter Tryd.func39, Tryd.ntmps39
  go_wp2_with (first | ((with_reducible refine gate_dst (N := 1) rfl ?_); refine Kd.R_lit Kd.string _ 9 ?hg (N := 1) ?hd (xs := ([(⟨#[65, 76, 76]⟩ : ByteArray), (⟨#[65, 78, 68]⟩ : ByteArray), (⟨#[65, 83]⟩ : ByteArray), (⟨#[65, 83, 67]⟩ : ByteArray), (⟨#[66, 65, 67, 75]⟩ : ByteArray), (⟨#[66, 69, 84, 87, 69, 69, 78]⟩ : ByteArray), (⟨#[66, 79, 79, 76]⟩ : ByteArray), (⟨#[66, 89]⟩ : ByteArray), (⟨#[67, 65, 83, 84]⟩ : ByteArray), (⟨#[67, 79, 76, 76, 65, 84, 69]⟩ : ByteArray), (⟨#[67, 79, 76, 76, 65, 84, 73, 79, 78]⟩ : ByteArray), (⟨#[67, 82, 69, 65, 84, 69]⟩ : ByteArray), (⟨#[68, 69, 76, 69, 84, 69]⟩ : ByteArray), (⟨#[68, 69, 83, 67]⟩ : ByteArray), (⟨#[68, 73, 83, 84, 73, 78, 67, 84]⟩ : ByteArray), (⟨#[68, 82, 79, 80]⟩ : ByteArray), (⟨#[69, 83, 67, 65, 80, 69]⟩ : ByteArray), (⟨#[70, 65, 76, 83, 69]⟩ : ByteArray), (⟨#[70, 82, 79, 77]⟩ : ByteArray), (⟨#[71, 82, 79, 85, 80]⟩ : ByteArray), (⟨#[72, 65, 86, 73, 78, 71]⟩ : ByteArray), (⟨#[73, 78]⟩ : ByteArray), (⟨#[73, 78, 68, 69, 88]⟩ : ByteArray), (⟨#[73, 78, 83, 69, 82, 84]⟩ : ByteArray), (⟨#[73, 78, 84]⟩ : ByteArray), (⟨#[73, 78, 84, 79]⟩ : ByteArray), (⟨#[73, 83]⟩ : ByteArray), (⟨#[74, 79, 73, 78]⟩ : ByteArray), (⟨#[76, 69, 86, 69, 76]⟩ : ByteArray), (⟨#[76, 73, 75, 69]⟩ : ByteArray), (⟨#[76, 73, 77, 73, 84]⟩ : ByteArray), (⟨#[78, 79, 84]⟩ : ByteArray), (⟨#[78, 85, 76, 76]⟩ : ByteArray), (⟨#[79, 70, 70, 83, 69, 84]⟩ : ByteArray), (⟨#[79, 78]⟩ : ByteArray), (⟨#[79, 82]⟩ : ByteArray), (⟨#[79, 82, 68, 69, 82]⟩ : ByteArray), (⟨#[83, 69, 76, 69, 67, 84]⟩ : ByteArray), (⟨#[83, 69, 84]⟩ : ByteArray), (⟨#[83, 72, 73, 70, 84]⟩ : ByteArray), (⟨#[84, 65, 66, 76, 69]⟩ : ByteArray), (⟨#[84, 69, 88, 84]⟩ : ByteArray), (⟨#[84, 82, 85, 69]⟩ : ByteArray), (⟨#[85, 78, 73, 81, 85, 69]⟩ : ByteArray), (⟨#[85, 80, 68, 65, 84, 69]⟩ : ByteArray), (⟨#[86, 65, 76, 85, 69, 83]⟩ : ByteArray), (⟨#[87, 72, 69, 82, 69]⟩ : ByteArray), (⟨#[88, 79, 82]⟩ : ByteArray)] : List ByteArray)) (inner := [.string (⟨#[65, 76, 76]⟩ : ByteArray), .string (⟨#[65, 78, 68]⟩ : ByteArray), .string (⟨#[65, 83]⟩ : ByteArray), .string (⟨#[65, 83, 67]⟩ : ByteArray), .string (⟨#[66, 65, 67, 75]⟩ : ByteArray), .string (⟨#[66, 69, 84, 87, 69, 69, 78]⟩ : ByteArray), .string (⟨#[66, 79, 79, 76]⟩ : ByteArray), .string (⟨#[66, 89]⟩ : ByteArray), .string (⟨#[67, 65, 83, 84]⟩ : ByteArray), .string (⟨#[67, 79, 76, 76, 65, 84, 69]⟩ : ByteArray), .string (⟨#[67, 79, 76, 76, 65, 84, 73, 79, 78]⟩ : ByteArray), .string (⟨#[67, 82, 69, 65, 84, 69]⟩ : ByteArray), .string (⟨#[68, 69, 76, 69, 84, 69]⟩ : ByteArray), .string (⟨#[68, 69, 83, 67]⟩ : ByteArray), .string (⟨#[68, 73, 83, 84, 73, 78, 67, 84]⟩ : ByteArray), .string (⟨#[68, 82, 79, 80]⟩ : ByteArray), .string (⟨#[69, 83, 67, 65, 80, 69]⟩ : ByteArray), .string (⟨#[70, 65, 76, 83, 69]⟩ : ByteArray), .string (⟨#[70, 82, 79, 77]⟩ : ByteArray), .string (⟨#[71, 82, 79, 85, 80]⟩ : ByteArray), .string (⟨#[72, 65, 86, 73, 78, 71]⟩ : ByteArray), .string (⟨#[73, 78]⟩ : ByteArray), .string (⟨#[73, 78, 68, 69, 88]⟩ : ByteArray), .string (⟨#[73, 78, 83, 69, 82, 84]⟩ : ByteArray), .string (⟨#[73, 78, 84]⟩ : ByteArray), .string (⟨#[73, 78, 84, 79]⟩ : ByteArray), .string (⟨#[73, 83]⟩ : ByteArray), .string (⟨#[74, 79, 73, 78]⟩ : ByteArray), .string (⟨#[76, 69, 86, 69, 76]⟩ : ByteArray), .string (⟨#[76, 73, 75, 69]⟩ : ByteArray), .string (⟨#[76, 73, 77, 73, 84]⟩ : ByteArray), .string (⟨#[78, 79, 84]⟩ : ByteArray), .string (⟨#[78, 85, 76, 76]⟩ : ByteArray), .string (⟨#[79, 70, 70, 83, 69, 84]⟩ : ByteArray), .string (⟨#[79, 78]⟩ : ByteArray), .string (⟨#[79, 82]⟩ : ByteArray), .string (⟨#[79, 82, 68, 69, 82]⟩ : ByteArray), .string (⟨#[83, 69, 76, 69, 67, 84]⟩ : ByteArray), .string (⟨#[83, 69, 84]⟩ : ByteArray), .string (⟨#[83, 72, 73, 70, 84]⟩ : ByteArray), .string (⟨#[84, 65, 66, 76, 69]⟩ : ByteArray), .string (⟨#[84, 69, 88, 84]⟩ : ByteArray), .string (⟨#[84, 82, 85, 69]⟩ : ByteArray), .string (⟨#[85, 78, 73, 81, 85, 69]⟩ : ByteArray), .string (⟨#[85, 80, 68, 65, 84, 69]⟩ : ByteArray), .string (⟨#[86, 65, 76, 85, 69, 83]⟩ : ByteArray), .string (⟨#[87, 72, 69, 82, 69]⟩ : ByteArray), .string (⟨#[88, 79, 82]⟩ : ByteArray)]) (ok := fun _ => True) (okp := fun _ => True) ?hr ?hp (fun _ hk => hk) trivial (Below.refl _ _) (Nat.le_refl _) (by simp) ?_; (case hd => rfl); (case hg => rfl); (case hr => first | (go_simp; done) | (go_simp; rfl)); (case hp => exact (Reps.one (show Kd.M Kd.string _ _ _ (⟨#[65, 76, 76]⟩ : ByteArray) [.string (⟨#[65, 76, 76]⟩ : ByteArray)] from rfl) (Reps.one (show Kd.M Kd.string _ _ _ (⟨#[65, 78, 68]⟩ : ByteArray) [.string (⟨#[65, 78, 68]⟩ : ByteArray)] from rfl) (Reps.one (show Kd.M Kd.string _ _ _ (⟨#[65, 83]⟩ : ByteArray) [.string (⟨#[65, 83]⟩ : ByteArray)] from rfl) (Reps.one (show Kd.M Kd.string _ _ _ (⟨#[65, 83, 67]⟩ : ByteArray) [.string (⟨#[65, 83, 67]⟩ : ByteArray)] from rfl) (Reps.one (show Kd.M Kd.string _ _ _ (⟨#[66, 65, 67, 75]⟩ : ByteArray) [.string (⟨#[66, 65, 67, 75]⟩ : ByteArray)] from rfl) (Reps.one (show Kd.M Kd.string _ _ _ (⟨#[66, 69, 84, 87, 69, 69, 78]⟩ : ByteArray) [.string (⟨#[66, 69, 84, 87, 69, 69, 78]⟩ : ByteArray)] from rfl) (Reps.one (show Kd.M Kd.string _ _ _ (⟨#[66, 79, 79, 76]⟩ : ByteArray) [.string (⟨#[66, 79, 79, 76]⟩ : ByteArray)] from rfl) (Reps.one (show Kd.M Kd.string _ _ _ (⟨#[66, 89]⟩ : ByteArray) [.string (⟨#[66, 89]⟩ : ByteArray)] from rfl) (Reps.one (show Kd.M Kd.string _ _ _ (⟨#[67, 65, 83, 84]⟩ : ByteArray) [.string (⟨#[67, 65, 83, 84]⟩ : ByteArray)] from rfl) (Reps.one (show Kd.M Kd.string _ _ _ (⟨#[67, 79, 76, 76, 65, 84, 69]⟩ : ByteArray) [.string (⟨#[67, 79, 76, 76, 65, 84, 69]⟩ : ByteArray)] from rfl) (Reps.one (show Kd.M Kd.string _ _ _ (⟨#[67, 79, 76, 76, 65, 84, 73, 79, 78]⟩ : ByteArray) [.string (⟨#[67, 79, 76, 76, 65, 84, 73, 79, 78]⟩ : ByteArray)] from rfl) (Reps.one (show Kd.M Kd.string _ _ _ (⟨#[67, 82, 69, 65, 84, 69]⟩ : ByteArray) [.string (⟨#[67, 82, 69, 65, 84, 69]⟩ : ByteArray)] from rfl) (Reps.one (show Kd.M Kd.string _ _ _ (⟨#[68, 69, 76, 69, 84, 69]⟩ : ByteArray) [.string (⟨#[68, 69, 76, 69, 84, 69]⟩ : ByteArray)] from rfl) (Reps.one (show Kd.M Kd.string _ _ _ (⟨#[68, 69, 83, 67]⟩ : ByteArray) [.string (⟨#[68, 69, 83, 67]⟩ : ByteArray)] from rfl) (Reps.one (show Kd.M Kd.string _ _ _ (⟨#[68, 73, 83, 84, 73, 78, 67, 84]⟩ : ByteArray) [.string (⟨#[68, 73, 83, 84, 73, 78, 67, 84]⟩ : ByteArray)] from rfl) (Reps.one (show Kd.M Kd.string _ _ _ (⟨#[68, 82, 79, 80]⟩ : ByteArray) [.string (⟨#[68, 82, 79, 80]⟩ : ByteArray)] from rfl) (Reps.one (show Kd.M Kd.string _ _ _ (⟨#[69, 83, 67, 65, 80, 69]⟩ : ByteArray) [.string (⟨#[69, 83, 67, 65, 80, 69]⟩ : ByteArray)] from rfl) (Reps.one (show Kd.M Kd.string _ _ _ (⟨#[70, 65, 76, 83, 69]⟩ : ByteArray) [.string (⟨#[70, 65, 76, 83, 69]⟩ : ByteArray)] from rfl) (Reps.one (show Kd.M Kd.string _ _ _ (⟨#[70, 82, 79, 77]⟩ : ByteArray) [.string (⟨#[70, 82, 79, 77]⟩ : ByteArray)] from rfl) (Reps.one (show Kd.M Kd.string _ _ _ (⟨#[71, 82, 79, 85, 80]⟩ : ByteArray) [.string (⟨#[71, 82, 79, 85, 80]⟩ : ByteArray)] from rfl) (Reps.one (show Kd.M Kd.string _ _ _ (⟨#[72, 65, 86, 73, 78, 71]⟩ : ByteArray) [.string (⟨#[72, 65, 86, 73, 78, 71]⟩ : ByteArray)] from rfl) (Reps.one (show Kd.M Kd.string _ _ _ (⟨#[73, 78]⟩ : ByteArray) [.string (⟨#[73, 78]⟩ : ByteArray)] from rfl) (Reps.one (show Kd.M Kd.string _ _ _ (⟨#[73, 78, 68, 69, 88]⟩ : ByteArray) [.string (⟨#[73, 78, 68, 69, 88]⟩ : ByteArray)] from rfl) (Reps.one (show Kd.M Kd.string _ _ _ (⟨#[73, 78, 83, 69, 82, 84]⟩ : ByteArray) [.string (⟨#[73, 78, 83, 69, 82, 84]⟩ : ByteArray)] from rfl) (Reps.one (show Kd.M Kd.string _ _ _ (⟨#[73, 78, 84]⟩ : ByteArray) [.string (⟨#[73, 78, 84]⟩ : ByteArray)] from rfl) (Reps.one (show Kd.M Kd.string _ _ _ (⟨#[73, 78, 84, 79]⟩ : ByteArray) [.string (⟨#[73, 78, 84, 79]⟩ : ByteArray)] from rfl) (Reps.one (show Kd.M Kd.string _ _ _ (⟨#[73, 83]⟩ : ByteArray) [.string (⟨#[73, 83]⟩ : ByteArray)] from rfl) (Reps.one (show Kd.M Kd.string _ _ _ (⟨#[74, 79, 73, 78]⟩ : ByteArray) [.string (⟨#[74, 79, 73, 78]⟩ : ByteArray)] from rfl) (Reps.one (show Kd.M Kd.string _ _ _ (⟨#[76, 69, 86, 69, 76]⟩ : ByteArray) [.string (⟨#[76, 69, 86, 69, 76]⟩ : ByteArray)] from rfl) (Reps.one (show Kd.M Kd.string _ _ _ (⟨#[76, 73, 75, 69]⟩ : ByteArray) [.string (⟨#[76, 73, 75, 69]⟩ : ByteArray)] from rfl) (Reps.one (show Kd.M Kd.string _ _ _ (⟨#[76, 73, 77, 73, 84]⟩ : ByteArray) [.string (⟨#[76, 73, 77, 73, 84]⟩ : ByteArray)] from rfl) (Reps.one (show Kd.M Kd.string _ _ _ (⟨#[78, 79, 84]⟩ : ByteArray) [.string (⟨#[78, 79, 84]⟩ : ByteArray)] from rfl) (Reps.one (show Kd.M Kd.string _ _ _ (⟨#[78, 85, 76, 76]⟩ : ByteArray) [.string (⟨#[78, 85, 76, 76]⟩ : ByteArray)] from rfl) (Reps.one (show Kd.M Kd.string _ _ _ (⟨#[79, 70, 70, 83, 69, 84]⟩ : ByteArray) [.string (⟨#[79, 70, 70, 83, 69, 84]⟩ : ByteArray)] from rfl) (Reps.one (show Kd.M Kd.string _ _ _ (⟨#[79, 78]⟩ : ByteArray) [.string (⟨#[79, 78]⟩ : ByteArray)] from rfl) (Reps.one (show Kd.M Kd.string _ _ _ (⟨#[79, 82]⟩ : ByteArray) [.string (⟨#[79, 82]⟩ : ByteArray)] from rfl) (Reps.one (show Kd.M Kd.string _ _ _ (⟨#[79, 82, 68, 69, 82]⟩ : ByteArray) [.string (⟨#[79, 82, 68, 69, 82]⟩ : ByteArray)] from rfl) (Reps.one (show Kd.M Kd.string _ _ _ (⟨#[83, 69, 76, 69, 67, 84]⟩ : ByteArray) [.string (⟨#[83, 69, 76, 69, 67, 84]⟩ : ByteArray)] from rfl) (Reps.one (show Kd.M Kd.string _ _ _ (⟨#[83, 69, 84]⟩ : ByteArray) [.string (⟨#[83, 69, 84]⟩ : ByteArray)] from rfl) (Reps.one (show Kd.M Kd.string _ _ _ (⟨#[83, 72, 73, 70, 84]⟩ : ByteArray) [.string (⟨#[83, 72, 73, 70, 84]⟩ : ByteArray)] from rfl) (Reps.one (show Kd.M Kd.string _ _ _ (⟨#[84, 65, 66, 76, 69]⟩ : ByteArray) [.string (⟨#[84, 65, 66, 76, 69]⟩ : ByteArray)] from rfl) (Reps.one (show Kd.M Kd.string _ _ _ (⟨#[84, 69, 88, 84]⟩ : ByteArray) [.string (⟨#[84, 69, 88, 84]⟩ : ByteArray)] from rfl) (Reps.one (show Kd.M Kd.string _ _ _ (⟨#[84, 82, 85, 69]⟩ : ByteArray) [.string (⟨#[84, 82, 85, 69]⟩ : ByteArray)] from rfl) (Reps.one (show Kd.M Kd.string _ _ _ (⟨#[85, 78, 73, 81, 85, 69]⟩ : ByteArray) [.string (⟨#[85, 78, 73, 81, 85, 69]⟩ : ByteArray)] from rfl) (Reps.one (show Kd.M Kd.string _ _ _ (⟨#[85, 80, 68, 65, 84, 69]⟩ : ByteArray) [.string (⟨#[85, 80, 68, 65, 84, 69]⟩ : ByteArray)] from rfl) (Reps.one (show Kd.M Kd.string _ _ _ (⟨#[86, 65, 76, 85, 69, 83]⟩ : ByteArray) [.string (⟨#[86, 65, 76, 85, 69, 83]⟩ : ByteArray)] from rfl) (Reps.one (show Kd.M Kd.string _ _ _ (⟨#[87, 72, 69, 82, 69]⟩ : ByteArray) [.string (⟨#[87, 72, 69, 82, 69]⟩ : ByteArray)] from rfl) (Reps.one (show Kd.M Kd.string _ _ _ (⟨#[88, 79, 82]⟩ : ByteArray) [.string (⟨#[88, 79, 82]⟩ : ByteArray)] from rfl) (Reps.none _ _)))))))))))))))))))))))))))))))))))))))))))))))))); intro v188 w1 ho2 hb hg_ hnew_; clear hg_ hnew_; (first | rw [← Ny187.out] at ho2 | (simp only [Int.reduceToNat] at ho2; rw [← Ny187.out] at ho2)); have n0_ := Aside0.mk (Kd.R_lower ho2 (below_size (by repeat (first | (with_reducible first | exact HB.out | apply below_alloc | apply pw_below_drewN | apply below_drew1) | exact HB.out)))); have n1_ := Aside0.mk (below_step (by repeat (first | (with_reducible first | exact HB.out | apply below_alloc | apply pw_below_drewN | apply below_drew1) | exact HB.out)) hb); clear HB; have HO189 := n0_; have HB := n1_; clear n0_ n1_; clear hb ho2))
  go_ret
  exact ⟨_, by first | rfl | (simp [errW_none, errW_some] <;> rfl) | (simp [*, errW_none, errW_some] <;> rfl), by (with_reducible repeat (first | apply Kd.R_alloc | apply Kd.R_drewN | apply Kd.R_drew)); exact HO189.out, by repeat (first | (with_reducible first | exact HB.out | apply below_alloc | apply pw_below_drewN | apply below_drew1) | exact HB.out)⟩

end Go.Proofs.YtobhcpfdgfkeiaaDoor.Lx

namespace Go.Proofs.YtobhcpfdgfkeiaaDoor.Lp
open Go.RowKit Go.Proofs.YtobhcpfdgfkeiaaDoorW.PrintWords Go.Proofs.YtobhcpfdgfkeiaaDoor.Ext Go.Proofs.YtobhcpfdgfkeiaaDoor.Lx Go.Proofs.YtobhcpfdgfkeiaaDoor.Lf
set_option linter.unusedVariables false

theorem rdigit_fin : ∀ n : Fin 256, umlautref17_digit.f (n.val : Int) = some (isDig (UInt8.ofNat n.val)) := by decide +kernel
theorem rletter_fin : ∀ n : Fin 256, umlautref17_letter.f (n.val : Int) = some (isNam (UInt8.ofNat n.val)) := by decide +kernel
theorem rdigit_eq (c : UInt8) : umlautref17_digit.f (c.toNat : Int) = some (isDig c) := by
  have := rdigit_fin ⟨c.toNat, c.toNat_lt⟩
  simpa using this
theorem rletter_eq (c : UInt8) : umlautref17_letter.f (c.toNat : Int) = some (isNam c) := by
  have := rletter_fin ⟨c.toNat, c.toNat_lt⟩
  simpa using this

theorem mul_ten (n : Int) (h0 : 0 ≤ n) (h1 : n ≤ 9223372036854775807) (k : Nat) (hk : 1 ≤ k) : umlautref1_Mul.f k n 10 = some (if n * 10 ≤ 9223372036854775807 then (n * 10, 0) else (0, 17)) := by
  obtain ⟨k, rfl⟩ : ∃ m, k = m + 1 := ⟨k - 1, by omega⟩
  unfold umlautref1_Mul.f
  by_cases hz : n = 0
  · subst hz; rw [if_pos rfl]; simp [umlautref1_Mul.j0]
  · rw [if_neg hz]
    simp only [umlautref1_Mul.j0]
    rw [if_neg (by decide), if_neg (by omega), if_neg (by decide), if_neg (by decide)]
    by_cases hm : n * 10 ≤ 9223372036854775807
    · have e1 : wrap64 (n * 10) = n * 10 := by unfold wrap64; omega
      have e2 : Int.tdiv (n * 10) 10 = n := Int.mul_tdiv_cancel n (by decide)
      have e3 : wrap64 n = n := by unfold wrap64; omega
      rw [e1, e2, e3, if_pos rfl, if_pos hm]
    · rw [if_neg hm]
      have hw : -9223372036854775808 ≤ wrap64 (n * 10) ∧ wrap64 (n * 10) ≤ 9223372036854775807 := by unfold wrap64; omega
      have ht : Int.tdiv (wrap64 (n * 10)) 10 ≤ 922337203685477580 := by
        by_cases hp : 0 ≤ wrap64 (n * 10)
        · rw [Int.tdiv_eq_ediv_of_nonneg hp]; omega
        · have h2 : Int.tdiv (wrap64 (n * 10)) 10 = - Int.tdiv (-(wrap64 (n * 10))) 10 := by rw [Int.neg_tdiv]; omega
          rw [h2, Int.tdiv_eq_ediv_of_nonneg (by omega)]; omega
      have hb : -9223372036854775808 ≤ Int.tdiv (wrap64 (n * 10)) 10 := by
        by_cases hp : 0 ≤ wrap64 (n * 10)
        · rw [Int.tdiv_eq_ediv_of_nonneg hp]; omega
        · have h2 : Int.tdiv (wrap64 (n * 10)) 10 = - Int.tdiv (-(wrap64 (n * 10))) 10 := by rw [Int.neg_tdiv]; omega
          rw [h2, Int.tdiv_eq_ediv_of_nonneg (by omega)]; omega
      have e3 : wrap64 (Int.tdiv (wrap64 (n * 10)) 10) = Int.tdiv (wrap64 (n * 10)) 10 := by unfold wrap64 at ht hb ⊢; omega
      rw [e3, if_neg (by omega)]
theorem add_dig (n d : Int) (h0 : 0 ≤ n) (h1 : n ≤ 9223372036854775807) (hd0 : 0 ≤ d) (hd : d ≤ 9) : umlautref1_Add.f n d = some (if n + d ≤ 9223372036854775807 then (n + d, 0) else (0, 17)) := by
  unfold umlautref1_Add.f
  have e1 : wrap64 (9223372036854775807 - d) = 9223372036854775807 - d := by unfold wrap64; omega
  by_cases hp : d > 0
  · rw [if_pos hp, e1]
    by_cases hm : n + d ≤ 9223372036854775807
    · have e2 : wrap64 (n + d) = n + d := by unfold wrap64; omega
      rw [if_neg (by omega), if_neg (by omega), if_pos hm, e2]
    · rw [if_pos (by omega), if_neg hm]
  · have e2 : wrap64 (n + d) = n + d := by unfold wrap64; omega
    rw [if_neg hp, if_neg (by omega), if_pos (by omega), e2]

theorem parse_loop (s : ByteArray) (hs : s.size ≤ 140737488351232) : ∀ (d k i acc : Nat), i ≤ s.size → s.size - i ≤ d → d + 1 < k → acc ≤ 9223372036854775807 → (∀ c, c ∈ s.data.toList.drop i → isDig c = true) →
    umlautref1_Parse.l1 k s false (acc : Int) (i : Int) = some (if valOf acc (s.data.toList.drop i) ≤ 9223372036854775807 then (((valOf acc (s.data.toList.drop i) : Nat) : Int), (0 : Int)) else (0, 17)) := by
  intro d
  induction d with
  | zero =>
    intro k i acc hi hd hk ha hc
    obtain ⟨k, rfl⟩ : ∃ m, k = m + 1 := ⟨k - 1, by omega⟩
    simp only [umlautref1_Parse.l1]
    rw [if_neg (by omega), drop_end (by omega), valOf_nil, if_pos ha]
  | succ d ih =>
    intro k i acc hi hd hk ha hc
    obtain ⟨k, rfl⟩ : ∃ m, k = m + 1 := ⟨k - 1, by omega⟩
    by_cases hlt : i < s.size
    · have hd1 := drop_at hlt
      have hcd := hc s[i] (by rw [hd1]; exact List.mem_cons_self ..)
      have hcd' : 48 ≤ s[i].toNat ∧ s[i].toNat ≤ 57 := by unfold isDig at hcd; simpa using hcd
      have hge := valOf_ge (s.data.toList.drop (i + 1)) (acc * 10 + (s[i].toNat - 48))
      simp only [umlautref1_Parse.l1]
      rw [if_pos (by omega), mul_ten (acc : Int) (by omega) (by omega) k (by omega)]
      simp only [Option.bind_some]
      rw [hd1, valOf_cons]
      by_cases hm : (acc : Int) * 10 ≤ 9223372036854775807
      · rw [if_pos hm]
        simp only [if_true]
        rw [if_pos (by omega), if_neg (by decide), bt_nat hlt, show ((s[i].toNat : Int) - 48) % 256 = ((s[i].toNat - 48 : Nat) : Int) by omega, add_dig _ _ (by omega) hm (by omega) (by omega)]
        simp only [Option.bind_some]
        by_cases hm2 : (acc : Int) * 10 + ((s[i].toNat - 48 : Nat) : Int) ≤ 9223372036854775807
        · rw [if_pos hm2]
          simp only [if_true]
          rw [wrap_add1 _ (by omega), show (acc : Int) * 10 + ((s[i].toNat - 48 : Nat) : Int) = ((acc * 10 + (s[i].toNat - 48) : Nat) : Int) by omega]
          exact ih k (i + 1) _ (by omega) (by omega) (by omega) (by omega) (fun c h => hc c (by rw [hd1]; exact List.mem_cons_of_mem _ h))
        · rw [if_neg hm2]
          simp only
          rw [if_neg (by decide), if_neg (by omega)]
      · rw [if_neg hm]
        simp only
        rw [if_neg (by decide), if_neg (by omega)]
    · simp only [umlautref1_Parse.l1]
      rw [if_neg (by omega), drop_end (by omega), valOf_nil, if_pos ha]
theorem parse_scan (s : ByteArray) (hs : s.size ≤ 140737488351232) (h0 : 0 < s.size) : ∀ (d k i : Nat), i ≤ s.size → s.size - i ≤ d → d + s.size + 3 < k → (∀ c, c ∈ s.data.toList → isDig c = true) →
    umlautref1_Parse.l0 k s false (i : Int) = some (if valOf 0 s.data.toList ≤ 9223372036854775807 then (((valOf 0 s.data.toList : Nat) : Int), (0 : Int)) else (0, 17)) := by
  intro d
  induction d with
  | zero =>
    intro k i hi hd hk hc
    obtain ⟨k, rfl⟩ : ∃ m, k = m + 1 := ⟨k - 1, by omega⟩
    simp only [umlautref1_Parse.l0]
    have hne : ¬ s.toList = ([] : List UInt8) := by
      rw [Lib.toList_data]; intro e; have := len_size s; rw [e] at this; simp at this; omega
    rw [if_neg (by omega), if_neg hne]
    have := parse_loop s hs s.size k 0 0 (by omega) (by omega) (by omega) (by omega) (by simpa using hc)
    simpa using this
  | succ d ih =>
    intro k i hi hd hk hc
    obtain ⟨k, rfl⟩ : ∃ m, k = m + 1 := ⟨k - 1, by omega⟩
    by_cases hlt : i < s.size
    · have hcd := hc s[i] (by have := drop_at hlt; exact List.mem_of_mem_drop (by rw [this]; exact List.mem_cons_self ..))
      have hcd' : 48 ≤ s[i].toNat ∧ s[i].toNat ≤ 57 := by unfold isDig at hcd; simpa using hcd
      simp only [umlautref1_Parse.l0]
      rw [if_pos (by omega), if_pos (by omega), bt_nat hlt, if_neg (by omega), if_neg (by omega), wrap_add1 _ (by omega)]
      exact ih k (i + 1) (by omega) (by omega) (by omega) hc
    · simp only [umlautref1_Parse.l0]
      have hne : ¬ s.toList = ([] : List UInt8) := by
        rw [Lib.toList_data]; intro e; have := len_size s; rw [e] at this; simp at this; omega
      rw [if_neg (by omega), if_neg hne]
      have := parse_loop s hs s.size k 0 0 (by omega) (by omega) (by omega) (by omega) (by simpa using hc)
      simpa using this
theorem rparse_eq (s : ByteArray) (hs : s.size ≤ 140737488351232) (h0 : 0 < s.size) (k : Nat) (hk : 2 * s.size + 6 < k) (hc : ∀ c, c ∈ s.data.toList → isDig c = true) :
    umlautref1_Parse.f k s = some (if valOf 0 s.data.toList ≤ 9223372036854775807 then (((valOf 0 s.data.toList : Nat) : Int), (0 : Int)) else (0, 17)) := by
  obtain ⟨k, rfl⟩ : ∃ m, k = m + 2 := ⟨k - 2, by omega⟩
  have hb : bt s 0 = (s[0].toNat : Int) := bt_nat (i := 0) h0
  have hcd := hc s[0] (by have := drop_at (k := 0) h0; rw [List.drop_zero] at this; rw [this]; exact List.mem_cons_self ..)
  have hcd' : 48 ≤ s[0].toNat ∧ s[0].toNat ≤ 57 := by unfold isDig at hcd; simpa using hcd
  unfold umlautref1_Parse.f
  rw [if_pos (by omega), if_pos (by omega), hb, show (((s[0].toNat : Nat) : Int) == 45) = false from beq_eq_false_iff_ne.mpr (by omega)]
  simp only [umlautref1_Parse.j0, umlautref1_Parse.j1]
  rw [if_neg (by decide)]
  exact parse_scan s hs h0 s.size k 0 (by omega) (by omega) (by omega) hc
end Go.Proofs.YtobhcpfdgfkeiaaDoor.Lp

namespace Go.Proofs.YtobhcpfdgfkeiaaDoor.Lx
open Go.RowKit Go.Proofs.YtobhcpfdgfkeiaaDoorW.PrintWords Go.Proofs.YtobhcpfdgfkeiaaDoorW.PrintLast Go.Proofs.YtobhcpfdgfkeiaaDoorW.PrintMore Go.Proofs.YtobhcpfdgfkeiaaDoor.Lf Go.Proofs.YtobhcpfdgfkeiaaDoor.Ext
attribute [local go_sem] max2_int min2_int max_two min_two max_three min_three max_four min_four   -- for this text's walks alone
set_option linter.unusedVariables false
set_option linter.unusedSimpArgs false

/-! ### umlautref17_isWord: function 23 -/
def umlautref17_isWord.l0 : Nat → ByteArray → List ByteArray → Int → Option (Bool)
  | 0, _, _, _ => none
  | k + 1, x0, x3, x4 => if x4 < (x3.length : Int) then (if 0 ≤ x4 then (if (rdOf ByteArray.empty x3 x4).toList = x0.toList then (some true) else (umlautref17_isWord.l0 k x0 x3 (wrap64 (x4 + 1)))) else (none)) else (some false)
def umlautref17_isWord.f (k : Nat) (a0 : ByteArray) : Option (Bool) := (umlautref17_Words.f).bind fun t190 => (umlautref17_isWord.l0 k a0 t190 0)
theorem umlautref17_isWord.mono_l : ∀ k, (∀ y0 y1 y2, LeO (umlautref17_isWord.l0 k y0 y1 y2) (umlautref17_isWord.l0 (k + 1) y0 y1 y2))
  | 0 => fun _ _ _ r h => by simp [umlautref17_isWord.l0] at h
  | k + 1 => by
    have ih0 := umlautref17_isWord.mono_l k
    · intro y0 y1 y2
      unfold umlautref17_isWord.l0
      repeat' first
      | (with_reducible exact ih0 _ _ _)
      | (with_reducible exact LeO.refl _)
      | (with_reducible exact LeO.none _)
      | (with_reducible refine LeO.ite ?_ ?_)
      | (with_reducible refine LeO.bind ?_ (fun _ => ?_))
      | exact ih0 _ _ _
      | exact LeO.none _
      | refine LeO.ite ?_ ?_
      | refine LeO.bind ?_ (fun _ => ?_)
theorem umlautref17_isWord.mono : ∀ a0 k, LeO (umlautref17_isWord.f k a0) (umlautref17_isWord.f (k + 1) a0) := by
  intro a0 k
  have ih0 := umlautref17_isWord.mono_l k
  unfold umlautref17_isWord.f
  repeat' first
      | (with_reducible exact ih0 _ _ _)
      | (with_reducible exact LeO.refl _)
      | (with_reducible exact LeO.none _)
      | (with_reducible refine LeO.ite ?_ ?_)
      | (with_reducible refine LeO.bind ?_ (fun _ => ?_))
      | exact ih0 _ _ _
      | exact LeO.none _
      | refine LeO.ite ?_ ?_
      | refine LeO.bind ?_ (fun _ => ?_)
set_option maxHeartbeats 8000000 in
set_option maxRecDepth 100000 in
theorem umlautref17_isWord.calls (k : Nat) (a0 : ByteArray) (r : Bool) (w : World) (h : umlautref17_isWord.f k a0 = some r) :
    Calls Tryd.prog 23 #[.string a0] w fun e w' => e = .returned (.bool r) ∧ Below w.heap.size w w' := by
  have HB := Aside0.mk (Below.refl w.heap.size w)
  have H : ((umlautref17_Words.f).bind fun t190 => (umlautref17_isWord.l0 k a0 t190 0)) = some r := h
  clear h
  replace H := Option.bind_eq_some_iff.mp H
  obtain ⟨t190, A20, H⟩ := H
  replace H : (umlautref17_isWord.l0 k a0 t190 0) = some r := H
  have A2 := Aside0.mk A20
  clear A20
  have H' := Aside0.mk H
  clear H
  go_enter Tryd.func23, Tryd.ntmps23
  go_wp2_with (first | ((with_reducible refine gate_callee (f := 39) rfl ?_); refine goesL_ (some 5) rfl rfl Tryd.func39 (by kernel_rfl) rfl #[] rfl (by (try simp only [List.map_toArray, List.map_cons, List.map_nil]); first | done | rfl | (simp only [List.length_drop, List.length_take]; rfl)) ?_; (with_reducible refine (umlautref17_Words.calls  t190 _ A2.out).mono ?_); rintro e w3 ⟨v191, rfl, ho0, hb⟩; refine ⟨_, rfl, ?_⟩; have n0_ := Aside0.mk (Kd.R_lower ho0 (below_size (by repeat (first | (with_reducible first | exact HB.out | apply below_alloc | apply pw_below_drewN | apply below_drew1) | exact HB.out)))); have n1_ := Aside0.mk (below_step (by repeat (first | (with_reducible first | exact HB.out | apply below_alloc | apply pw_below_drewN | apply below_drew1) | exact HB.out)) hb); clear HB; have HO192 := n0_; have HB := n1_; clear n0_ n1_; (try clear hb); (try clear hb2); (try clear hk); (try clear hi); (try clear ho0)))
  go_loopg [4] k (fun kq v4 w' => ∃ (x4_1 : Int), v4 = .int .i64 x4_1 ∧ Aside0 (umlautref17_isWord.l0 kq a0 t190 x4_1 = some r) ∧ Aside0 (kq ≤ k) ∧ Aside0 (Kd.R Kd.string 9 w' w.heap.size (fun _ => True) v191 t190) ∧ Aside0 (Below w.heap.size w w'))
  case atStart => exact ⟨(0), (by first | rfl | (simp; done) | (simp [*]; done)), H', ⟨Nat.le_refl _⟩, ⟨by (with_reducible repeat (first | apply Kd.R_alloc | apply Kd.R_drewN | apply Kd.R_drew)); exact HO192.out⟩, ⟨by repeat (first | (with_reducible first | exact HB.out | apply below_alloc | apply pw_below_drewN | apply below_drew1) | exact HB.out)⟩⟩
  case round =>
    clear H'
    try clear c2
    try clear p2
    try clear c3
    obtain ⟨x4_1, rfl, HA, HK1, HO_3, HB⟩ := hrel
    cases gk with
    | zero => exact absurd HA.out (by simp [umlautref17_isWord.l0])
    | succ k1 =>
      have H := HA.out
      clear HA
      simp only [umlautref17_isWord.l0] at H
      by_cases c4 : x4_1 < (t190.length : Int)
      · rw [if_pos c4] at H
        have c4b0 : decide (x4_1 < (t190.length : Int)) = true := decide_eq_true c4
        clear c4
        by_cases c5 : 0 ≤ x4_1
        · rw [if_pos c5] at H
          have c5b0 : decide (0 ≤ x4_1) = true := decide_eq_true c5
          clear c5
          by_cases c6 : (rdOf ByteArray.empty t190 x4_1).toList = a0.toList
          · rw [if_pos c6] at H
            have c6b0 : ((rdOf ByteArray.empty t190 x4_1).toList == a0.toList) = true := beq_iff_eq.mpr c6
            have c6b1 : ((rdOf ByteArray.empty t190 x4_1).toList != a0.toList) = false := bne_eq_false_iff_eq.mpr c6
            clear c6
            obtain rfl := Option.some.inj H
            obtain ⟨Ao7, co7, eo7⟩ := Kd.R_slice HO_3.out
            subst eo7
            have p193 : 0 ≤ (x4_1 : Int) := of_decide_eq_true (by first | (with_reducible assumption) | assumption)
            have q193 : x4_1 < (t190.length : Int) := of_decide_eq_true (by first | (with_reducible assumption) | assumption)
            obtain ⟨ad193, e193, hx193_0⟩ := Kd.at_string (Kd.R_reads' HO_3.out).2.2 x4_1 p193 q193
            cases e193
            replace p193 := eq_true p193
            replace q193 := eq_true q193
            go_wp2
            go_ret
            exact ⟨by first | rfl | (simp [errW_none, errW_some] <;> rfl) | (simp [*, errW_none, errW_some] <;> rfl), by repeat (first | (with_reducible first | exact HB.out | apply below_alloc | apply pw_below_drewN | apply below_drew1) | exact HB.out)⟩
          · rw [if_neg c6] at H
            have c6b0 : ((rdOf ByteArray.empty t190 x4_1).toList == a0.toList) = false := beq_eq_false_iff_ne.mpr c6
            have c6b1 : ((rdOf ByteArray.empty t190 x4_1).toList != a0.toList) = true := bne_iff_ne.mpr c6
            have H' := Aside0.mk H
            clear H
            obtain ⟨Ao8, co8, eo8⟩ := Kd.R_slice HO_3.out
            subst eo8
            have p193 : 0 ≤ (x4_1 : Int) := of_decide_eq_true (by first | (with_reducible assumption) | assumption)
            have q193 : x4_1 < (t190.length : Int) := of_decide_eq_true (by first | (with_reducible assumption) | assumption)
            obtain ⟨ad193, e193, hx193_0⟩ := Kd.at_string (Kd.R_reads' HO_3.out).2.2 x4_1 p193 q193
            cases e193
            replace p193 := eq_true p193
            replace q193 := eq_true q193
            go_wp2
            go_roundg k1
            case measure => have := HK1.out; omega
            case rel => exact ⟨(wrap64 (x4_1 + 1)), (by first | rfl | (simp; done) | (simp [*]; done)), H', ⟨by have := HK1.out; omega⟩, ⟨by (with_reducible repeat (first | apply Kd.R_alloc | apply Kd.R_drewN | apply Kd.R_drew)); exact HO_3.out⟩, ⟨by repeat (first | (with_reducible first | exact HB.out | apply below_alloc | apply pw_below_drewN | apply below_drew1) | exact HB.out)⟩⟩
        · rw [if_neg c5] at H
          exact absurd H (by simp)
      · rw [if_neg c4] at H
        have c4b0 : decide (x4_1 < (t190.length : Int)) = false := decide_eq_false c4
        clear c4
        obtain rfl := Option.some.inj H
        obtain ⟨Ao9, co9, eo9⟩ := Kd.R_slice HO_3.out
        subst eo9
        go_wp2
        go_ret
        exact ⟨by first | rfl | (simp [errW_none, errW_some] <;> rfl) | (simp [*, errW_none, errW_some] <;> rfl), by repeat (first | (with_reducible first | exact HB.out | apply below_alloc | apply pw_below_drewN | apply below_drew1) | exact HB.out)⟩

-- BY HAND: function 24 (umlautref17_lower)

end Go.Proofs.YtobhcpfdgfkeiaaDoor.Lx

namespace Go.Proofs.YtobhcpfdgfkeiaaDoor.Lx
open Go.RowKit Go.Proofs.YtobhcpfdgfkeiaaDoorW.PrintWords Go.Proofs.YtobhcpfdgfkeiaaDoorW.PrintLast Go.Proofs.YtobhcpfdgfkeiaaDoorW.PrintMore Go.Proofs.YtobhcpfdgfkeiaaDoor.Lf Go.Proofs.YtobhcpfdgfkeiaaDoor.Ext
attribute [local go_sem] max2_int min2_int max_two min_two max_three min_three max_four min_four   -- for this text's walks alone
set_option linter.unusedVariables false
set_option linter.unusedSimpArgs false

/-! ### umlautref17_text: function 25 -/
def umlautref17_text.l0 : Nat → ByteArray → ByteArray → Int → Option (ByteArray × Int × Bool)
  | 0, _, _, _ => none
  | k + 1, x0, x7, x8 => if x8 < (x0.size : Int) then (if 0 ≤ x8 then (if (bt x0 x8) = 39 then (if (wrap64 (x8 + 1)) < (x0.size : Int) then (if 0 ≤ (wrap64 (x8 + 1)) then (if (bt x0 (wrap64 (x8 + 1))) = 39 then (if x7.size + 1 ≤ 9223372036854775807 then (umlautref17_text.l0 k x0 (x7 ++ (⟨#[39]⟩ : ByteArray)) (wrap64 ((wrap64 (x8 + 1)) + 1))) else (none)) else (some (x7, wrap64 (x8 + 1), true))) else (none)) else (some (x7, wrap64 (x8 + 1), true))) else (if x8 ≤ (wrap64 (x8 + 1)) then (if (wrap64 (x8 + 1)) ≤ (x0.size : Int) then (if x7.size + (x0.extract (x8 : Int).toNat ((wrap64 (x8 + 1)) : Int).toNat).size ≤ 9223372036854775807 then (umlautref17_text.l0 k x0 (x7 ++ (x0.extract (x8 : Int).toNat ((wrap64 (x8 + 1)) : Int).toNat)) (wrap64 (x8 + 1))) else (none)) else (none)) else (none))) else (none)) else (some ((⟨#[]⟩ : ByteArray), 0, false))
def umlautref17_text.f (k : Nat) (a0 : ByteArray) (a1 : Int) : Option (ByteArray × Int × Bool) := umlautref17_text.l0 k a0 (⟨#[]⟩ : ByteArray) (wrap64 (a1 + 1))
theorem umlautref17_text.mono_l : ∀ k, (∀ y0 y1 y2, LeO (umlautref17_text.l0 k y0 y1 y2) (umlautref17_text.l0 (k + 1) y0 y1 y2))
  | 0 => fun _ _ _ r h => by simp [umlautref17_text.l0] at h
  | k + 1 => by
    have ih0 := umlautref17_text.mono_l k
    · intro y0 y1 y2
      unfold umlautref17_text.l0
      repeat' first
      | (with_reducible exact ih0 _ _ _)
      | (with_reducible exact LeO.refl _)
      | (with_reducible exact LeO.none _)
      | (with_reducible refine LeO.ite ?_ ?_)
      | (with_reducible refine LeO.bind ?_ (fun _ => ?_))
      | exact ih0 _ _ _
      | exact LeO.none _
      | refine LeO.ite ?_ ?_
      | refine LeO.bind ?_ (fun _ => ?_)
theorem umlautref17_text.mono : ∀ a0 a1 k, LeO (umlautref17_text.f k a0 a1) (umlautref17_text.f (k + 1) a0 a1) := by
  intro a0 a1 k
  have ih0 := umlautref17_text.mono_l k
  unfold umlautref17_text.f
  repeat' first
      | (with_reducible exact ih0 _ _ _)
      | (with_reducible exact LeO.refl _)
      | (with_reducible exact LeO.none _)
      | (with_reducible refine LeO.ite ?_ ?_)
      | (with_reducible refine LeO.bind ?_ (fun _ => ?_))
      | exact ih0 _ _ _
      | exact LeO.none _
      | refine LeO.ite ?_ ?_
      | refine LeO.bind ?_ (fun _ => ?_)
set_option maxHeartbeats 8000000 in
set_option maxRecDepth 100000 in
theorem umlautref17_text.calls (k : Nat) (a0 : ByteArray) (a1 : Int) (r1 : ByteArray) (r2 : Int) (r3 : Bool) (w : World) (h : umlautref17_text.f k a0 a1 = some (r1, r2, r3)) :
    Calls Tryd.prog 25 #[.string a0, .int .i64 a1] w fun e w' => e = .returned (.tuple #[.string r1, .int .i64 r2, .bool r3]) ∧ Drawn0 w w' := by
  have H : (umlautref17_text.l0 k a0 (⟨#[]⟩ : ByteArray) (wrap64 (a1 + 1))) = some (r1, r2, r3) := h
  clear h
  have H' := Aside0.mk H
  clear H
  go_enter Tryd.func25, Tryd.ntmps25
  go_wp2
  go_loopg [7, 8] k (fun kq v7 v8 w' => ∃ (x7_1 : ByteArray) (x8_1 : Int), v7 = .string x7_1 ∧ v8 = .int .i64 x8_1 ∧ Aside0 (umlautref17_text.l0 kq a0 x7_1 x8_1 = some (r1, r2, r3)) ∧ Aside0 (kq ≤ k) ∧ Drawn0 w w')
  case atStart => exact ⟨((⟨#[]⟩ : ByteArray)), (wrap64 (a1 + 1)), (by first | rfl | (simp; done) | (simp [*]; done)), (by first | rfl | (simp; done) | (simp [*]; done)), H', ⟨Nat.le_refl _⟩, by repeat (first | exact Drawn0.refl _ | apply Drawn0.step)⟩
  case round =>
    clear H'
    try clear c2
    try clear p2
    obtain ⟨x7_1, x8_1, rfl, rfl, HA, HK1, ⟨m1, rfl⟩⟩ := hrel
    cases gk with
    | zero => exact absurd HA.out (by simp [umlautref17_text.l0])
    | succ k1 =>
      have H := HA.out
      clear HA
      simp only [umlautref17_text.l0] at H
      by_cases c3 : x8_1 < (a0.size : Int)
      · rw [if_pos c3] at H
        have c3b0 : decide (x8_1 < (a0.size : Int)) = true := decide_eq_true c3
        clear c3
        by_cases c4 : 0 ≤ x8_1
        · rw [if_pos c4] at H
          have c4b0 : decide (0 ≤ x8_1) = true := decide_eq_true c4
          clear c4
          by_cases c6 : (bt a0 x8_1) = 39
          · rw [if_pos c6] at H
            have c6b0 : ((bt a0 x8_1) == 39) = true := beq_iff_eq.mpr c6
            have c6b1 : ((bt a0 x8_1) != 39) = false := bne_eq_false_iff_eq.mpr c6
            clear c6
            by_cases c7 : (wrap64 (x8_1 + 1)) < (a0.size : Int)
            · rw [if_pos c7] at H
              have c7b0 : decide ((wrap64 (x8_1 + 1)) < (a0.size : Int)) = true := decide_eq_true c7
              clear c7
              obtain ⟨ji8, hji8⟩ : ∃ j_ : Int, (wrap64 (x8_1 + 1)) = j_ := ⟨_, rfl⟩
              replace H : (if 0 ≤ (ji8) then (if (bt a0 (ji8)) = 39 then (if x7_1.size + 1 ≤ 9223372036854775807 then (umlautref17_text.l0 k1 a0 (x7_1 ++ (⟨#[39]⟩ : ByteArray)) (wrap64 ((ji8) + 1))) else (none)) else (some (x7_1, ji8, true))) else (none)) = some (r1, r2, r3) := by first | (rw [hji8] at H; exact H) | (simp only [hji8] at H ⊢; exact H)
              (try rw [hji8] at c7b0)
              have hji8w : (IntKind.i64.wrap (x8_1 + 1)) = ji8 := (i64_w _).trans hji8
              by_cases c9 : 0 ≤ (ji8)
              · rw [if_pos c9] at H
                have c9b0 : decide (0 ≤ (ji8)) = true := decide_eq_true c9
                clear c9
                by_cases c11 : (bt a0 (ji8)) = 39
                · rw [if_pos c11] at H
                  have c11b0 : ((bt a0 (ji8)) == 39) = true := beq_iff_eq.mpr c11
                  have c11b1 : ((bt a0 (ji8)) != 39) = false := bne_eq_false_iff_eq.mpr c11
                  clear c11
                  by_cases c12 : x7_1.size + 1 ≤ 9223372036854775807
                  · rw [if_pos c12] at H
                    have c12b0 := eq_true c12
                    have c12b1 : decide (x7_1.size + 1 ≤ 9223372036854775807) = true := decide_eq_true c12
                    try have c12b2 : (9223372036854775807 < x7_1.size + 1) = False := eq_false (Nat.not_lt.2 c12)
                    have H' := Aside0.mk H
                    clear H
                    have p5 : 0 ≤ (x8_1 : Int) := of_decide_eq_true (by first | (with_reducible assumption) | assumption)
                    have q5 : x8_1 < (a0.size : Int) := of_decide_eq_true (by first | (with_reducible assumption) | assumption)
                    have hx5 := bt_at a0 x8_1
                    replace p5 := eq_true p5
                    replace q5 := eq_true q5
                    have p10 : 0 ≤ ((ji8) : Int) := of_decide_eq_true (by first | (with_reducible assumption) | assumption)
                    have q10 : (ji8) < (a0.size : Int) := of_decide_eq_true (by first | (with_reducible assumption) | assumption)
                    have hx10 := bt_at a0 (ji8)
                    replace p10 := eq_true p10
                    replace q10 := eq_true q10
                    go_wp2
                    go_roundg k1
                    case measure => have := HK1.out; omega
                    case rel => exact ⟨(x7_1 ++ (⟨#[39]⟩ : ByteArray)), (wrap64 ((ji8) + 1)), (by first | rfl | (simp; done) | (simp [*]; done)), (by first | rfl | (simp; done) | (simp only [← hji8] <;> (first | rfl | simp)) | (simp [*]; done)), H', ⟨by have := HK1.out; omega⟩, by repeat (first | exact Drawn0.refl _ | apply Drawn0.step)⟩
                  · rw [if_neg c12] at H
                    exact absurd H (by simp)
                · rw [if_neg c11] at H
                  have c11b0 : ((bt a0 (ji8)) == 39) = false := beq_eq_false_iff_ne.mpr c11
                  have c11b1 : ((bt a0 (ji8)) != 39) = true := bne_iff_ne.mpr c11
                  simp only [Option.some.injEq, Prod.mk.injEq] at H
                  obtain ⟨rfl, rfl, rfl⟩ := H
                  have p5 : 0 ≤ (x8_1 : Int) := of_decide_eq_true (by first | (with_reducible assumption) | assumption)
                  have q5 : x8_1 < (a0.size : Int) := of_decide_eq_true (by first | (with_reducible assumption) | assumption)
                  have hx5 := bt_at a0 x8_1
                  replace p5 := eq_true p5
                  replace q5 := eq_true q5
                  have p10 : 0 ≤ ((ji8) : Int) := of_decide_eq_true (by first | (with_reducible assumption) | assumption)
                  have q10 : (ji8) < (a0.size : Int) := of_decide_eq_true (by first | (with_reducible assumption) | assumption)
                  have hx10 := bt_at a0 (ji8)
                  replace p10 := eq_true p10
                  replace q10 := eq_true q10
                  go_wp2
                  go_ret3
                  exact ⟨by first | rfl | (simp; done) | (simp only [← hji8] <;> (first | rfl | simp)) | (simp [*]; done), by repeat (first | exact Drawn0.refl _ | apply Drawn0.step)⟩
              · rw [if_neg c9] at H
                exact absurd H (by simp)
            · rw [if_neg c7] at H
              have c7b0 : decide ((wrap64 (x8_1 + 1)) < (a0.size : Int)) = false := decide_eq_false c7
              clear c7
              simp only [Option.some.injEq, Prod.mk.injEq] at H
              obtain ⟨rfl, rfl, rfl⟩ := H
              have p5 : 0 ≤ (x8_1 : Int) := of_decide_eq_true (by first | (with_reducible assumption) | assumption)
              have q5 : x8_1 < (a0.size : Int) := of_decide_eq_true (by first | (with_reducible assumption) | assumption)
              have hx5 := bt_at a0 x8_1
              replace p5 := eq_true p5
              replace q5 := eq_true q5
              go_wp2
              go_ret3
              exact ⟨by first | rfl | (simp; done) | (simp [*]; done), by repeat (first | exact Drawn0.refl _ | apply Drawn0.step)⟩
          · rw [if_neg c6] at H
            have c6b0 : ((bt a0 x8_1) == 39) = false := beq_eq_false_iff_ne.mpr c6
            have c6b1 : ((bt a0 x8_1) != 39) = true := bne_iff_ne.mpr c6
            have c13b0 := eq_true (of_decide_eq_true (by first | (with_reducible assumption) | assumption) : 0 ≤ x8_1)
            by_cases c14 : x8_1 ≤ (wrap64 (x8_1 + 1))
            · rw [if_pos c14] at H
              have c14b0 := eq_true c14
              have c14b1 : decide (x8_1 ≤ (wrap64 (x8_1 + 1))) = true := decide_eq_true c14
              by_cases c15 : (wrap64 (x8_1 + 1)) ≤ (a0.size : Int)
              · rw [if_pos c15] at H
                have c15b0 := eq_true c15
                have c15b1 : decide ((wrap64 (x8_1 + 1)) ≤ (a0.size : Int)) = true := decide_eq_true c15
                by_cases c16 : x7_1.size + (a0.extract (x8_1 : Int).toNat ((wrap64 (x8_1 + 1)) : Int).toNat).size ≤ 9223372036854775807
                · rw [if_pos c16] at H
                  have c16b0 := eq_true c16
                  have c16b1 : decide (x7_1.size + (a0.extract (x8_1 : Int).toNat ((wrap64 (x8_1 + 1)) : Int).toNat).size ≤ 9223372036854775807) = true := decide_eq_true c16
                  try have c16b2 : (9223372036854775807 < x7_1.size + (a0.extract (x8_1 : Int).toNat ((wrap64 (x8_1 + 1)) : Int).toNat).size) = False := eq_false (Nat.not_lt.2 c16)
                  have H' := Aside0.mk H
                  clear H
                  have p5 : 0 ≤ (x8_1 : Int) := of_decide_eq_true (by first | (with_reducible assumption) | assumption)
                  have q5 : x8_1 < (a0.size : Int) := of_decide_eq_true (by first | (with_reducible assumption) | assumption)
                  have hx5 := bt_at a0 x8_1
                  replace p5 := eq_true p5
                  replace q5 := eq_true q5
                  go_wp2
                  go_roundg k1
                  case measure => have := HK1.out; omega
                  case rel => exact ⟨(x7_1 ++ (a0.extract (x8_1 : Int).toNat ((wrap64 (x8_1 + 1)) : Int).toNat)), (wrap64 (x8_1 + 1)), (by first | rfl | (simp; done) | (simp [*]; done)), (by first | rfl | (simp; done) | (simp [*]; done)), H', ⟨by have := HK1.out; omega⟩, by repeat (first | exact Drawn0.refl _ | apply Drawn0.step)⟩
                · rw [if_neg c16] at H
                  exact absurd H (by simp)
              · rw [if_neg c15] at H
                exact absurd H (by simp)
            · rw [if_neg c14] at H
              exact absurd H (by simp)
        · rw [if_neg c4] at H
          exact absurd H (by simp)
      · rw [if_neg c3] at H
        have c3b0 : decide (x8_1 < (a0.size : Int)) = false := decide_eq_false c3
        clear c3
        simp only [Option.some.injEq, Prod.mk.injEq] at H
        obtain ⟨rfl, rfl, rfl⟩ := H
        go_wp2
        go_ret3
        exact ⟨by first | rfl | (simp; done) | (simp [*]; done), by repeat (first | exact Drawn0.refl _ | apply Drawn0.step)⟩

end Go.Proofs.YtobhcpfdgfkeiaaDoor.Lx

namespace Go.Proofs.YtobhcpfdgfkeiaaDoor.Lx
open Go.RowKit Go.Proofs.YtobhcpfdgfkeiaaDoorW.PrintWords Go.Proofs.YtobhcpfdgfkeiaaDoorW.PrintLast Go.Proofs.YtobhcpfdgfkeiaaDoorW.PrintMore Go.Proofs.YtobhcpfdgfkeiaaDoor.Lf Go.Proofs.YtobhcpfdgfkeiaaDoor.Ext
attribute [local go_sem] max2_int min2_int max_two min_two max_three min_three max_four min_four   -- for this text's walks alone
set_option linter.unusedVariables false
set_option linter.unusedSimpArgs false

/-! ### umlautref17_op: function 26 -/
def umlautref17_op.j0 : Nat → ByteArray → Option (ByteArray)
  | 0, _ => none
  | k + 1, x0 => if 0 < (x0.size : Int) then (if (bt x0 0) = 40 then (if 0 ≤ 1 then (if 1 ≤ (x0.size : Int) then (some (x0.extract 0 1)) else (none)) else (none)) else (if (bt x0 0) = 41 then (if 0 ≤ 1 then (if 1 ≤ (x0.size : Int) then (some (x0.extract 0 1)) else (none)) else (none)) else (if (bt x0 0) = 44 then (if 0 ≤ 1 then (if 1 ≤ (x0.size : Int) then (some (x0.extract 0 1)) else (none)) else (none)) else (if (bt x0 0) = 46 then (if 0 ≤ 1 then (if 1 ≤ (x0.size : Int) then (some (x0.extract 0 1)) else (none)) else (none)) else (if (bt x0 0) = 59 then (if 0 ≤ 1 then (if 1 ≤ (x0.size : Int) then (some (x0.extract 0 1)) else (none)) else (none)) else (if (bt x0 0) = 42 then (if 0 ≤ 1 then (if 1 ≤ (x0.size : Int) then (some (x0.extract 0 1)) else (none)) else (none)) else (if (bt x0 0) = 61 then (if 0 ≤ 1 then (if 1 ≤ (x0.size : Int) then (some (x0.extract 0 1)) else (none)) else (none)) else (if (bt x0 0) = 60 then (if 0 ≤ 1 then (if 1 ≤ (x0.size : Int) then (some (x0.extract 0 1)) else (none)) else (none)) else (if (bt x0 0) = 62 then (if 0 ≤ 1 then (if 1 ≤ (x0.size : Int) then (some (x0.extract 0 1)) else (none)) else (none)) else (if (bt x0 0) = 43 then (if 0 ≤ 1 then (if 1 ≤ (x0.size : Int) then (some (x0.extract 0 1)) else (none)) else (none)) else (if (bt x0 0) = 45 then (if 0 ≤ 1 then (if 1 ≤ (x0.size : Int) then (some (x0.extract 0 1)) else (none)) else (none)) else (if (bt x0 0) = 47 then (if 0 ≤ 1 then (if 1 ≤ (x0.size : Int) then (some (x0.extract 0 1)) else (none)) else (none)) else (if (bt x0 0) = 37 then (if 0 ≤ 1 then (if 1 ≤ (x0.size : Int) then (some (x0.extract 0 1)) else (none)) else (none)) else (if (bt x0 0) = 38 then (if 0 ≤ 1 then (if 1 ≤ (x0.size : Int) then (some (x0.extract 0 1)) else (none)) else (none)) else (if (bt x0 0) = 124 then (if 0 ≤ 1 then (if 1 ≤ (x0.size : Int) then (some (x0.extract 0 1)) else (none)) else (none)) else (if (bt x0 0) = 94 then (if 0 ≤ 1 then (if 1 ≤ (x0.size : Int) then (some (x0.extract 0 1)) else (none)) else (none)) else (some (⟨#[]⟩ : ByteArray)))))))))))))))))) else (none)
def umlautref17_op.f (k : Nat) (a0 : ByteArray) : Option (ByteArray) := if (a0.size : Int) ≥ 2 then (if 0 ≤ 2 then (if 2 ≤ (a0.size : Int) then (if (a0.extract 0 2).toList = ([60, 62] : List UInt8) then (some (a0.extract 0 2)) else (if (a0.extract 0 2).toList = ([60, 61] : List UInt8) then (some (a0.extract 0 2)) else (if (a0.extract 0 2).toList = ([62, 61] : List UInt8) then (some (a0.extract 0 2)) else (if (a0.extract 0 2).toList = ([60, 60] : List UInt8) then (some (a0.extract 0 2)) else (if (a0.extract 0 2).toList = ([62, 62] : List UInt8) then (some (a0.extract 0 2)) else (if (a0.extract 0 2).toList = ([124, 124] : List UInt8) then (some (a0.extract 0 2)) else (umlautref17_op.j0 k a0))))))) else (none)) else (none)) else (umlautref17_op.j0 k a0)
theorem umlautref17_op.mono_l : ∀ k, (∀ y0, LeO (umlautref17_op.j0 k y0) (umlautref17_op.j0 (k + 1) y0))
  | 0 => fun _ r h => by simp [umlautref17_op.j0] at h
  | k + 1 => by
    have ih0 := umlautref17_op.mono_l k
    · intro y0
      unfold umlautref17_op.j0
      repeat' first
      | (with_reducible exact ih0 _)
      | (with_reducible exact LeO.refl _)
      | (with_reducible exact LeO.none _)
      | (with_reducible refine LeO.ite ?_ ?_)
      | (with_reducible refine LeO.bind ?_ (fun _ => ?_))
      | exact ih0 _
      | exact LeO.none _
      | refine LeO.ite ?_ ?_
      | refine LeO.bind ?_ (fun _ => ?_)
theorem umlautref17_op.mono : ∀ a0 k, LeO (umlautref17_op.f k a0) (umlautref17_op.f (k + 1) a0) := by
  intro a0 k
  have ih0 := umlautref17_op.mono_l k
  unfold umlautref17_op.f
  repeat' first
      | (with_reducible exact ih0 _)
      | (with_reducible exact LeO.refl _)
      | (with_reducible exact LeO.none _)
      | (with_reducible refine LeO.ite ?_ ?_)
      | (with_reducible refine LeO.bind ?_ (fun _ => ?_))
      | exact ih0 _
      | exact LeO.none _
      | refine LeO.ite ?_ ?_
      | refine LeO.bind ?_ (fun _ => ?_)
set_option maxHeartbeats 8000000 in
set_option maxRecDepth 100000 in
theorem umlautref17_op.calls (k : Nat) (a0 : ByteArray) (r : ByteArray) (w : World) (h : umlautref17_op.f k a0 = some r) :
    Calls Tryd.prog 26 #[.string a0] w fun e w' => e = .returned (.string r) ∧ Drawn0 w w' := by
  have H : (if (a0.size : Int) ≥ 2 then (if 0 ≤ 2 then (if 2 ≤ (a0.size : Int) then (if (a0.extract 0 2).toList = ([60, 62] : List UInt8) then (some (a0.extract 0 2)) else (if (a0.extract 0 2).toList = ([60, 61] : List UInt8) then (some (a0.extract 0 2)) else (if (a0.extract 0 2).toList = ([62, 61] : List UInt8) then (some (a0.extract 0 2)) else (if (a0.extract 0 2).toList = ([60, 60] : List UInt8) then (some (a0.extract 0 2)) else (if (a0.extract 0 2).toList = ([62, 62] : List UInt8) then (some (a0.extract 0 2)) else (if (a0.extract 0 2).toList = ([124, 124] : List UInt8) then (some (a0.extract 0 2)) else (umlautref17_op.j0 k a0))))))) else (none)) else (none)) else (umlautref17_op.j0 k a0)) = some r := h
  clear h
  have HC2 := Aside0.mk H
  clear H
  go_enter Tryd.func26, Tryd.ntmps26
  go_upto_if 5 with (fail)
  go_cut [] (fun wc => ∃ (kq : Nat), Aside0 (umlautref17_op.j0 kq a0 = some r) ∧ Aside0 (kq ≤ k) ∧ Drawn0 w wc)
  case first =>
    have H := HC2.out
    clear HC2
    by_cases c3 : (a0.size : Int) ≥ 2
    · rw [if_pos c3] at H
      have c3b0 : decide (2 ≤ (a0.size : Int)) = true := decide_eq_true c3
      have c3b1 : decide (2 ≤ a0.size) = true := decide_eq_true (by omega)
      clear c3
      (first | rw [c3b0] | (simp only [i64_w, i32_w]; rw [c3b0]) | skip)
      by_cases c4 : 0 ≤ 2
      · rw [if_pos c4] at H
        have c4b0 := eq_true c4
        have c4b1 : decide (0 ≤ 2) = true := decide_eq_true c4
        clear c4
        by_cases c5 : 2 ≤ (a0.size : Int)
        · rw [if_pos c5] at H
          have c5b0 := eq_true c5
          have c5b1 : decide (2 ≤ (a0.size : Int)) = true := decide_eq_true c5
          clear c5
          by_cases c6 : (a0.extract 0 2).toList = ([60, 62] : List UInt8)
          · rw [if_pos c6] at H
            have c6b0 : ((a0.extract 0 2).toList == ([60, 62] : List UInt8)) = true := beq_iff_eq.mpr c6
            have c6b1 : ((a0.extract 0 2).toList != ([60, 62] : List UInt8)) = false := bne_eq_false_iff_eq.mpr c6
            clear c6
            have c7b0 := eq_true (of_decide_eq_true (by first | (with_reducible assumption) | assumption) : 0 ≤ 2)
            have c8b0 := eq_true (of_decide_eq_true (by first | (with_reducible assumption) | assumption) : 2 ≤ (a0.size : Int))
            obtain rfl := Option.some.inj H
            go_wp2
            go_ret
            exact ⟨by first | rfl | (simp; done) | (simp [*]; done), by repeat (first | exact Drawn0.refl _ | apply Drawn0.step)⟩
          · rw [if_neg c6] at H
            have c6b0 : ((a0.extract 0 2).toList == ([60, 62] : List UInt8)) = false := beq_eq_false_iff_ne.mpr c6
            have c6b1 : ((a0.extract 0 2).toList != ([60, 62] : List UInt8)) = true := bne_iff_ne.mpr c6
            by_cases c9 : (a0.extract 0 2).toList = ([60, 61] : List UInt8)
            · rw [if_pos c9] at H
              have c9b0 : ((a0.extract 0 2).toList == ([60, 61] : List UInt8)) = true := beq_iff_eq.mpr c9
              have c9b1 : ((a0.extract 0 2).toList != ([60, 61] : List UInt8)) = false := bne_eq_false_iff_eq.mpr c9
              clear c9
              have c10b0 := eq_true (of_decide_eq_true (by first | (with_reducible assumption) | assumption) : 0 ≤ 2)
              have c11b0 := eq_true (of_decide_eq_true (by first | (with_reducible assumption) | assumption) : 2 ≤ (a0.size : Int))
              obtain rfl := Option.some.inj H
              go_wp2
              go_ret
              exact ⟨by first | rfl | (simp; done) | (simp [*]; done), by repeat (first | exact Drawn0.refl _ | apply Drawn0.step)⟩
            · rw [if_neg c9] at H
              have c9b0 : ((a0.extract 0 2).toList == ([60, 61] : List UInt8)) = false := beq_eq_false_iff_ne.mpr c9
              have c9b1 : ((a0.extract 0 2).toList != ([60, 61] : List UInt8)) = true := bne_iff_ne.mpr c9
              by_cases c12 : (a0.extract 0 2).toList = ([62, 61] : List UInt8)
              · rw [if_pos c12] at H
                have c12b0 : ((a0.extract 0 2).toList == ([62, 61] : List UInt8)) = true := beq_iff_eq.mpr c12
                have c12b1 : ((a0.extract 0 2).toList != ([62, 61] : List UInt8)) = false := bne_eq_false_iff_eq.mpr c12
                clear c12
                have c13b0 := eq_true (of_decide_eq_true (by first | (with_reducible assumption) | assumption) : 0 ≤ 2)
                have c14b0 := eq_true (of_decide_eq_true (by first | (with_reducible assumption) | assumption) : 2 ≤ (a0.size : Int))
                obtain rfl := Option.some.inj H
                go_wp2
                go_ret
                exact ⟨by first | rfl | (simp; done) | (simp [*]; done), by repeat (first | exact Drawn0.refl _ | apply Drawn0.step)⟩
              · rw [if_neg c12] at H
                have c12b0 : ((a0.extract 0 2).toList == ([62, 61] : List UInt8)) = false := beq_eq_false_iff_ne.mpr c12
                have c12b1 : ((a0.extract 0 2).toList != ([62, 61] : List UInt8)) = true := bne_iff_ne.mpr c12
                by_cases c15 : (a0.extract 0 2).toList = ([60, 60] : List UInt8)
                · rw [if_pos c15] at H
                  have c15b0 : ((a0.extract 0 2).toList == ([60, 60] : List UInt8)) = true := beq_iff_eq.mpr c15
                  have c15b1 : ((a0.extract 0 2).toList != ([60, 60] : List UInt8)) = false := bne_eq_false_iff_eq.mpr c15
                  clear c15
                  have c16b0 := eq_true (of_decide_eq_true (by first | (with_reducible assumption) | assumption) : 0 ≤ 2)
                  have c17b0 := eq_true (of_decide_eq_true (by first | (with_reducible assumption) | assumption) : 2 ≤ (a0.size : Int))
                  obtain rfl := Option.some.inj H
                  go_wp2
                  go_ret
                  exact ⟨by first | rfl | (simp; done) | (simp [*]; done), by repeat (first | exact Drawn0.refl _ | apply Drawn0.step)⟩
                · rw [if_neg c15] at H
                  have c15b0 : ((a0.extract 0 2).toList == ([60, 60] : List UInt8)) = false := beq_eq_false_iff_ne.mpr c15
                  have c15b1 : ((a0.extract 0 2).toList != ([60, 60] : List UInt8)) = true := bne_iff_ne.mpr c15
                  by_cases c18 : (a0.extract 0 2).toList = ([62, 62] : List UInt8)
                  · rw [if_pos c18] at H
                    have c18b0 : ((a0.extract 0 2).toList == ([62, 62] : List UInt8)) = true := beq_iff_eq.mpr c18
                    have c18b1 : ((a0.extract 0 2).toList != ([62, 62] : List UInt8)) = false := bne_eq_false_iff_eq.mpr c18
                    clear c18
                    have c19b0 := eq_true (of_decide_eq_true (by first | (with_reducible assumption) | assumption) : 0 ≤ 2)
                    have c20b0 := eq_true (of_decide_eq_true (by first | (with_reducible assumption) | assumption) : 2 ≤ (a0.size : Int))
                    obtain rfl := Option.some.inj H
                    go_wp2
                    go_ret
                    exact ⟨by first | rfl | (simp; done) | (simp [*]; done), by repeat (first | exact Drawn0.refl _ | apply Drawn0.step)⟩
                  · rw [if_neg c18] at H
                    have c18b0 : ((a0.extract 0 2).toList == ([62, 62] : List UInt8)) = false := beq_eq_false_iff_ne.mpr c18
                    have c18b1 : ((a0.extract 0 2).toList != ([62, 62] : List UInt8)) = true := bne_iff_ne.mpr c18
                    by_cases c21 : (a0.extract 0 2).toList = ([124, 124] : List UInt8)
                    · rw [if_pos c21] at H
                      have c21b0 : ((a0.extract 0 2).toList == ([124, 124] : List UInt8)) = true := beq_iff_eq.mpr c21
                      have c21b1 : ((a0.extract 0 2).toList != ([124, 124] : List UInt8)) = false := bne_eq_false_iff_eq.mpr c21
                      clear c21
                      have c22b0 := eq_true (of_decide_eq_true (by first | (with_reducible assumption) | assumption) : 0 ≤ 2)
                      have c23b0 := eq_true (of_decide_eq_true (by first | (with_reducible assumption) | assumption) : 2 ≤ (a0.size : Int))
                      obtain rfl := Option.some.inj H
                      go_wp2
                      go_ret
                      exact ⟨by first | rfl | (simp; done) | (simp [*]; done), by repeat (first | exact Drawn0.refl _ | apply Drawn0.step)⟩
                    · rw [if_neg c21] at H
                      have c21b0 : ((a0.extract 0 2).toList == ([124, 124] : List UInt8)) = false := beq_eq_false_iff_ne.mpr c21
                      have c21b1 : ((a0.extract 0 2).toList != ([124, 124] : List UInt8)) = true := bne_iff_ne.mpr c21
                      have H' := Aside0.mk H
                      clear H
                      go_wp2
                      go_meet
                      case rel => exact ⟨_, H', ⟨by first | omega | exact Nat.le_refl _⟩, by repeat (first | exact Drawn0.refl _ | apply Drawn0.step)⟩
        · rw [if_neg c5] at H
          exact absurd H (by simp)
      · rw [if_neg c4] at H
        exact absurd H (by simp)
    · rw [if_neg c3] at H
      have c3b0 : decide (2 ≤ (a0.size : Int)) = false := decide_eq_false c3
      have c3b1 : decide (2 ≤ a0.size) = false := decide_eq_false (by omega)
      clear c3
      (first | rw [c3b0] | (simp only [i64_w, i32_w]; rw [c3b0]) | skip)
      have H' := Aside0.mk H
      clear H
      go_wp2
      go_meet
      case rel => exact ⟨_, H', ⟨by first | omega | exact Nat.le_refl _⟩, by repeat (first | exact Drawn0.refl _ | apply Drawn0.step)⟩
  case rest =>
    clear HC2
    try clear c1
    try clear c2
    try clear p2
    try clear c3
    try clear c3b0
    try clear c3b1
    try clear c4
    try clear c4b0
    try clear c4b1
    try clear c5
    try clear c5b0
    try clear c5b1
    try clear c6
    try clear c6b0
    try clear c6b1
    try clear c7
    try clear c7b0
    try clear c8
    try clear c8b0
    try clear c9
    try clear c9b0
    try clear c9b1
    try clear c10
    try clear c10b0
    try clear c11
    try clear c11b0
    try clear c12
    try clear c12b0
    try clear c12b1
    try clear c13
    try clear c13b0
    try clear c14
    try clear c14b0
    try clear c15
    try clear c15b0
    try clear c15b1
    try clear c16
    try clear c16b0
    try clear c17
    try clear c17b0
    try clear c18
    try clear c18b0
    try clear c18b1
    try clear c19
    try clear c19b0
    try clear c20
    try clear c20b0
    try clear c21
    try clear c21b0
    try clear c21b1
    try clear c22
    try clear c22b0
    try clear c23
    try clear c23b0
    obtain ⟨kq, HA, HJ1, ⟨mc1, rfl⟩⟩ := hcut
    cases kq with
    | zero => exact absurd HA.out (by simp [umlautref17_op.j0])
    | succ kj1 =>
      have H := HA.out
      clear HA
      simp only [umlautref17_op.j0] at H
      by_cases c24 : 0 < (a0.size : Int)
      · rw [if_pos c24] at H
        have c24b0 : decide (0 < (a0.size : Int)) = true := decide_eq_true c24
        have c24b1 : decide (0 < a0.size) = true := decide_eq_true (by omega)
        clear c24
        by_cases c26 : (bt a0 0) = 40
        · rw [if_pos c26] at H
          have c26b0 : ((bt a0 0) == 40) = true := beq_iff_eq.mpr c26
          have c26b1 : ((bt a0 0) != 40) = false := bne_eq_false_iff_eq.mpr c26
          clear c26
          by_cases c27 : 0 ≤ 1
          · rw [if_pos c27] at H
            have c27b0 := eq_true c27
            have c27b1 : decide (0 ≤ 1) = true := decide_eq_true c27
            clear c27
            by_cases c28 : 1 ≤ (a0.size : Int)
            · rw [if_pos c28] at H
              have c28b0 := eq_true c28
              have c28b1 : decide (1 ≤ (a0.size : Int)) = true := decide_eq_true c28
              clear c28
              obtain rfl := Option.some.inj H
              have p25 : 0 ≤ (0 : Int) := (by omega)
              have q25 : 0 < a0.size := (by have : (0 : Int) < (a0.size : Int) := of_decide_eq_true (by first | (with_reducible assumption) | assumption); omega)
              have hx25 : ∀ h : 0 < a0.size, ((a0[0]'h).toNat : Int) = bt a0 0 := bt_at a0 0
              clear p25
              have qi25 : (0 < (a0.size : Int)) = True := eq_true (of_decide_eq_true (by first | (with_reducible assumption) | assumption))
              replace q25 := eq_true q25
              go_wp2
              go_ret
              exact ⟨by first | rfl | (simp; done) | (simp [*]; done), by repeat (first | exact Drawn0.refl _ | apply Drawn0.step)⟩
            · rw [if_neg c28] at H
              exact absurd H (by simp)
          · rw [if_neg c27] at H
            exact absurd H (by simp)
        · rw [if_neg c26] at H
          have c26b0 : ((bt a0 0) == 40) = false := beq_eq_false_iff_ne.mpr c26
          have c26b1 : ((bt a0 0) != 40) = true := bne_iff_ne.mpr c26
          by_cases c29 : (bt a0 0) = 41
          · rw [if_pos c29] at H
            have c29b0 : ((bt a0 0) == 41) = true := beq_iff_eq.mpr c29
            have c29b1 : ((bt a0 0) != 41) = false := bne_eq_false_iff_eq.mpr c29
            clear c29
            by_cases c30 : 0 ≤ 1
            · rw [if_pos c30] at H
              have c30b0 := eq_true c30
              have c30b1 : decide (0 ≤ 1) = true := decide_eq_true c30
              clear c30
              by_cases c31 : 1 ≤ (a0.size : Int)
              · rw [if_pos c31] at H
                have c31b0 := eq_true c31
                have c31b1 : decide (1 ≤ (a0.size : Int)) = true := decide_eq_true c31
                clear c31
                obtain rfl := Option.some.inj H
                have p25 : 0 ≤ (0 : Int) := (by omega)
                have q25 : 0 < a0.size := (by have : (0 : Int) < (a0.size : Int) := of_decide_eq_true (by first | (with_reducible assumption) | assumption); omega)
                have hx25 : ∀ h : 0 < a0.size, ((a0[0]'h).toNat : Int) = bt a0 0 := bt_at a0 0
                clear p25
                have qi25 : (0 < (a0.size : Int)) = True := eq_true (of_decide_eq_true (by first | (with_reducible assumption) | assumption))
                replace q25 := eq_true q25
                go_wp2
                go_ret
                exact ⟨by first | rfl | (simp; done) | (simp [*]; done), by repeat (first | exact Drawn0.refl _ | apply Drawn0.step)⟩
              · rw [if_neg c31] at H
                exact absurd H (by simp)
            · rw [if_neg c30] at H
              exact absurd H (by simp)
          · rw [if_neg c29] at H
            have c29b0 : ((bt a0 0) == 41) = false := beq_eq_false_iff_ne.mpr c29
            have c29b1 : ((bt a0 0) != 41) = true := bne_iff_ne.mpr c29
            by_cases c32 : (bt a0 0) = 44
            · rw [if_pos c32] at H
              have c32b0 : ((bt a0 0) == 44) = true := beq_iff_eq.mpr c32
              have c32b1 : ((bt a0 0) != 44) = false := bne_eq_false_iff_eq.mpr c32
              clear c32
              by_cases c33 : 0 ≤ 1
              · rw [if_pos c33] at H
                have c33b0 := eq_true c33
                have c33b1 : decide (0 ≤ 1) = true := decide_eq_true c33
                clear c33
                by_cases c34 : 1 ≤ (a0.size : Int)
                · rw [if_pos c34] at H
                  have c34b0 := eq_true c34
                  have c34b1 : decide (1 ≤ (a0.size : Int)) = true := decide_eq_true c34
                  clear c34
                  obtain rfl := Option.some.inj H
                  have p25 : 0 ≤ (0 : Int) := (by omega)
                  have q25 : 0 < a0.size := (by have : (0 : Int) < (a0.size : Int) := of_decide_eq_true (by first | (with_reducible assumption) | assumption); omega)
                  have hx25 : ∀ h : 0 < a0.size, ((a0[0]'h).toNat : Int) = bt a0 0 := bt_at a0 0
                  clear p25
                  have qi25 : (0 < (a0.size : Int)) = True := eq_true (of_decide_eq_true (by first | (with_reducible assumption) | assumption))
                  replace q25 := eq_true q25
                  go_wp2
                  go_ret
                  exact ⟨by first | rfl | (simp; done) | (simp [*]; done), by repeat (first | exact Drawn0.refl _ | apply Drawn0.step)⟩
                · rw [if_neg c34] at H
                  exact absurd H (by simp)
              · rw [if_neg c33] at H
                exact absurd H (by simp)
            · rw [if_neg c32] at H
              have c32b0 : ((bt a0 0) == 44) = false := beq_eq_false_iff_ne.mpr c32
              have c32b1 : ((bt a0 0) != 44) = true := bne_iff_ne.mpr c32
              by_cases c35 : (bt a0 0) = 46
              · rw [if_pos c35] at H
                have c35b0 : ((bt a0 0) == 46) = true := beq_iff_eq.mpr c35
                have c35b1 : ((bt a0 0) != 46) = false := bne_eq_false_iff_eq.mpr c35
                clear c35
                by_cases c36 : 0 ≤ 1
                · rw [if_pos c36] at H
                  have c36b0 := eq_true c36
                  have c36b1 : decide (0 ≤ 1) = true := decide_eq_true c36
                  clear c36
                  by_cases c37 : 1 ≤ (a0.size : Int)
                  · rw [if_pos c37] at H
                    have c37b0 := eq_true c37
                    have c37b1 : decide (1 ≤ (a0.size : Int)) = true := decide_eq_true c37
                    clear c37
                    obtain rfl := Option.some.inj H
                    have p25 : 0 ≤ (0 : Int) := (by omega)
                    have q25 : 0 < a0.size := (by have : (0 : Int) < (a0.size : Int) := of_decide_eq_true (by first | (with_reducible assumption) | assumption); omega)
                    have hx25 : ∀ h : 0 < a0.size, ((a0[0]'h).toNat : Int) = bt a0 0 := bt_at a0 0
                    clear p25
                    have qi25 : (0 < (a0.size : Int)) = True := eq_true (of_decide_eq_true (by first | (with_reducible assumption) | assumption))
                    replace q25 := eq_true q25
                    go_wp2
                    go_ret
                    exact ⟨by first | rfl | (simp; done) | (simp [*]; done), by repeat (first | exact Drawn0.refl _ | apply Drawn0.step)⟩
                  · rw [if_neg c37] at H
                    exact absurd H (by simp)
                · rw [if_neg c36] at H
                  exact absurd H (by simp)
              · rw [if_neg c35] at H
                have c35b0 : ((bt a0 0) == 46) = false := beq_eq_false_iff_ne.mpr c35
                have c35b1 : ((bt a0 0) != 46) = true := bne_iff_ne.mpr c35
                by_cases c38 : (bt a0 0) = 59
                · rw [if_pos c38] at H
                  have c38b0 : ((bt a0 0) == 59) = true := beq_iff_eq.mpr c38
                  have c38b1 : ((bt a0 0) != 59) = false := bne_eq_false_iff_eq.mpr c38
                  clear c38
                  by_cases c39 : 0 ≤ 1
                  · rw [if_pos c39] at H
                    have c39b0 := eq_true c39
                    have c39b1 : decide (0 ≤ 1) = true := decide_eq_true c39
                    clear c39
                    by_cases c40 : 1 ≤ (a0.size : Int)
                    · rw [if_pos c40] at H
                      have c40b0 := eq_true c40
                      have c40b1 : decide (1 ≤ (a0.size : Int)) = true := decide_eq_true c40
                      clear c40
                      obtain rfl := Option.some.inj H
                      have p25 : 0 ≤ (0 : Int) := (by omega)
                      have q25 : 0 < a0.size := (by have : (0 : Int) < (a0.size : Int) := of_decide_eq_true (by first | (with_reducible assumption) | assumption); omega)
                      have hx25 : ∀ h : 0 < a0.size, ((a0[0]'h).toNat : Int) = bt a0 0 := bt_at a0 0
                      clear p25
                      have qi25 : (0 < (a0.size : Int)) = True := eq_true (of_decide_eq_true (by first | (with_reducible assumption) | assumption))
                      replace q25 := eq_true q25
                      go_wp2
                      go_ret
                      exact ⟨by first | rfl | (simp; done) | (simp [*]; done), by repeat (first | exact Drawn0.refl _ | apply Drawn0.step)⟩
                    · rw [if_neg c40] at H
                      exact absurd H (by simp)
                  · rw [if_neg c39] at H
                    exact absurd H (by simp)
                · rw [if_neg c38] at H
                  have c38b0 : ((bt a0 0) == 59) = false := beq_eq_false_iff_ne.mpr c38
                  have c38b1 : ((bt a0 0) != 59) = true := bne_iff_ne.mpr c38
                  by_cases c41 : (bt a0 0) = 42
                  · rw [if_pos c41] at H
                    have c41b0 : ((bt a0 0) == 42) = true := beq_iff_eq.mpr c41
                    have c41b1 : ((bt a0 0) != 42) = false := bne_eq_false_iff_eq.mpr c41
                    clear c41
                    by_cases c42 : 0 ≤ 1
                    · rw [if_pos c42] at H
                      have c42b0 := eq_true c42
                      have c42b1 : decide (0 ≤ 1) = true := decide_eq_true c42
                      clear c42
                      by_cases c43 : 1 ≤ (a0.size : Int)
                      · rw [if_pos c43] at H
                        have c43b0 := eq_true c43
                        have c43b1 : decide (1 ≤ (a0.size : Int)) = true := decide_eq_true c43
                        clear c43
                        obtain rfl := Option.some.inj H
                        have p25 : 0 ≤ (0 : Int) := (by omega)
                        have q25 : 0 < a0.size := (by have : (0 : Int) < (a0.size : Int) := of_decide_eq_true (by first | (with_reducible assumption) | assumption); omega)
                        have hx25 : ∀ h : 0 < a0.size, ((a0[0]'h).toNat : Int) = bt a0 0 := bt_at a0 0
                        clear p25
                        have qi25 : (0 < (a0.size : Int)) = True := eq_true (of_decide_eq_true (by first | (with_reducible assumption) | assumption))
                        replace q25 := eq_true q25
                        go_wp2
                        go_ret
                        exact ⟨by first | rfl | (simp; done) | (simp [*]; done), by repeat (first | exact Drawn0.refl _ | apply Drawn0.step)⟩
                      · rw [if_neg c43] at H
                        exact absurd H (by simp)
                    · rw [if_neg c42] at H
                      exact absurd H (by simp)
                  · rw [if_neg c41] at H
                    have c41b0 : ((bt a0 0) == 42) = false := beq_eq_false_iff_ne.mpr c41
                    have c41b1 : ((bt a0 0) != 42) = true := bne_iff_ne.mpr c41
                    by_cases c44 : (bt a0 0) = 61
                    · rw [if_pos c44] at H
                      have c44b0 : ((bt a0 0) == 61) = true := beq_iff_eq.mpr c44
                      have c44b1 : ((bt a0 0) != 61) = false := bne_eq_false_iff_eq.mpr c44
                      clear c44
                      by_cases c45 : 0 ≤ 1
                      · rw [if_pos c45] at H
                        have c45b0 := eq_true c45
                        have c45b1 : decide (0 ≤ 1) = true := decide_eq_true c45
                        clear c45
                        by_cases c46 : 1 ≤ (a0.size : Int)
                        · rw [if_pos c46] at H
                          have c46b0 := eq_true c46
                          have c46b1 : decide (1 ≤ (a0.size : Int)) = true := decide_eq_true c46
                          clear c46
                          obtain rfl := Option.some.inj H
                          have p25 : 0 ≤ (0 : Int) := (by omega)
                          have q25 : 0 < a0.size := (by have : (0 : Int) < (a0.size : Int) := of_decide_eq_true (by first | (with_reducible assumption) | assumption); omega)
                          have hx25 : ∀ h : 0 < a0.size, ((a0[0]'h).toNat : Int) = bt a0 0 := bt_at a0 0
                          clear p25
                          have qi25 : (0 < (a0.size : Int)) = True := eq_true (of_decide_eq_true (by first | (with_reducible assumption) | assumption))
                          replace q25 := eq_true q25
                          go_wp2
                          go_ret
                          exact ⟨by first | rfl | (simp; done) | (simp [*]; done), by repeat (first | exact Drawn0.refl _ | apply Drawn0.step)⟩
                        · rw [if_neg c46] at H
                          exact absurd H (by simp)
                      · rw [if_neg c45] at H
                        exact absurd H (by simp)
                    · rw [if_neg c44] at H
                      have c44b0 : ((bt a0 0) == 61) = false := beq_eq_false_iff_ne.mpr c44
                      have c44b1 : ((bt a0 0) != 61) = true := bne_iff_ne.mpr c44
                      by_cases c47 : (bt a0 0) = 60
                      · rw [if_pos c47] at H
                        have c47b0 : ((bt a0 0) == 60) = true := beq_iff_eq.mpr c47
                        have c47b1 : ((bt a0 0) != 60) = false := bne_eq_false_iff_eq.mpr c47
                        clear c47
                        by_cases c48 : 0 ≤ 1
                        · rw [if_pos c48] at H
                          have c48b0 := eq_true c48
                          have c48b1 : decide (0 ≤ 1) = true := decide_eq_true c48
                          clear c48
                          by_cases c49 : 1 ≤ (a0.size : Int)
                          · rw [if_pos c49] at H
                            have c49b0 := eq_true c49
                            have c49b1 : decide (1 ≤ (a0.size : Int)) = true := decide_eq_true c49
                            clear c49
                            obtain rfl := Option.some.inj H
                            have p25 : 0 ≤ (0 : Int) := (by omega)
                            have q25 : 0 < a0.size := (by have : (0 : Int) < (a0.size : Int) := of_decide_eq_true (by first | (with_reducible assumption) | assumption); omega)
                            have hx25 : ∀ h : 0 < a0.size, ((a0[0]'h).toNat : Int) = bt a0 0 := bt_at a0 0
                            clear p25
                            have qi25 : (0 < (a0.size : Int)) = True := eq_true (of_decide_eq_true (by first | (with_reducible assumption) | assumption))
                            replace q25 := eq_true q25
                            go_wp2
                            go_ret
                            exact ⟨by first | rfl | (simp; done) | (simp [*]; done), by repeat (first | exact Drawn0.refl _ | apply Drawn0.step)⟩
                          · rw [if_neg c49] at H
                            exact absurd H (by simp)
                        · rw [if_neg c48] at H
                          exact absurd H (by simp)
                      · rw [if_neg c47] at H
                        have c47b0 : ((bt a0 0) == 60) = false := beq_eq_false_iff_ne.mpr c47
                        have c47b1 : ((bt a0 0) != 60) = true := bne_iff_ne.mpr c47
                        by_cases c50 : (bt a0 0) = 62
                        · rw [if_pos c50] at H
                          have c50b0 : ((bt a0 0) == 62) = true := beq_iff_eq.mpr c50
                          have c50b1 : ((bt a0 0) != 62) = false := bne_eq_false_iff_eq.mpr c50
                          clear c50
                          by_cases c51 : 0 ≤ 1
                          · rw [if_pos c51] at H
                            have c51b0 := eq_true c51
                            have c51b1 : decide (0 ≤ 1) = true := decide_eq_true c51
                            clear c51
                            by_cases c52 : 1 ≤ (a0.size : Int)
                            · rw [if_pos c52] at H
                              have c52b0 := eq_true c52
                              have c52b1 : decide (1 ≤ (a0.size : Int)) = true := decide_eq_true c52
                              clear c52
                              obtain rfl := Option.some.inj H
                              have p25 : 0 ≤ (0 : Int) := (by omega)
                              have q25 : 0 < a0.size := (by have : (0 : Int) < (a0.size : Int) := of_decide_eq_true (by first | (with_reducible assumption) | assumption); omega)
                              have hx25 : ∀ h : 0 < a0.size, ((a0[0]'h).toNat : Int) = bt a0 0 := bt_at a0 0
                              clear p25
                              have qi25 : (0 < (a0.size : Int)) = True := eq_true (of_decide_eq_true (by first | (with_reducible assumption) | assumption))
                              replace q25 := eq_true q25
                              go_wp2
                              go_ret
                              exact ⟨by first | rfl | (simp; done) | (simp [*]; done), by repeat (first | exact Drawn0.refl _ | apply Drawn0.step)⟩
                            · rw [if_neg c52] at H
                              exact absurd H (by simp)
                          · rw [if_neg c51] at H
                            exact absurd H (by simp)
                        · rw [if_neg c50] at H
                          have c50b0 : ((bt a0 0) == 62) = false := beq_eq_false_iff_ne.mpr c50
                          have c50b1 : ((bt a0 0) != 62) = true := bne_iff_ne.mpr c50
                          by_cases c53 : (bt a0 0) = 43
                          · rw [if_pos c53] at H
                            have c53b0 : ((bt a0 0) == 43) = true := beq_iff_eq.mpr c53
                            have c53b1 : ((bt a0 0) != 43) = false := bne_eq_false_iff_eq.mpr c53
                            clear c53
                            by_cases c54 : 0 ≤ 1
                            · rw [if_pos c54] at H
                              have c54b0 := eq_true c54
                              have c54b1 : decide (0 ≤ 1) = true := decide_eq_true c54
                              clear c54
                              by_cases c55 : 1 ≤ (a0.size : Int)
                              · rw [if_pos c55] at H
                                have c55b0 := eq_true c55
                                have c55b1 : decide (1 ≤ (a0.size : Int)) = true := decide_eq_true c55
                                clear c55
                                obtain rfl := Option.some.inj H
                                have p25 : 0 ≤ (0 : Int) := (by omega)
                                have q25 : 0 < a0.size := (by have : (0 : Int) < (a0.size : Int) := of_decide_eq_true (by first | (with_reducible assumption) | assumption); omega)
                                have hx25 : ∀ h : 0 < a0.size, ((a0[0]'h).toNat : Int) = bt a0 0 := bt_at a0 0
                                clear p25
                                have qi25 : (0 < (a0.size : Int)) = True := eq_true (of_decide_eq_true (by first | (with_reducible assumption) | assumption))
                                replace q25 := eq_true q25
                                go_wp2
                                go_ret
                                exact ⟨by first | rfl | (simp; done) | (simp [*]; done), by repeat (first | exact Drawn0.refl _ | apply Drawn0.step)⟩
                              · rw [if_neg c55] at H
                                exact absurd H (by simp)
                            · rw [if_neg c54] at H
                              exact absurd H (by simp)
                          · rw [if_neg c53] at H
                            have c53b0 : ((bt a0 0) == 43) = false := beq_eq_false_iff_ne.mpr c53
                            have c53b1 : ((bt a0 0) != 43) = true := bne_iff_ne.mpr c53
                            by_cases c56 : (bt a0 0) = 45
                            · rw [if_pos c56] at H
                              have c56b0 : ((bt a0 0) == 45) = true := beq_iff_eq.mpr c56
                              have c56b1 : ((bt a0 0) != 45) = false := bne_eq_false_iff_eq.mpr c56
                              clear c56
                              by_cases c57 : 0 ≤ 1
                              · rw [if_pos c57] at H
                                have c57b0 := eq_true c57
                                have c57b1 : decide (0 ≤ 1) = true := decide_eq_true c57
                                clear c57
                                by_cases c58 : 1 ≤ (a0.size : Int)
                                · rw [if_pos c58] at H
                                  have c58b0 := eq_true c58
                                  have c58b1 : decide (1 ≤ (a0.size : Int)) = true := decide_eq_true c58
                                  clear c58
                                  obtain rfl := Option.some.inj H
                                  have p25 : 0 ≤ (0 : Int) := (by omega)
                                  have q25 : 0 < a0.size := (by have : (0 : Int) < (a0.size : Int) := of_decide_eq_true (by first | (with_reducible assumption) | assumption); omega)
                                  have hx25 : ∀ h : 0 < a0.size, ((a0[0]'h).toNat : Int) = bt a0 0 := bt_at a0 0
                                  clear p25
                                  have qi25 : (0 < (a0.size : Int)) = True := eq_true (of_decide_eq_true (by first | (with_reducible assumption) | assumption))
                                  replace q25 := eq_true q25
                                  go_wp2
                                  go_ret
                                  exact ⟨by first | rfl | (simp; done) | (simp [*]; done), by repeat (first | exact Drawn0.refl _ | apply Drawn0.step)⟩
                                · rw [if_neg c58] at H
                                  exact absurd H (by simp)
                              · rw [if_neg c57] at H
                                exact absurd H (by simp)
                            · rw [if_neg c56] at H
                              have c56b0 : ((bt a0 0) == 45) = false := beq_eq_false_iff_ne.mpr c56
                              have c56b1 : ((bt a0 0) != 45) = true := bne_iff_ne.mpr c56
                              by_cases c59 : (bt a0 0) = 47
                              · rw [if_pos c59] at H
                                have c59b0 : ((bt a0 0) == 47) = true := beq_iff_eq.mpr c59
                                have c59b1 : ((bt a0 0) != 47) = false := bne_eq_false_iff_eq.mpr c59
                                clear c59
                                by_cases c60 : 0 ≤ 1
                                · rw [if_pos c60] at H
                                  have c60b0 := eq_true c60
                                  have c60b1 : decide (0 ≤ 1) = true := decide_eq_true c60
                                  clear c60
                                  by_cases c61 : 1 ≤ (a0.size : Int)
                                  · rw [if_pos c61] at H
                                    have c61b0 := eq_true c61
                                    have c61b1 : decide (1 ≤ (a0.size : Int)) = true := decide_eq_true c61
                                    clear c61
                                    obtain rfl := Option.some.inj H
                                    have p25 : 0 ≤ (0 : Int) := (by omega)
                                    have q25 : 0 < a0.size := (by have : (0 : Int) < (a0.size : Int) := of_decide_eq_true (by first | (with_reducible assumption) | assumption); omega)
                                    have hx25 : ∀ h : 0 < a0.size, ((a0[0]'h).toNat : Int) = bt a0 0 := bt_at a0 0
                                    clear p25
                                    have qi25 : (0 < (a0.size : Int)) = True := eq_true (of_decide_eq_true (by first | (with_reducible assumption) | assumption))
                                    replace q25 := eq_true q25
                                    go_wp2
                                    go_ret
                                    exact ⟨by first | rfl | (simp; done) | (simp [*]; done), by repeat (first | exact Drawn0.refl _ | apply Drawn0.step)⟩
                                  · rw [if_neg c61] at H
                                    exact absurd H (by simp)
                                · rw [if_neg c60] at H
                                  exact absurd H (by simp)
                              · rw [if_neg c59] at H
                                have c59b0 : ((bt a0 0) == 47) = false := beq_eq_false_iff_ne.mpr c59
                                have c59b1 : ((bt a0 0) != 47) = true := bne_iff_ne.mpr c59
                                by_cases c62 : (bt a0 0) = 37
                                · rw [if_pos c62] at H
                                  have c62b0 : ((bt a0 0) == 37) = true := beq_iff_eq.mpr c62
                                  have c62b1 : ((bt a0 0) != 37) = false := bne_eq_false_iff_eq.mpr c62
                                  clear c62
                                  by_cases c63 : 0 ≤ 1
                                  · rw [if_pos c63] at H
                                    have c63b0 := eq_true c63
                                    have c63b1 : decide (0 ≤ 1) = true := decide_eq_true c63
                                    clear c63
                                    by_cases c64 : 1 ≤ (a0.size : Int)
                                    · rw [if_pos c64] at H
                                      have c64b0 := eq_true c64
                                      have c64b1 : decide (1 ≤ (a0.size : Int)) = true := decide_eq_true c64
                                      clear c64
                                      obtain rfl := Option.some.inj H
                                      have p25 : 0 ≤ (0 : Int) := (by omega)
                                      have q25 : 0 < a0.size := (by have : (0 : Int) < (a0.size : Int) := of_decide_eq_true (by first | (with_reducible assumption) | assumption); omega)
                                      have hx25 : ∀ h : 0 < a0.size, ((a0[0]'h).toNat : Int) = bt a0 0 := bt_at a0 0
                                      clear p25
                                      have qi25 : (0 < (a0.size : Int)) = True := eq_true (of_decide_eq_true (by first | (with_reducible assumption) | assumption))
                                      replace q25 := eq_true q25
                                      go_wp2
                                      go_ret
                                      exact ⟨by first | rfl | (simp; done) | (simp [*]; done), by repeat (first | exact Drawn0.refl _ | apply Drawn0.step)⟩
                                    · rw [if_neg c64] at H
                                      exact absurd H (by simp)
                                  · rw [if_neg c63] at H
                                    exact absurd H (by simp)
                                · rw [if_neg c62] at H
                                  have c62b0 : ((bt a0 0) == 37) = false := beq_eq_false_iff_ne.mpr c62
                                  have c62b1 : ((bt a0 0) != 37) = true := bne_iff_ne.mpr c62
                                  by_cases c65 : (bt a0 0) = 38
                                  · rw [if_pos c65] at H
                                    have c65b0 : ((bt a0 0) == 38) = true := beq_iff_eq.mpr c65
                                    have c65b1 : ((bt a0 0) != 38) = false := bne_eq_false_iff_eq.mpr c65
                                    clear c65
                                    by_cases c66 : 0 ≤ 1
                                    · rw [if_pos c66] at H
                                      have c66b0 := eq_true c66
                                      have c66b1 : decide (0 ≤ 1) = true := decide_eq_true c66
                                      clear c66
                                      by_cases c67 : 1 ≤ (a0.size : Int)
                                      · rw [if_pos c67] at H
                                        have c67b0 := eq_true c67
                                        have c67b1 : decide (1 ≤ (a0.size : Int)) = true := decide_eq_true c67
                                        clear c67
                                        obtain rfl := Option.some.inj H
                                        have p25 : 0 ≤ (0 : Int) := (by omega)
                                        have q25 : 0 < a0.size := (by have : (0 : Int) < (a0.size : Int) := of_decide_eq_true (by first | (with_reducible assumption) | assumption); omega)
                                        have hx25 : ∀ h : 0 < a0.size, ((a0[0]'h).toNat : Int) = bt a0 0 := bt_at a0 0
                                        clear p25
                                        have qi25 : (0 < (a0.size : Int)) = True := eq_true (of_decide_eq_true (by first | (with_reducible assumption) | assumption))
                                        replace q25 := eq_true q25
                                        go_wp2
                                        go_ret
                                        exact ⟨by first | rfl | (simp; done) | (simp [*]; done), by repeat (first | exact Drawn0.refl _ | apply Drawn0.step)⟩
                                      · rw [if_neg c67] at H
                                        exact absurd H (by simp)
                                    · rw [if_neg c66] at H
                                      exact absurd H (by simp)
                                  · rw [if_neg c65] at H
                                    have c65b0 : ((bt a0 0) == 38) = false := beq_eq_false_iff_ne.mpr c65
                                    have c65b1 : ((bt a0 0) != 38) = true := bne_iff_ne.mpr c65
                                    by_cases c68 : (bt a0 0) = 124
                                    · rw [if_pos c68] at H
                                      have c68b0 : ((bt a0 0) == 124) = true := beq_iff_eq.mpr c68
                                      have c68b1 : ((bt a0 0) != 124) = false := bne_eq_false_iff_eq.mpr c68
                                      clear c68
                                      by_cases c69 : 0 ≤ 1
                                      · rw [if_pos c69] at H
                                        have c69b0 := eq_true c69
                                        have c69b1 : decide (0 ≤ 1) = true := decide_eq_true c69
                                        clear c69
                                        by_cases c70 : 1 ≤ (a0.size : Int)
                                        · rw [if_pos c70] at H
                                          have c70b0 := eq_true c70
                                          have c70b1 : decide (1 ≤ (a0.size : Int)) = true := decide_eq_true c70
                                          clear c70
                                          obtain rfl := Option.some.inj H
                                          have p25 : 0 ≤ (0 : Int) := (by omega)
                                          have q25 : 0 < a0.size := (by have : (0 : Int) < (a0.size : Int) := of_decide_eq_true (by first | (with_reducible assumption) | assumption); omega)
                                          have hx25 : ∀ h : 0 < a0.size, ((a0[0]'h).toNat : Int) = bt a0 0 := bt_at a0 0
                                          clear p25
                                          have qi25 : (0 < (a0.size : Int)) = True := eq_true (of_decide_eq_true (by first | (with_reducible assumption) | assumption))
                                          replace q25 := eq_true q25
                                          go_wp2
                                          go_ret
                                          exact ⟨by first | rfl | (simp; done) | (simp [*]; done), by repeat (first | exact Drawn0.refl _ | apply Drawn0.step)⟩
                                        · rw [if_neg c70] at H
                                          exact absurd H (by simp)
                                      · rw [if_neg c69] at H
                                        exact absurd H (by simp)
                                    · rw [if_neg c68] at H
                                      have c68b0 : ((bt a0 0) == 124) = false := beq_eq_false_iff_ne.mpr c68
                                      have c68b1 : ((bt a0 0) != 124) = true := bne_iff_ne.mpr c68
                                      by_cases c71 : (bt a0 0) = 94
                                      · rw [if_pos c71] at H
                                        have c71b0 : ((bt a0 0) == 94) = true := beq_iff_eq.mpr c71
                                        have c71b1 : ((bt a0 0) != 94) = false := bne_eq_false_iff_eq.mpr c71
                                        clear c71
                                        by_cases c72 : 0 ≤ 1
                                        · rw [if_pos c72] at H
                                          have c72b0 := eq_true c72
                                          have c72b1 : decide (0 ≤ 1) = true := decide_eq_true c72
                                          clear c72
                                          by_cases c73 : 1 ≤ (a0.size : Int)
                                          · rw [if_pos c73] at H
                                            have c73b0 := eq_true c73
                                            have c73b1 : decide (1 ≤ (a0.size : Int)) = true := decide_eq_true c73
                                            clear c73
                                            obtain rfl := Option.some.inj H
                                            have p25 : 0 ≤ (0 : Int) := (by omega)
                                            have q25 : 0 < a0.size := (by have : (0 : Int) < (a0.size : Int) := of_decide_eq_true (by first | (with_reducible assumption) | assumption); omega)
                                            have hx25 : ∀ h : 0 < a0.size, ((a0[0]'h).toNat : Int) = bt a0 0 := bt_at a0 0
                                            clear p25
                                            have qi25 : (0 < (a0.size : Int)) = True := eq_true (of_decide_eq_true (by first | (with_reducible assumption) | assumption))
                                            replace q25 := eq_true q25
                                            go_wp2
                                            go_ret
                                            exact ⟨by first | rfl | (simp; done) | (simp [*]; done), by repeat (first | exact Drawn0.refl _ | apply Drawn0.step)⟩
                                          · rw [if_neg c73] at H
                                            exact absurd H (by simp)
                                        · rw [if_neg c72] at H
                                          exact absurd H (by simp)
                                      · rw [if_neg c71] at H
                                        have c71b0 : ((bt a0 0) == 94) = false := beq_eq_false_iff_ne.mpr c71
                                        have c71b1 : ((bt a0 0) != 94) = true := bne_iff_ne.mpr c71
                                        obtain rfl := Option.some.inj H
                                        have p25 : 0 ≤ (0 : Int) := (by omega)
                                        have q25 : 0 < a0.size := (by have : (0 : Int) < (a0.size : Int) := of_decide_eq_true (by first | (with_reducible assumption) | assumption); omega)
                                        have hx25 : ∀ h : 0 < a0.size, ((a0[0]'h).toNat : Int) = bt a0 0 := bt_at a0 0
                                        clear p25
                                        have qi25 : (0 < (a0.size : Int)) = True := eq_true (of_decide_eq_true (by first | (with_reducible assumption) | assumption))
                                        replace q25 := eq_true q25
                                        go_wp2
                                        go_ret
                                        exact ⟨by first | rfl | (simp; done) | (simp [*]; done), by repeat (first | exact Drawn0.refl _ | apply Drawn0.step)⟩
      · rw [if_neg c24] at H
        exact absurd H (by simp)

end Go.Proofs.YtobhcpfdgfkeiaaDoor.Lx

namespace Go.Proofs.YtobhcpfdgfkeiaaDoor.Lp
open Go.RowKit Go.Proofs.YtobhcpfdgfkeiaaDoorW.PrintWords Go.Proofs.YtobhcpfdgfkeiaaDoor.Ext Go.Proofs.YtobhcpfdgfkeiaaDoor.Lx Go.Proofs.YtobhcpfdgfkeiaaDoor.Lf
set_option linter.unusedVariables false

theorem word_loop (x : ByteArray) (ws : List ByteArray) (hl : ws.length ≤ 1000) : ∀ (d k j : Nat), j ≤ ws.length → ws.length - j ≤ d → d < k → umlautref17_isWord.l0 k x ws (j : Int) = some ((ws.drop j).any fun w => w.data.toList == x.data.toList) := by
  intro d
  induction d with
  | zero =>
    intro k j hj hd hk
    obtain ⟨k, rfl⟩ : ∃ m, k = m + 1 := ⟨k - 1, by omega⟩
    simp only [umlautref17_isWord.l0]
    rw [if_neg (by omega), List.drop_eq_nil_of_le (by omega)]; rfl
  | succ d ih =>
    intro k j hj hd hk
    obtain ⟨k, rfl⟩ : ∃ m, k = m + 1 := ⟨k - 1, by omega⟩
    by_cases hlt : j < ws.length
    · simp only [umlautref17_isWord.l0]
      rw [if_pos (by omega), if_pos (by omega), rdOf_at ws j hlt, Lib.toList_data, Lib.toList_data, List.drop_eq_getElem_cons hlt, List.any_cons]
      by_cases h : ws[j].data.toList = x.data.toList
      · rw [if_pos h, h]; simp
      · rw [if_neg h, wrap_add1 _ (by omega), ih k (j + 1) (by omega) (by omega) (by omega)]
        rw [show (ws[j].data.toList == x.data.toList) = false from beq_eq_false_iff_ne.mpr h, Bool.false_or]
    · simp only [umlautref17_isWord.l0]
      rw [if_neg (by omega), List.drop_eq_nil_of_le (by omega)]; rfl
def wordsB : List ByteArray := wordsT.map fun w => ⟨w.toArray⟩
theorem words_f : umlautref17_Words.f = some wordsB := rfl
theorem rword_eq (x : ByteArray) (k : Nat) (hk : 60 ≤ k) : umlautref17_isWord.f k x = some (isWord x.data.toList) := by
  unfold umlautref17_isWord.f
  rw [words_f]
  simp only [Option.bind_some]
  have h := word_loop x wordsB (by decide) 48 k 0 (by decide) (by decide) (by omega)
  rw [List.drop_zero] at h
  refine h.trans ?_
  unfold wordsB isWord
  rw [List.any_map]
  congr 1
  rw [Bool.eq_iff_iff, List.any_eq_true, List.contains_iff_mem]
  constructor
  · rintro ⟨w, hw, e⟩
    simp only [Function.comp_apply, beq_iff_eq] at e
    rw [← e]; exact hw
  · intro hm
    exact ⟨_, hm, by simp⟩

theorem ext_one {s : ByteArray} {i : Nat} (h : i < s.size) : (s.extract i (i + 1)).data.toList = [s[i]] := by
  rw [Lib.extract_data, drop_at h, show i + 1 - i = 1 by omega]; rfl
theorem ext_one_size {s : ByteArray} {i : Nat} (h : i < s.size) : (s.extract i (i + 1)).size = 1 := by
  rw [ByteArray.size_extract]; omega
theorem app_bytes (a b : ByteArray) : a ++ b = ⟨(a.data.toList ++ b.data.toList).toArray⟩ := by
  apply WideShapes.bytes_inj
  rw [ByteArray.data_append]; simp
def rtextAns (acc : ByteArray) (i : Nat) (l : Bytes) : ByteArray × Int × Bool := match textOf l with | none => (⟨#[]⟩, 0, false) | some x => (acc ++ ⟨x.1.toArray⟩, ((i + x.2 : Nat) : Int), true)
theorem app_app (a : ByteArray) (x y : Bytes) : a ++ ⟨x.toArray⟩ ++ ⟨y.toArray⟩ = a ++ ⟨(x ++ y).toArray⟩ := by
  apply WideShapes.bytes_inj
  rw [ByteArray.data_append, ByteArray.data_append, ByteArray.data_append]; simp
theorem rtext_loop (s : ByteArray) (hs : s.size ≤ 140737488351232) : ∀ (d k i : Nat) (acc : ByteArray), i ≤ s.size + 1 → s.size - i ≤ d → d < k → acc.size ≤ i → umlautref17_text.l0 k s acc (i : Int) = some (rtextAns acc i (s.data.toList.drop i)) := by
  intro d
  induction d using Nat.strongRecOn with
  | _ d ih =>
  intro k i acc hi hd hk ha
  obtain ⟨k, rfl⟩ : ∃ m, k = m + 1 := ⟨k - 1, by omega⟩
  simp only [umlautref17_text.l0]
  by_cases hlt : i < s.size
  · rw [if_pos (by omega), if_pos (by omega), bt_nat hlt]
    rw [drop_at hlt]
    unfold rtextAns
    rw [textOf.eq_def]
    simp only
    by_cases hc : s[i].toNat = 39
    · rw [if_pos (by omega), if_pos hc, wrap_add1 _ (by omega)]
      by_cases hlt2 : i + 1 < s.size
      · rw [if_pos (by omega), if_pos (by omega), bt_nat hlt2, drop_at hlt2]
        simp only
        by_cases hd2 : s[i + 1].toNat = 39
        · rw [if_pos (by omega), if_pos hd2, if_pos (by omega), wrap_add1 _ (by omega)]
          have e : s[i + 1] = 39 := UInt8.toNat_inj.mp hd2
          rw [ih (d - 2) (by omega) k (i + 2) _ (by omega) (by omega) (by omega) (by rw [ByteArray.size_append]; show acc.size + 1 ≤ _; omega)]
          unfold rtextAns
          cases ht : textOf (s.data.toList.drop (i + 1 + 1)) with
          | none => rfl
          | some x =>
            simp only [Option.map_some]
            rw [e, show (⟨#[39]⟩ : ByteArray) = ⟨([39] : Bytes).toArray⟩ from rfl, app_app]
            congr 3
            omega
        · rw [if_neg (by omega), if_neg hd2]
          simp only
          rw [show acc ++ (⟨([] : Bytes).toArray⟩ : ByteArray) = acc from by apply WideShapes.bytes_inj; rw [ByteArray.data_append]; simp]
      · rw [if_neg (by omega), drop_end (by omega)]
        simp only
        rw [show acc ++ (⟨([] : Bytes).toArray⟩ : ByteArray) = acc from by apply WideShapes.bytes_inj; rw [ByteArray.data_append]; simp]
    · rw [if_neg (by omega), if_neg hc, wrap_add1 _ (by omega), if_pos (by omega), if_pos (by omega), Int.toNat_natCast, Int.toNat_natCast]
      rw [if_pos (by rw [ext_one_size hlt]; omega)]
      rw [ih (d - 1) (by omega) k (i + 1) _ (by omega) (by omega) (by omega) (by rw [ByteArray.size_append, ext_one_size hlt]; omega)]
      unfold rtextAns
      cases ht : textOf (s.data.toList.drop (i + 1)) with
      | none => rfl
      | some x =>
        simp only [Option.map_some]
        rw [show s.extract i (i + 1) = ⟨([s[i]] : Bytes).toArray⟩ from by apply WideShapes.bytes_inj; rw [ext_one hlt], app_app]
        congr 3
        omega
  · rw [if_neg (by omega), drop_end (by omega)]
    rfl
theorem rtext_eq (s : ByteArray) (hs : s.size ≤ 140737488351232) (k i : Nat) (hi : i < s.size) (hk : s.size < k) : umlautref17_text.f k s (i : Int) = some (rtextAns ⟨#[]⟩ (i + 1) (s.data.toList.drop (i + 1))) := by
  unfold umlautref17_text.f
  rw [wrap_add1 _ (by omega)]
  exact rtext_loop s hs s.size k (i + 1) ⟨#[]⟩ (by omega) (by omega) (by omega) (Nat.zero_le _)

def chainIf {α : Type} (n : Int) (A B : α) : List Int → α
  | [] => B
  | x :: xs => if n = x then A else chainIf n A B xs
theorem chainIf_eq {α : Type} (n : Int) (A B : α) : ∀ xs : List Int, chainIf n A B xs = if xs.contains n = true then A else B
  | [] => rfl
  | x :: xs => by
    rw [chainIf, chainIf_eq n A B xs, List.contains_cons]
    by_cases h : n = x
    · subst h; simp
    · rw [if_neg h, show (n == x) = false from beq_eq_false_iff_ne.mpr h, Bool.false_or]
theorem single_fin : ∀ n : Fin 256, ([40, 41, 44, 46, 59, 42, 61, 60, 62, 43, 45, 47, 37, 38, 124, 94] : List Int).contains (n.val : Int) = single (UInt8.ofNat n.val) := by decide +kernel
theorem single_int (c : UInt8) : ([40, 41, 44, 46, 59, 42, 61, 60, 62, 43, 45, 47, 37, 38, 124, 94] : List Int).contains (c.toNat : Int) = single c := by
  have := single_fin ⟨c.toNat, c.toNat_lt⟩
  simpa using this
theorem rop_one (s : ByteArray) (k : Nat) (hk : 1 ≤ k) (h0 : 0 < s.size) : umlautref17_op.j0 k s = some (if single s[0] = true then ⟨(s.data.toList.take 1).toArray⟩ else ⟨#[]⟩) := by
  obtain ⟨k, rfl⟩ : ∃ m, k = m + 1 := ⟨k - 1, by omega⟩
  have hb : bt s 0 = (s[0].toNat : Int) := bt_nat (i := 0) h0
  simp only [umlautref17_op.j0]
  rw [if_pos (by omega), hb, if_pos (show (0 : Nat) ≤ 1 by decide), if_pos (show (1 : Int) ≤ (s.size : Int) by omega), bytes_take]
  refine (show _ = chainIf (s[0].toNat : Int) (some (⟨(s.data.toList.take 1).toArray⟩ : ByteArray)) (some (⟨#[]⟩ : ByteArray)) [40, 41, 44, 46, 59, 42, 61, 60, 62, 43, 45, 47, 37, 38, 124, 94] from rfl).trans ?_
  rw [chainIf_eq, single_int]
  split <;> rfl
theorem rop_eq (s : ByteArray) (k : Nat) (hk : 1 ≤ k) (h0 : 0 < s.size) : umlautref17_op.f k s = some ⟨(s.data.toList.take (opLen s.data.toList)).toArray⟩ := by
  unfold umlautref17_op.f
  rw [rop_one s k hk h0]
  have e : s.data.toList = s[0] :: s.data.toList.drop 1 := by have := drop_at (k := 0) h0; simpa using this
  have single_end : ∀ r, s.data.toList = s[0] :: r → opLen s.data.toList = (if single s[0] = true then 1 else 0) → some (if single s[0] = true then (⟨(s.data.toList.take 1).toArray⟩ : ByteArray) else ⟨#[]⟩) = some ⟨(s.data.toList.take (opLen s.data.toList)).toArray⟩ := by
    intro r hr ho
    rw [ho]
    by_cases h : single s[0] = true
    · rw [if_pos h, if_pos h]
    · rw [if_neg h, if_neg h]; rfl
  by_cases h2 : 2 ≤ s.size
  · have e1 : s.data.toList.drop 1 = s[1] :: s.data.toList.drop 2 := drop_at (k := 1) (by omega)
    have ee : s.data.toList = s[0] :: s[1] :: s.data.toList.drop 2 := by rw [← e1]; exact e
    have et : (s.extract 0 2).toList = [s[0], s[1]] := by rw [Lib.toList_data, ext_take, ee]; rfl
    rw [if_pos (by omega), if_pos (by decide), if_pos (by omega), et, bytes_take]
    have ho : opLen s.data.toList = if double s[0] s[1] = true then 2 else if single s[0] = true then 1 else 0 := by
      have := congrArg opLen ee; exact this
    by_cases hd : double s[0] s[1] = true
    · rw [ho, if_pos hd]
      unfold double at hd
      rw [List.contains_iff_mem] at hd
      simp only [List.mem_cons, Prod.mk.injEq, List.not_mem_nil, or_false] at hd
      rcases hd with ⟨a, b⟩ | ⟨a, b⟩ | ⟨a, b⟩ | ⟨a, b⟩ | ⟨a, b⟩ | ⟨a, b⟩ <;> rw [a, b] <;> rfl
    · have hn : ∀ a b : UInt8, double a b = true → ¬ [s[0], s[1]] = [a, b] := by
        intro a b hab h
        simp only [List.cons.injEq, and_true] at h
        rw [h.1, h.2] at hd
        exact hd hab
      rw [if_neg (hn 60 62 rfl), if_neg (hn 60 61 rfl), if_neg (hn 62 61 rfl), if_neg (hn 60 60 rfl), if_neg (hn 62 62 rfl), if_neg (hn 124 124 rfl)]
      exact single_end _ ee (by rw [ho, if_neg hd])
  · rw [if_neg (by omega)]
    have e1 : s.data.toList.drop 1 = [] := drop_end (by omega)
    refine single_end _ e ?_
    have := congrArg opLen (e.trans (by rw [e1]))
    exact this
end Go.Proofs.YtobhcpfdgfkeiaaDoor.Lp

namespace Go.Proofs.YtobhcpfdgfkeiaaDoor.Lx
open Go.RowKit Go.Proofs.YtobhcpfdgfkeiaaDoorW.PrintWords Go.Proofs.YtobhcpfdgfkeiaaDoorW.PrintLast Go.Proofs.YtobhcpfdgfkeiaaDoorW.PrintMore Go.Proofs.YtobhcpfdgfkeiaaDoor.Lf Go.Proofs.YtobhcpfdgfkeiaaDoor.Ext
attribute [local go_sem] max2_int min2_int max_two min_two max_three min_three max_four min_four   -- for this text's walks alone
set_option linter.unusedVariables false
set_option linter.unusedSimpArgs false

/-! ### umlautref17_Tokens: function 11 -/
mutual
def umlautref17_Tokens.l0 : Nat → ByteArray → List (S37) → Int → Option ((List (S37)) × Int × Int)
  | 0, _, _, _ => none
  | k + 1, x0, x3, x4 => if x4 < (x0.size : Int) then (if 0 ≤ x4 then (if (bt x0 x4) = 32 then (umlautref17_Tokens.j1 k x0 x3 x4 (bt x0 x4) true) else (if (bt x0 x4) = 9 then (umlautref17_Tokens.j1 k x0 x3 x4 (bt x0 x4) true) else (if (bt x0 x4) = 10 then (umlautref17_Tokens.j1 k x0 x3 x4 (bt x0 x4) true) else (umlautref17_Tokens.j1 k x0 x3 x4 (bt x0 x4) ((bt x0 x4) == 13))))) else (none)) else (some (x3, 0, 0))
def umlautref17_Tokens.j1 : Nat → ByteArray → List (S37) → Int → Int → Bool → Option ((List (S37)) × Int × Int)
  | 0, _, _, _, _, _ => none
  | k + 1, x0, x3, x4, x5, x38 => if x38 = true then (umlautref17_Tokens.l0 k x0 x3 (wrap64 (x4 + 1))) else (if x5 = 45 then (if (wrap64 (x4 + 1)) < (x0.size : Int) then (if 0 ≤ (wrap64 (x4 + 1)) then (umlautref17_Tokens.j2 k x0 x3 x4 x5 ((bt x0 (wrap64 (x4 + 1))) == 45)) else (none)) else (umlautref17_Tokens.j2 k x0 x3 x4 x5 false)) else (umlautref17_Tokens.j2 k x0 x3 x4 x5 false))
def umlautref17_Tokens.j2 : Nat → ByteArray → List (S37) → Int → Int → Bool → Option ((List (S37)) × Int × Int)
  | 0, _, _, _, _, _ => none
  | k + 1, x0, x3, x4, x5, x56 => if x56 = true then (umlautref17_Tokens.l1 k x0 x3 x4) else ((umlautref17_digit.f x5).bind fun t195 => (if t195 = true then (umlautref17_Tokens.l2 k x0 x3 x4 x4) else ((umlautref17_letter.f x5).bind fun t206 => (if t206 = true then (umlautref17_Tokens.l3 k x0 x3 x4 x4) else (if x5 = 39 then ((umlautref17_text.f k x0 x4).bind fun bt217 => (if bt217.2.2 = true then (if x3.length < 3518437208883 then (umlautref17_Tokens.l0 k x0 (x3 ++ [(⟨4, bt217.1, 0, x4⟩ : S37)]) bt217.2.1) else (none)) else (some (([] : List (S37)), x4, 10)))) else (if 0 ≤ x4 then (if x4 ≤ (x0.size : Int) then ((umlautref17_op.f k (x0.extract (x4 : Int).toNat x0.size)).bind fun t223 => (if t223.toList = ([] : List UInt8) then (some (([] : List (S37)), x4, 10)) else (if x3.length < 3518437208883 then (umlautref17_Tokens.l0 k x0 (x3 ++ [(⟨5, t223, 0, x4⟩ : S37)]) (wrap64 (x4 + (t223.size : Int)))) else (none)))) else (none)) else (none)))))))
def umlautref17_Tokens.l1 : Nat → ByteArray → List (S37) → Int → Option ((List (S37)) × Int × Int)
  | 0, _, _, _ => none
  | k + 1, x0, x3, x4 => if x4 < (x0.size : Int) then (if 0 ≤ x4 then (if (bt x0 x4) = 10 then (umlautref17_Tokens.l0 k x0 x3 x4) else (umlautref17_Tokens.l1 k x0 x3 (wrap64 (x4 + 1)))) else (none)) else (umlautref17_Tokens.l0 k x0 x3 x4)
def umlautref17_Tokens.j5 : Nat → ByteArray → List (S37) → Int → Int → Option ((List (S37)) × Int × Int)
  | 0, _, _, _, _ => none
  | k + 1, x0, x3, x4, x6 => if 0 ≤ x4 then (if x4 ≤ x6 then (if x6 ≤ (x0.size : Int) then ((umlautref1_Parse.f k (x0.extract (x4 : Int).toNat (x6 : Int).toNat)).bind fun bt197 => (if bt197.2 = 0 then (if x6 < (x0.size : Int) then (if 0 ≤ x6 then ((umlautref17_letter.f (bt x0 x6)).bind fun t199 => (if t199 = true then (some (([] : List (S37)), x4, 10)) else (if x3.length < 3518437208883 then (umlautref17_Tokens.l0 k x0 (x3 ++ [(⟨3, (⟨#[]⟩ : ByteArray), bt197.1, x4⟩ : S37)]) x6) else (none)))) else (none)) else (if x3.length < 3518437208883 then (umlautref17_Tokens.l0 k x0 (x3 ++ [(⟨3, (⟨#[]⟩ : ByteArray), bt197.1, x4⟩ : S37)]) x6) else (none))) else (some (([] : List (S37)), x4, 10)))) else (none)) else (none)) else (none)
def umlautref17_Tokens.l2 : Nat → ByteArray → List (S37) → Int → Int → Option ((List (S37)) × Int × Int)
  | 0, _, _, _, _ => none
  | k + 1, x0, x3, x4, x6 => if x6 < (x0.size : Int) then (if 0 ≤ x6 then ((umlautref17_digit.f (bt x0 x6)).bind fun t196 => (if t196 = true then (umlautref17_Tokens.l2 k x0 x3 x4 (wrap64 (x6 + 1))) else (umlautref17_Tokens.j5 k x0 x3 x4 x6))) else (none)) else (umlautref17_Tokens.j5 k x0 x3 x4 x6)
def umlautref17_Tokens.j7 : Nat → ByteArray → List (S37) → Int → Int → Option ((List (S37)) × Int × Int)
  | 0, _, _, _, _ => none
  | k + 1, x0, x3, x4, x6 => if (wrap64 (x6 - x4)) > 16 then (some (([] : List (S37)), x4, 10)) else (if 0 ≤ x4 then (if x4 ≤ x6 then (if x6 ≤ (x0.size : Int) then ((umlautref17_upper.f (x0.extract (x4 : Int).toNat (x6 : Int).toNat)).bind fun t208 => ((umlautref17_isWord.f k t208).bind fun t209 => (if t209 = true then (if x3.length < 3518437208883 then (umlautref17_Tokens.l0 k x0 (x3 ++ [(⟨2, t208, 0, x4⟩ : S37)]) x6) else (none)) else ((umlautref17_lower.f (x0.extract (x4 : Int).toNat (x6 : Int).toNat)).bind fun t213 => (if x3.length < 3518437208883 then (umlautref17_Tokens.l0 k x0 (x3 ++ [(⟨1, t213, 0, x4⟩ : S37)]) x6) else (none)))))) else (none)) else (none)) else (none))
def umlautref17_Tokens.l3 : Nat → ByteArray → List (S37) → Int → Int → Option ((List (S37)) × Int × Int)
  | 0, _, _, _, _ => none
  | k + 1, x0, x3, x4, x6 => if x6 < (x0.size : Int) then (if 0 ≤ x6 then ((umlautref17_letter.f (bt x0 x6)).bind fun t207 => (if t207 = true then (umlautref17_Tokens.l3 k x0 x3 x4 (wrap64 (x6 + 1))) else (umlautref17_Tokens.j7 k x0 x3 x4 x6))) else (none)) else (umlautref17_Tokens.j7 k x0 x3 x4 x6)
end
def umlautref17_Tokens.f (k : Nat) (a0 : ByteArray) : Option ((List (S37)) × Int × Int) := if (a0.size : Int) > 4000 then (some (([] : List (S37)), 0, 2)) else (umlautref17_Tokens.l0 k a0 ([] : List (S37)) 0)
theorem umlautref17_Tokens.mono_l : ∀ k, (∀ y0 y1 y2, LeO (umlautref17_Tokens.l0 k y0 y1 y2) (umlautref17_Tokens.l0 (k + 1) y0 y1 y2)) ∧ (∀ y0 y1 y2 y3 y4, LeO (umlautref17_Tokens.j1 k y0 y1 y2 y3 y4) (umlautref17_Tokens.j1 (k + 1) y0 y1 y2 y3 y4)) ∧ (∀ y0 y1 y2 y3 y4, LeO (umlautref17_Tokens.j2 k y0 y1 y2 y3 y4) (umlautref17_Tokens.j2 (k + 1) y0 y1 y2 y3 y4)) ∧ (∀ y0 y1 y2, LeO (umlautref17_Tokens.l1 k y0 y1 y2) (umlautref17_Tokens.l1 (k + 1) y0 y1 y2)) ∧ (∀ y0 y1 y2 y3, LeO (umlautref17_Tokens.j5 k y0 y1 y2 y3) (umlautref17_Tokens.j5 (k + 1) y0 y1 y2 y3)) ∧ (∀ y0 y1 y2 y3, LeO (umlautref17_Tokens.l2 k y0 y1 y2 y3) (umlautref17_Tokens.l2 (k + 1) y0 y1 y2 y3)) ∧ (∀ y0 y1 y2 y3, LeO (umlautref17_Tokens.j7 k y0 y1 y2 y3) (umlautref17_Tokens.j7 (k + 1) y0 y1 y2 y3)) ∧ (∀ y0 y1 y2 y3, LeO (umlautref17_Tokens.l3 k y0 y1 y2 y3) (umlautref17_Tokens.l3 (k + 1) y0 y1 y2 y3))
  | 0 => ⟨fun _ _ _ r h => by simp [umlautref17_Tokens.l0] at h, fun _ _ _ _ _ r h => by simp [umlautref17_Tokens.j1] at h, fun _ _ _ _ _ r h => by simp [umlautref17_Tokens.j2] at h, fun _ _ _ r h => by simp [umlautref17_Tokens.l1] at h, fun _ _ _ _ r h => by simp [umlautref17_Tokens.j5] at h, fun _ _ _ _ r h => by simp [umlautref17_Tokens.l2] at h, fun _ _ _ _ r h => by simp [umlautref17_Tokens.j7] at h, fun _ _ _ _ r h => by simp [umlautref17_Tokens.l3] at h⟩
  | k + 1 => by
    obtain ⟨ih0, ih1, ih2, ih3, ih4, ih5, ih6, ih7⟩ := umlautref17_Tokens.mono_l k
    refine ⟨?_, ?_, ?_, ?_, ?_, ?_, ?_, ?_⟩
    · intro y0 y1 y2
      unfold umlautref17_Tokens.l0
      repeat' first
      | (with_reducible exact ih0 _ _ _)
      | (with_reducible exact ih1 _ _ _ _ _)
      | (with_reducible exact ih2 _ _ _ _ _)
      | (with_reducible exact ih3 _ _ _)
      | (with_reducible exact ih4 _ _ _ _)
      | (with_reducible exact ih5 _ _ _ _)
      | (with_reducible exact ih6 _ _ _ _)
      | (with_reducible exact ih7 _ _ _ _)
      | (with_reducible exact umlautref17_isWord.mono _ _)
      | (with_reducible exact umlautref17_op.mono _ _)
      | (with_reducible exact umlautref17_text.mono _ _ _)
      | (with_reducible exact umlautref1_Parse.mono _ _)
      | (with_reducible exact LeO.refl _)
      | (with_reducible exact LeO.none _)
      | (with_reducible refine LeO.ite ?_ ?_)
      | (with_reducible refine LeO.bind ?_ (fun _ => ?_))
      | exact ih0 _ _ _
      | exact ih1 _ _ _ _ _
      | exact ih2 _ _ _ _ _
      | exact ih3 _ _ _
      | exact ih4 _ _ _ _
      | exact ih5 _ _ _ _
      | exact ih6 _ _ _ _
      | exact ih7 _ _ _ _
      | exact umlautref17_isWord.mono _ _
      | exact umlautref17_op.mono _ _
      | exact umlautref17_text.mono _ _ _
      | exact umlautref1_Parse.mono _ _
      | exact LeO.none _
      | refine LeO.ite ?_ ?_
      | refine LeO.bind ?_ (fun _ => ?_)
    · intro y0 y1 y2 y3 y4
      unfold umlautref17_Tokens.j1
      repeat' first
      | (with_reducible exact ih0 _ _ _)
      | (with_reducible exact ih1 _ _ _ _ _)
      | (with_reducible exact ih2 _ _ _ _ _)
      | (with_reducible exact ih3 _ _ _)
      | (with_reducible exact ih4 _ _ _ _)
      | (with_reducible exact ih5 _ _ _ _)
      | (with_reducible exact ih6 _ _ _ _)
      | (with_reducible exact ih7 _ _ _ _)
      | (with_reducible exact umlautref17_isWord.mono _ _)
      | (with_reducible exact umlautref17_op.mono _ _)
      | (with_reducible exact umlautref17_text.mono _ _ _)
      | (with_reducible exact umlautref1_Parse.mono _ _)
      | (with_reducible exact LeO.refl _)
      | (with_reducible exact LeO.none _)
      | (with_reducible refine LeO.ite ?_ ?_)
      | (with_reducible refine LeO.bind ?_ (fun _ => ?_))
      | exact ih0 _ _ _
      | exact ih1 _ _ _ _ _
      | exact ih2 _ _ _ _ _
      | exact ih3 _ _ _
      | exact ih4 _ _ _ _
      | exact ih5 _ _ _ _
      | exact ih6 _ _ _ _
      | exact ih7 _ _ _ _
      | exact umlautref17_isWord.mono _ _
      | exact umlautref17_op.mono _ _
      | exact umlautref17_text.mono _ _ _
      | exact umlautref1_Parse.mono _ _
      | exact LeO.none _
      | refine LeO.ite ?_ ?_
      | refine LeO.bind ?_ (fun _ => ?_)
    · intro y0 y1 y2 y3 y4
      unfold umlautref17_Tokens.j2
      repeat' first
      | (with_reducible exact ih0 _ _ _)
      | (with_reducible exact ih1 _ _ _ _ _)
      | (with_reducible exact ih2 _ _ _ _ _)
      | (with_reducible exact ih3 _ _ _)
      | (with_reducible exact ih4 _ _ _ _)
      | (with_reducible exact ih5 _ _ _ _)
      | (with_reducible exact ih6 _ _ _ _)
      | (with_reducible exact ih7 _ _ _ _)
      | (with_reducible exact umlautref17_isWord.mono _ _)
      | (with_reducible exact umlautref17_op.mono _ _)
      | (with_reducible exact umlautref17_text.mono _ _ _)
      | (with_reducible exact umlautref1_Parse.mono _ _)
      | (with_reducible exact LeO.refl _)
      | (with_reducible exact LeO.none _)
      | (with_reducible refine LeO.ite ?_ ?_)
      | (with_reducible refine LeO.bind ?_ (fun _ => ?_))
      | exact ih0 _ _ _
      | exact ih1 _ _ _ _ _
      | exact ih2 _ _ _ _ _
      | exact ih3 _ _ _
      | exact ih4 _ _ _ _
      | exact ih5 _ _ _ _
      | exact ih6 _ _ _ _
      | exact ih7 _ _ _ _
      | exact umlautref17_isWord.mono _ _
      | exact umlautref17_op.mono _ _
      | exact umlautref17_text.mono _ _ _
      | exact umlautref1_Parse.mono _ _
      | exact LeO.none _
      | refine LeO.ite ?_ ?_
      | refine LeO.bind ?_ (fun _ => ?_)
    · intro y0 y1 y2
      unfold umlautref17_Tokens.l1
      repeat' first
      | (with_reducible exact ih0 _ _ _)
      | (with_reducible exact ih1 _ _ _ _ _)
      | (with_reducible exact ih2 _ _ _ _ _)
      | (with_reducible exact ih3 _ _ _)
      | (with_reducible exact ih4 _ _ _ _)
      | (with_reducible exact ih5 _ _ _ _)
      | (with_reducible exact ih6 _ _ _ _)
      | (with_reducible exact ih7 _ _ _ _)
      | (with_reducible exact umlautref17_isWord.mono _ _)
      | (with_reducible exact umlautref17_op.mono _ _)
      | (with_reducible exact umlautref17_text.mono _ _ _)
      | (with_reducible exact umlautref1_Parse.mono _ _)
      | (with_reducible exact LeO.refl _)
      | (with_reducible exact LeO.none _)
      | (with_reducible refine LeO.ite ?_ ?_)
      | (with_reducible refine LeO.bind ?_ (fun _ => ?_))
      | exact ih0 _ _ _
      | exact ih1 _ _ _ _ _
      | exact ih2 _ _ _ _ _
      | exact ih3 _ _ _
      | exact ih4 _ _ _ _
      | exact ih5 _ _ _ _
      | exact ih6 _ _ _ _
      | exact ih7 _ _ _ _
      | exact umlautref17_isWord.mono _ _
      | exact umlautref17_op.mono _ _
      | exact umlautref17_text.mono _ _ _
      | exact umlautref1_Parse.mono _ _
      | exact LeO.none _
      | refine LeO.ite ?_ ?_
      | refine LeO.bind ?_ (fun _ => ?_)
    · intro y0 y1 y2 y3
      unfold umlautref17_Tokens.j5
      repeat' first
      | (with_reducible exact ih0 _ _ _)
      | (with_reducible exact ih1 _ _ _ _ _)
      | (with_reducible exact ih2 _ _ _ _ _)
      | (with_reducible exact ih3 _ _ _)
      | (with_reducible exact ih4 _ _ _ _)
      | (with_reducible exact ih5 _ _ _ _)
      | (with_reducible exact ih6 _ _ _ _)
      | (with_reducible exact ih7 _ _ _ _)
      | (with_reducible exact umlautref17_isWord.mono _ _)
      | (with_reducible exact umlautref17_op.mono _ _)
      | (with_reducible exact umlautref17_text.mono _ _ _)
      | (with_reducible exact umlautref1_Parse.mono _ _)
      | (with_reducible exact LeO.refl _)
      | (with_reducible exact LeO.none _)
      | (with_reducible refine LeO.ite ?_ ?_)
      | (with_reducible refine LeO.bind ?_ (fun _ => ?_))
      | exact ih0 _ _ _
      | exact ih1 _ _ _ _ _
      | exact ih2 _ _ _ _ _
      | exact ih3 _ _ _
      | exact ih4 _ _ _ _
      | exact ih5 _ _ _ _
      | exact ih6 _ _ _ _
      | exact ih7 _ _ _ _
      | exact umlautref17_isWord.mono _ _
      | exact umlautref17_op.mono _ _
      | exact umlautref17_text.mono _ _ _
      | exact umlautref1_Parse.mono _ _
      | exact LeO.none _
      | refine LeO.ite ?_ ?_
      | refine LeO.bind ?_ (fun _ => ?_)
    · intro y0 y1 y2 y3
      unfold umlautref17_Tokens.l2
      repeat' first
      | (with_reducible exact ih0 _ _ _)
      | (with_reducible exact ih1 _ _ _ _ _)
      | (with_reducible exact ih2 _ _ _ _ _)
      | (with_reducible exact ih3 _ _ _)
      | (with_reducible exact ih4 _ _ _ _)
      | (with_reducible exact ih5 _ _ _ _)
      | (with_reducible exact ih6 _ _ _ _)
      | (with_reducible exact ih7 _ _ _ _)
      | (with_reducible exact umlautref17_isWord.mono _ _)
      | (with_reducible exact umlautref17_op.mono _ _)
      | (with_reducible exact umlautref17_text.mono _ _ _)
      | (with_reducible exact umlautref1_Parse.mono _ _)
      | (with_reducible exact LeO.refl _)
      | (with_reducible exact LeO.none _)
      | (with_reducible refine LeO.ite ?_ ?_)
      | (with_reducible refine LeO.bind ?_ (fun _ => ?_))
      | exact ih0 _ _ _
      | exact ih1 _ _ _ _ _
      | exact ih2 _ _ _ _ _
      | exact ih3 _ _ _
      | exact ih4 _ _ _ _
      | exact ih5 _ _ _ _
      | exact ih6 _ _ _ _
      | exact ih7 _ _ _ _
      | exact umlautref17_isWord.mono _ _
      | exact umlautref17_op.mono _ _
      | exact umlautref17_text.mono _ _ _
      | exact umlautref1_Parse.mono _ _
      | exact LeO.none _
      | refine LeO.ite ?_ ?_
      | refine LeO.bind ?_ (fun _ => ?_)
    · intro y0 y1 y2 y3
      unfold umlautref17_Tokens.j7
      repeat' first
      | (with_reducible exact ih0 _ _ _)
      | (with_reducible exact ih1 _ _ _ _ _)
      | (with_reducible exact ih2 _ _ _ _ _)
      | (with_reducible exact ih3 _ _ _)
      | (with_reducible exact ih4 _ _ _ _)
      | (with_reducible exact ih5 _ _ _ _)
      | (with_reducible exact ih6 _ _ _ _)
      | (with_reducible exact ih7 _ _ _ _)
      | (with_reducible exact umlautref17_isWord.mono _ _)
      | (with_reducible exact umlautref17_op.mono _ _)
      | (with_reducible exact umlautref17_text.mono _ _ _)
      | (with_reducible exact umlautref1_Parse.mono _ _)
      | (with_reducible exact LeO.refl _)
      | (with_reducible exact LeO.none _)
      | (with_reducible refine LeO.ite ?_ ?_)
      | (with_reducible refine LeO.bind ?_ (fun _ => ?_))
      | exact ih0 _ _ _
      | exact ih1 _ _ _ _ _
      | exact ih2 _ _ _ _ _
      | exact ih3 _ _ _
      | exact ih4 _ _ _ _
      | exact ih5 _ _ _ _
      | exact ih6 _ _ _ _
      | exact ih7 _ _ _ _
      | exact umlautref17_isWord.mono _ _
      | exact umlautref17_op.mono _ _
      | exact umlautref17_text.mono _ _ _
      | exact umlautref1_Parse.mono _ _
      | exact LeO.none _
      | refine LeO.ite ?_ ?_
      | refine LeO.bind ?_ (fun _ => ?_)
    · intro y0 y1 y2 y3
      unfold umlautref17_Tokens.l3
      repeat' first
      | (with_reducible exact ih0 _ _ _)
      | (with_reducible exact ih1 _ _ _ _ _)
      | (with_reducible exact ih2 _ _ _ _ _)
      | (with_reducible exact ih3 _ _ _)
      | (with_reducible exact ih4 _ _ _ _)
      | (with_reducible exact ih5 _ _ _ _)
      | (with_reducible exact ih6 _ _ _ _)
      | (with_reducible exact ih7 _ _ _ _)
      | (with_reducible exact umlautref17_isWord.mono _ _)
      | (with_reducible exact umlautref17_op.mono _ _)
      | (with_reducible exact umlautref17_text.mono _ _ _)
      | (with_reducible exact umlautref1_Parse.mono _ _)
      | (with_reducible exact LeO.refl _)
      | (with_reducible exact LeO.none _)
      | (with_reducible refine LeO.ite ?_ ?_)
      | (with_reducible refine LeO.bind ?_ (fun _ => ?_))
      | exact ih0 _ _ _
      | exact ih1 _ _ _ _ _
      | exact ih2 _ _ _ _ _
      | exact ih3 _ _ _
      | exact ih4 _ _ _ _
      | exact ih5 _ _ _ _
      | exact ih6 _ _ _ _
      | exact ih7 _ _ _ _
      | exact umlautref17_isWord.mono _ _
      | exact umlautref17_op.mono _ _
      | exact umlautref17_text.mono _ _ _
      | exact umlautref1_Parse.mono _ _
      | exact LeO.none _
      | refine LeO.ite ?_ ?_
      | refine LeO.bind ?_ (fun _ => ?_)
theorem umlautref17_Tokens.mono : ∀ a0 k, LeO (umlautref17_Tokens.f k a0) (umlautref17_Tokens.f (k + 1) a0) := by
  intro a0 k
  obtain ⟨ih0, ih1, ih2, ih3, ih4, ih5, ih6, ih7⟩ := umlautref17_Tokens.mono_l k
  unfold umlautref17_Tokens.f
  repeat' first
      | (with_reducible exact ih0 _ _ _)
      | (with_reducible exact ih1 _ _ _ _ _)
      | (with_reducible exact ih2 _ _ _ _ _)
      | (with_reducible exact ih3 _ _ _)
      | (with_reducible exact ih4 _ _ _ _)
      | (with_reducible exact ih5 _ _ _ _)
      | (with_reducible exact ih6 _ _ _ _)
      | (with_reducible exact ih7 _ _ _ _)
      | (with_reducible exact umlautref17_isWord.mono _ _)
      | (with_reducible exact umlautref17_op.mono _ _)
      | (with_reducible exact umlautref17_text.mono _ _ _)
      | (with_reducible exact umlautref1_Parse.mono _ _)
      | (with_reducible exact LeO.refl _)
      | (with_reducible exact LeO.none _)
      | (with_reducible refine LeO.ite ?_ ?_)
      | (with_reducible refine LeO.bind ?_ (fun _ => ?_))
      | exact ih0 _ _ _
      | exact ih1 _ _ _ _ _
      | exact ih2 _ _ _ _ _
      | exact ih3 _ _ _
      | exact ih4 _ _ _ _
      | exact ih5 _ _ _ _
      | exact ih6 _ _ _ _
      | exact ih7 _ _ _ _
      | exact umlautref17_isWord.mono _ _
      | exact umlautref17_op.mono _ _
      | exact umlautref17_text.mono _ _ _
      | exact umlautref1_Parse.mono _ _
      | exact LeO.none _
      | refine LeO.ite ?_ ?_
      | refine LeO.bind ?_ (fun _ => ?_)
end Go.Proofs.YtobhcpfdgfkeiaaDoor.Lx

namespace Go.Proofs.YtobhcpfdgfkeiaaDoor.Lp
open Go.RowKit Go.Proofs.YtobhcpfdgfkeiaaDoorW.PrintWords Go.Proofs.YtobhcpfdgfkeiaaDoor.Ext Go.Proofs.YtobhcpfdgfkeiaaDoor.Lx Go.Proofs.YtobhcpfdgfkeiaaDoor.Lf
set_option linter.unusedVariables false

def mk37 (a : Int) (b : ByteArray) (c d : Int) : S37 := ⟨a, b, c, d⟩
def mk28 (a : Int) (b : ByteArray) (c d : Int) : S28 := ⟨a, b, c, d⟩
/-- what is told from a place on, blanks ahead of it skipped -/
def fromAt {T : Type} (mk : Int → ByteArray → Int → Int → T) (acc : List T) (i : Nat) (l : Bytes) : List T × Int × Int := lexF mk (l.length + 1) acc (i + skipL l) (l.drop (skipL l))
theorem fromAt_nil {T : Type} (mk : Int → ByteArray → Int → Int → T) (acc : List T) (i : Nat) : fromAt mk acc i [] = (acc, 0, 0) := rfl
theorem fromAt_blank {T : Type} (mk : Int → ByteArray → Int → Int → T) (acc : List T) (i : Nat) {c : UInt8} {l : Bytes} (h : isBlank c = true) : fromAt mk acc i (c :: l) = fromAt mk acc (i + 1) l := by
  unfold fromAt
  rw [skipL_blank h, List.drop_succ_cons, show i + (skipL l + 1) = i + 1 + skipL l by omega]
  exact lexF_more mk _ _ _ _ _ (by rw [List.length_drop, List.length_cons]; omega) (by rw [List.length_drop]; omega)
theorem fromAt_rem {T : Type} (mk : Int → ByteArray → Int → Int → T) (acc : List T) (i : Nat) {c : UInt8} {l : Bytes} (hb : isBlank c = false) (h : isRem (c :: l) = true) : fromAt mk acc i (c :: l) = fromAt mk acc (i + spanOf notLf (c :: l)) ((c :: l).drop (spanOf notLf (c :: l))) := by
  unfold fromAt
  rw [skipL_rem hb h, ← List.drop_drop, ← Nat.add_assoc]
  exact lexF_more mk _ _ _ _ _ (by rw [List.length_drop, List.length_drop]; omega) (by rw [List.length_drop]; omega)
theorem fromAt_tok {T : Type} (mk : Int → ByteArray → Int → Int → T) (acc : List T) (i : Nat) {c : UInt8} {l : Bytes} (hb : isBlank c = false) (h : isRem (c :: l) = false) : fromAt mk acc i (c :: l) = match tokL (c :: l) with | none => ([], (i : Int), 10) | some t => fromAt mk (acc ++ [mk t.kind t.text t.num i]) (i + t.len) ((c :: l).drop t.len) := by
  unfold fromAt
  rw [skipL_none hb h, List.drop_zero, Nat.add_zero, lexF]
  cases ht : tokL (c :: l) with
  | none => rfl
  | some t =>
    have := tokL_len ht
    simp only [List.length_cons] at this ⊢
    exact lexF_more mk _ _ _ _ _ (by rw [List.length_drop, List.length_drop, List.length_cons]; omega) (by rw [List.length_drop]; omega)
theorem lexL_from {T : Type} (mk : Int → ByteArray → Int → Int → T) (l : Bytes) : lexL mk l = if 4000 < l.length then ([], 0, 2) else fromAt mk [] 0 l := by
  unfold lexL fromAt; rw [Nat.zero_add]

theorem rem_run (s : ByteArray) (hs : s.size ≤ 4000) (acc : List S37) : ∀ (n k i : Nat), spanOf notLf (s.data.toList.drop i) = n → i ≤ s.size → umlautref17_Tokens.l1 (k + n + 1) s acc (i : Int) = umlautref17_Tokens.l0 k s acc ((i + n : Nat) : Int) := by
  intro n
  induction n with
  | zero =>
    intro k i hn hi
    simp only [umlautref17_Tokens.l1, Nat.add_zero]
    by_cases hlt : i < s.size
    · rw [if_pos (by omega), if_pos (by omega), bt_nat hlt]
      rw [drop_at hlt] at hn
      have hp : notLf s[i] = false := by
        cases h : notLf s[i] with
        | false => rfl
        | true => rw [spanOf_cons_yes h] at hn; omega
      have hc : s[i].toNat = 10 := by unfold notLf at hp; simpa using hp
      rw [if_pos (by omega)]
    · rw [if_neg (by omega)]
  | succ n ih =>
    intro k i hn hi
    have hlt : i < s.size := by
      rcases Nat.lt_or_ge i s.size with h | h
      · exact h
      · rw [drop_end h] at hn; simp [spanOf] at hn
    rw [drop_at hlt] at hn
    have hp : notLf s[i] = true := by
      cases h : notLf s[i] with
      | true => rfl
      | false => rw [spanOf_cons_no h] at hn; omega
    have hc : ¬ s[i].toNat = 10 := by unfold notLf at hp; simpa using hp
    rw [spanOf_cons_yes hp] at hn
    rw [show k + (n + 1) + 1 = (k + n + 1) + 1 by omega]
    have := ih k (i + 1) (by omega) (by omega)
    generalize k + n + 1 = m at this ⊢
    simp only [umlautref17_Tokens.l1]
    rw [if_pos (by omega), if_pos (by omega), bt_nat hlt, if_neg (by omega), wrap_add1 _ (by omega)]
    rw [this, show i + 1 + n = i + (n + 1) by omega]
theorem dig_run (s : ByteArray) (hs : s.size ≤ 4000) (acc : List S37) (i0 : Int) : ∀ (n k i : Nat), spanOf isDig (s.data.toList.drop i) = n → i ≤ s.size → umlautref17_Tokens.l2 (k + n + 1) s acc i0 (i : Int) = umlautref17_Tokens.j5 k s acc i0 ((i + n : Nat) : Int) := by
  intro n
  induction n with
  | zero =>
    intro k i hn hi
    simp only [umlautref17_Tokens.l2, Nat.add_zero]
    by_cases hlt : i < s.size
    · rw [if_pos (by omega), if_pos (by omega), bt_nat hlt, rdigit_eq]
      rw [drop_at hlt] at hn
      have hp : isDig s[i] = false := by
        cases h : isDig s[i] with
        | false => rfl
        | true => rw [spanOf_cons_yes h] at hn; omega
      simp only [Option.bind_some]
      rw [hp, if_neg (by decide)]
    · rw [if_neg (by omega)]
  | succ n ih =>
    intro k i hn hi
    have hlt : i < s.size := by
      rcases Nat.lt_or_ge i s.size with h | h
      · exact h
      · rw [drop_end h] at hn; simp [spanOf] at hn
    rw [drop_at hlt] at hn
    have hp : isDig s[i] = true := by
      cases h : isDig s[i] with
      | true => rfl
      | false => rw [spanOf_cons_no h] at hn; omega
    rw [spanOf_cons_yes hp] at hn
    rw [show k + (n + 1) + 1 = (k + n + 1) + 1 by omega]
    have := ih k (i + 1) (by omega) (by omega)
    generalize k + n + 1 = m at this ⊢
    simp only [umlautref17_Tokens.l2]
    rw [if_pos (by omega), if_pos (by omega), bt_nat hlt, rdigit_eq]
    simp only [Option.bind_some]
    rw [hp, if_pos rfl, wrap_add1 _ (by omega), this, show i + 1 + n = i + (n + 1) by omega]
theorem nam_run (s : ByteArray) (hs : s.size ≤ 4000) (acc : List S37) (i0 : Int) : ∀ (n k i : Nat), spanOf isNam (s.data.toList.drop i) = n → i ≤ s.size → umlautref17_Tokens.l3 (k + n + 1) s acc i0 (i : Int) = umlautref17_Tokens.j7 k s acc i0 ((i + n : Nat) : Int) := by
  intro n
  induction n with
  | zero =>
    intro k i hn hi
    simp only [umlautref17_Tokens.l3, Nat.add_zero]
    by_cases hlt : i < s.size
    · rw [if_pos (by omega), if_pos (by omega), bt_nat hlt, rletter_eq]
      rw [drop_at hlt] at hn
      have hp : isNam s[i] = false := by
        cases h : isNam s[i] with
        | false => rfl
        | true => rw [spanOf_cons_yes h] at hn; omega
      simp only [Option.bind_some]
      rw [hp, if_neg (by decide)]
    · rw [if_neg (by omega)]
  | succ n ih =>
    intro k i hn hi
    have hlt : i < s.size := by
      rcases Nat.lt_or_ge i s.size with h | h
      · exact h
      · rw [drop_end h] at hn; simp [spanOf] at hn
    rw [drop_at hlt] at hn
    have hp : isNam s[i] = true := by
      cases h : isNam s[i] with
      | true => rfl
      | false => rw [spanOf_cons_no h] at hn; omega
    rw [spanOf_cons_yes hp] at hn
    rw [show k + (n + 1) + 1 = (k + n + 1) + 1 by omega]
    have := ih k (i + 1) (by omega) (by omega)
    generalize k + n + 1 = m at this ⊢
    simp only [umlautref17_Tokens.l3]
    rw [if_pos (by omega), if_pos (by omega), bt_nat hlt, rletter_eq]
    simp only [Option.bind_some]
    rw [hp, if_pos rfl, wrap_add1 _ (by omega), this, show i + 1 + n = i + (n + 1) by omega]
end Go.Proofs.YtobhcpfdgfkeiaaDoor.Lp
