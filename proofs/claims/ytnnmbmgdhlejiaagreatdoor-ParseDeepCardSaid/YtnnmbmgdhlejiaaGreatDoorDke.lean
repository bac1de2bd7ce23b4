/-
  ParseDeep: its row and its card.
-/
import Derived.Test.YtnnmbmgdhlejiaaGreatDoorDqa
import Derived.Test.YtnnmbmgdhlejiaaGreatDoorDqb
import Derived.Test.YtnnmbmgdhlejiaaGreatDoorDqc
import Derived.Test.YtnnmbmgdhlejiaaGreatDoorDqd
import Derived.Test.YtnnmbmgdhlejiaaGreatDoorDqe
import Derived.Test.YtnnmbmgdhlejiaaGreatDoorDqf
import Derived.Test.YtnnmbmgdhlejiaaGreatDoorDqg
import Derived.Test.YtnnmbmgdhlejiaaGreatDoorDqh
import Derived.Test.YtnnmbmgdhlejiaaGreatDoorDqi
import Derived.Test.YtnnmbmgdhlejiaaGreatDoorDqj
import Derived.Test.YtnnmbmgdhlejiaaGreatDoorDqk
import Derived.Test.YtnnmbmgdhlejiaaGreatDoorDql
import Derived.Test.YtnnmbmgdhlejiaaGreatDoorCards
import Derived.Test.YtnnmbmgdhlejiaaGreatDoorTie
import Derived.WalkKit
import Derived.ProofKit
import Derived.OpenShut
import Derived.ChangeOld
import Derived.Below
import Derived.SizedLaws
import Derived.Deep.DeepHandedRow
import Derived.Lay
import Derived.Lib.LaidU8
import Derived.LaidLaws
import Derived.MakeChecks
import Derived.Shelf.Vars
set_option maxRecDepth 100000
set_option linter.all false
namespace Go.Dk.Run
theorem deep0 : ∀ n, n < 40 → deepOk 0 n = true
  | 0, _ => q0n0
  | 1, _ => q0n1
  | 2, _ => q0n2
  | 3, _ => q0n3
  | 4, _ => q0n4
  | 5, _ => q0n5
  | 6, _ => q0n6
  | 7, _ => q0n7
  | 8, _ => q0n8
  | 9, _ => q0n9
  | 10, _ => q0n10
  | 11, _ => q0n11
  | 12, _ => q0n12
  | 13, _ => q0n13
  | 14, _ => q0n14
  | 15, _ => q0n15
  | 16, _ => q0n16
  | 17, _ => q0n17
  | 18, _ => q0n18
  | 19, _ => q0n19
  | 20, _ => q0n20
  | 21, _ => q0n21
  | 22, _ => q0n22
  | 23, _ => q0n23
  | 24, _ => q0n24
  | 25, _ => q0n25
  | 26, _ => q0n26
  | 27, _ => q0n27
  | 28, _ => q0n28
  | 29, _ => q0n29
  | 30, _ => q0n30
  | 31, _ => q0n31
  | 32, _ => q0n32
  | 33, _ => q0n33
  | 34, _ => q0n34
  | 35, _ => q0n35
  | 36, _ => q0n36
  | 37, _ => q0n37
  | 38, _ => q0n38
  | 39, _ => q0n39
  | n + 40, h => absurd h (by omega)
theorem deep1 : ∀ n, n < 40 → deepOk 1 n = true
  | 0, _ => q1n0
  | 1, _ => q1n1
  | 2, _ => q1n2
  | 3, _ => q1n3
  | 4, _ => q1n4
  | 5, _ => q1n5
  | 6, _ => q1n6
  | 7, _ => q1n7
  | 8, _ => q1n8
  | 9, _ => q1n9
  | 10, _ => q1n10
  | 11, _ => q1n11
  | 12, _ => q1n12
  | 13, _ => q1n13
  | 14, _ => q1n14
  | 15, _ => q1n15
  | 16, _ => q1n16
  | 17, _ => q1n17
  | 18, _ => q1n18
  | 19, _ => q1n19
  | 20, _ => q1n20
  | 21, _ => q1n21
  | 22, _ => q1n22
  | 23, _ => q1n23
  | 24, _ => q1n24
  | 25, _ => q1n25
  | 26, _ => q1n26
  | 27, _ => q1n27
  | 28, _ => q1n28
  | 29, _ => q1n29
  | 30, _ => q1n30
  | 31, _ => q1n31
  | 32, _ => q1n32
  | 33, _ => q1n33
  | 34, _ => q1n34
  | 35, _ => q1n35
  | 36, _ => q1n36
  | 37, _ => q1n37
  | 38, _ => q1n38
  | 39, _ => q1n39
  | n + 40, h => absurd h (by omega)
theorem deep2 : ∀ n, n < 40 → deepOk 2 n = true
  | 0, _ => q2n0
  | 1, _ => q2n1
  | 2, _ => q2n2
  | 3, _ => q2n3
  | 4, _ => q2n4
  | 5, _ => q2n5
  | 6, _ => q2n6
  | 7, _ => q2n7
  | 8, _ => q2n8
  | 9, _ => q2n9
  | 10, _ => q2n10
  | 11, _ => q2n11
  | 12, _ => q2n12
  | 13, _ => q2n13
  | 14, _ => q2n14
  | 15, _ => q2n15
  | 16, _ => q2n16
  | 17, _ => q2n17
  | 18, _ => q2n18
  | 19, _ => q2n19
  | 20, _ => q2n20
  | 21, _ => q2n21
  | 22, _ => q2n22
  | 23, _ => q2n23
  | 24, _ => q2n24
  | 25, _ => q2n25
  | 26, _ => q2n26
  | 27, _ => q2n27
  | 28, _ => q2n28
  | 29, _ => q2n29
  | 30, _ => q2n30
  | 31, _ => q2n31
  | 32, _ => q2n32
  | 33, _ => q2n33
  | 34, _ => q2n34
  | 35, _ => q2n35
  | 36, _ => q2n36
  | 37, _ => q2n37
  | 38, _ => q2n38
  | 39, _ => q2n39
  | n + 40, h => absurd h (by omega)
theorem deep3 : ∀ n, n < 40 → deepOk 3 n = true
  | 0, _ => q3n0
  | 1, _ => q3n1
  | 2, _ => q3n2
  | 3, _ => q3n3
  | 4, _ => q3n4
  | 5, _ => q3n5
  | 6, _ => q3n6
  | 7, _ => q3n7
  | 8, _ => q3n8
  | 9, _ => q3n9
  | 10, _ => q3n10
  | 11, _ => q3n11
  | 12, _ => q3n12
  | 13, _ => q3n13
  | 14, _ => q3n14
  | 15, _ => q3n15
  | 16, _ => q3n16
  | 17, _ => q3n17
  | 18, _ => q3n18
  | 19, _ => q3n19
  | 20, _ => q3n20
  | 21, _ => q3n21
  | 22, _ => q3n22
  | 23, _ => q3n23
  | 24, _ => q3n24
  | 25, _ => q3n25
  | 26, _ => q3n26
  | 27, _ => q3n27
  | 28, _ => q3n28
  | 29, _ => q3n29
  | 30, _ => q3n30
  | 31, _ => q3n31
  | 32, _ => q3n32
  | 33, _ => q3n33
  | 34, _ => q3n34
  | 35, _ => q3n35
  | 36, _ => q3n36
  | 37, _ => q3n37
  | 38, _ => q3n38
  | 39, _ => q3n39
  | n + 40, h => absurd h (by omega)
theorem deep4 : ∀ n, n < 40 → deepOk 4 n = true
  | 0, _ => q4n0
  | 1, _ => q4n1
  | 2, _ => q4n2
  | 3, _ => q4n3
  | 4, _ => q4n4
  | 5, _ => q4n5
  | 6, _ => q4n6
  | 7, _ => q4n7
  | 8, _ => q4n8
  | 9, _ => q4n9
  | 10, _ => q4n10
  | 11, _ => q4n11
  | 12, _ => q4n12
  | 13, _ => q4n13
  | 14, _ => q4n14
  | 15, _ => q4n15
  | 16, _ => q4n16
  | 17, _ => q4n17
  | 18, _ => q4n18
  | 19, _ => q4n19
  | 20, _ => q4n20
  | 21, _ => q4n21
  | 22, _ => q4n22
  | 23, _ => q4n23
  | 24, _ => q4n24
  | 25, _ => q4n25
  | 26, _ => q4n26
  | 27, _ => q4n27
  | 28, _ => q4n28
  | 29, _ => q4n29
  | 30, _ => q4n30
  | 31, _ => q4n31
  | 32, _ => q4n32
  | 33, _ => q4n33
  | 34, _ => q4n34
  | 35, _ => q4n35
  | 36, _ => q4n36
  | 37, _ => q4n37
  | 38, _ => q4n38
  | 39, _ => q4n39
  | n + 40, h => absurd h (by omega)
theorem deep5 : ∀ n, n < 40 → deepOk 5 n = true
  | 0, _ => q5n0
  | 1, _ => q5n1
  | 2, _ => q5n2
  | 3, _ => q5n3
  | 4, _ => q5n4
  | 5, _ => q5n5
  | 6, _ => q5n6
  | 7, _ => q5n7
  | 8, _ => q5n8
  | 9, _ => q5n9
  | 10, _ => q5n10
  | 11, _ => q5n11
  | 12, _ => q5n12
  | 13, _ => q5n13
  | 14, _ => q5n14
  | 15, _ => q5n15
  | 16, _ => q5n16
  | 17, _ => q5n17
  | 18, _ => q5n18
  | 19, _ => q5n19
  | 20, _ => q5n20
  | 21, _ => q5n21
  | 22, _ => q5n22
  | 23, _ => q5n23
  | 24, _ => q5n24
  | 25, _ => q5n25
  | 26, _ => q5n26
  | 27, _ => q5n27
  | 28, _ => q5n28
  | 29, _ => q5n29
  | 30, _ => q5n30
  | 31, _ => q5n31
  | 32, _ => q5n32
  | 33, _ => q5n33
  | 34, _ => q5n34
  | 35, _ => q5n35
  | 36, _ => q5n36
  | 37, _ => q5n37
  | 38, _ => q5n38
  | 39, _ => q5n39
  | n + 40, h => absurd h (by omega)
theorem deep_all : ∀ k, k < 6 → ∀ n, n < 40 → deepOk k n = true
  | 0, _ => deep0
  | 1, _ => deep1
  | 2, _ => deep2
  | 3, _ => deep3
  | 4, _ => deep4
  | 5, _ => deep5
  | k + 6, h => absurd h (by omega)
end Go.Dk.Run
namespace Go.Proofs.YtnnmbmgdhlejiaaGreatDoor.parseDeep
open Go.ChangeShapes Go.WideShapes Go.ChangeAt Go.RowKit
theorem calls (W : World) (m : Int) (hm : W.cell? ⟨0, 0, none⟩ = some (.int .i64 m)) (n k : Int) : Calls Tryz.prog 3 #[.int .i64 n, .int .i64 k] W fun e w' => e = .returned (.bool true) ∧ Below W.heap.size W w' := by
  letI : Dk.Keep := ⟨fun k => if k = 0 then W.heap[0]? else none⟩
  have hkeep : ∀ (k : Nat) (o : Obj), Dk.Keep.at' k = some o → W.heap[k]? = some o := fun k o h => by
    change (if k = 0 then W.heap[0]? else none) = some o at h
    by_cases e : k = 0
    · rw [if_pos e] at h; rw [e]; exact h
    · rw [if_neg e] at h; cases h
  have hk : Dk.Run.Kp := by
    cases ho : W.heap[0]? with
    | none => simp [World.cell?, ho] at hm
    | some o =>
      refine ⟨m, o, ho, fun w hw => ?_⟩
      simp only [World.cell?, ho] at hm
      simp only [World.cell?, hw]
      exact hm
  obtain ⟨r1, h1, e1⟩ := Dk.Run.pend_and (n := n) (m := 40) (by omega) (by omega)
  obtain ⟨r2, h2, e2⟩ := Dk.Run.pend_and (n := k) (m := 6) (by omega) (by omega)
  exact Dk.Run.true_of_run (k := ⟨.d0, .d0, .d3⟩) Dk.Run.mixed (Dk.Run.okFA hk) hkeep (.cons _ _ _ _ (.pend _ _ _ _ e1 (by simp)) (.cons _ _ _ _ (.pend _ _ _ _ e2 (by simp)) .nil)) (Dk.Run.deep_all r2 h2 r1 h1)
theorem own : ownKnob Tryz.prog.godebug = none := by kernel_rfl
theorem laidOut : laidOutB Tryz.prog = true := by kernel_rfl
theorem laid_met (os : Os) : laidMet Tryz.prog Rows.parseDeepRow.laid ((World.laidAll Tryz.prog os Rows.parseDeepRow.laid).forCall (fun _ _ => 0) ⟨#[], #[.int .i64 0, .int .i64 0], []⟩).memory :=
  laidMet_laidAll _ (by kernel_rfl) (by kernel_rfl)
set_option maxRecDepth 100000 in
theorem lifted (os : Os) (started : os.Started) (H : Type) (enc : TypeId × Value → H) (F : Stop.Interp) :
    ReturnsInHanded {} Tryz.checked os 3 .any ((OpenSpec.ofChange Rows.parseDeepSpec).preRow enc Tryz.prog Tryz.f3 Rows.parseDeepRow.domain false Rows.parseDeepRow.laid) (((OpenSpec.ofChange Rows.parseDeepSpec).at F).post enc Tryz.prog Tryz.f3 false true false false) := by
  refine returnsInHanded_of_row (C := Tryz.checked) (s := OpenSpec.ofChange Rows.parseDeepSpec) own started (by kernel_rfl) Tryz.func3
    (ChangeSpec.witness_shaped (enc := enc) (C := Tryz.checked) (os := os) (X := fun w _ => laidMetH Tryz.prog Rows.parseDeepRow.laid w) false (World.laidAll Tryz.prog os Rows.parseDeepRow.laid) #[.int .i64 0, .int .i64 0] 8 (World.laidAll_os _ _ _)
      (World.shaped_of_ZipB (by kernel_rfl) (by kernel_rfl)) (by kernel_rfl) (by kernel_rfl) (by kernel_rfl)
      (by rw [MakeChecks.laidMetH_plain _ _ _ (by kernel_rfl)]; exact laid_met os)) ?_
  intro W base args ds gs before hval0 hW hcnd _ hsz0 hL hS _
  obtain ⟨m, hm⟩ : ∃ m : Int, W.cell? ⟨0, 0, none⟩ = some (.int .i64 m) :=
    cell_of_shapedOpen_int (g := 0) (t := 3) (zero := #[.int .i64 0]) hS (of_decide_eq_true (by kernel_rfl)) (by kernel_rfl) rfl (by kernel_rfl) (by kernel_rfl) (by kernel_rfl)
  have hval : ∀ (j : Nat) t v, Tryz.f3.params[j]? = some t → args[j]? = some v → Value.okWide Tryz.prog W .any base t v := hval0
  have hW' := hW
  obtain ⟨p, q, hA0, hV, rfl, hfz, hnd⟩ := hW
  have hA : DataW.TrodAll enc Tryz.prog W 0 (fun _ => true) true Tryz.f3.params.toList args.toList ds p := hA0
  rw [Tryz.params3] at hA hval
  obtain ⟨v0, vs0, d0, ds0, p0, q0, hargs, rfl, rfl, h0, r0⟩ := trodAll_cons hA
  obtain ⟨v1, vs1, d1, ds1, p1, q1, rfl, rfl, rfl, h1, r1⟩ := trodAll_cons r0
  obtain ⟨rfl, rfl, rfl⟩ := trodAll_nil r1
  obtain rfl : args = #[v0, v1] := by cases args; simp_all
  obtain ⟨rfl, rfl⟩ := trodVars_none hV
  obtain ⟨a0, rfl, rfl, rfl, w0⟩ := open_int Tryz.underlying3 (hval 0 3 v0 rfl rfl) h0
  obtain ⟨a1, rfl, rfl, rfl, w1⟩ := open_int Tryz.underlying3 (hval 1 3 v1 rfl rfl) h1
  clear hA0 hval0 hsz0
  refine (calls W m hm a0 a1).mono fun e W' ⟨he, bel⟩ => ?_
  subst he
  exact ⟨_, rfl, _, _, _, [], _, [], hW', trodAll_mk1 (shut_bool Tryz.underlying4 _), (trodAll_cons_mk (shut_int Tryz.underlying3 w0) (trodAll_cons_mk (shut_int Tryz.underlying3 w1) trodAll_mk0)), rfl, bel.frame _, fun h => by cases h⟩
theorem said : Rows.ParseDeepSaid :=
  OpenClaim.holds_of_cond 3 Tryz.f3 rfl rfl rfl rfl rfl rfl rfl ⟨rfl, rfl, rfl, rfl, rfl⟩ rfl rfl rfl rfl rfl (by kernel_rfl) Tryz.func3 (by kernel_rfl)
    (of_decide_eq_true (by kernel_rfl)) (by unfold Func.isWrapper; first | (rw [if_pos (by decide +kernel)]; kernel_rfl) | (rw [if_neg (by decide +kernel)]; exact ⟨rfl, rfl⟩))
    (fun os started H enc _ F => by rw [OpenClaim.pre_eq_preRow]; exact lifted os started H enc F)
theorem plain (f : FuncId) (fn : Func) (hf : Tryz.pinned.checked.prog.funcNamed "umlaut/umlautlaw18.ParseDeep" = some f) (hfn : Tryz.pinned.checked.prog.funcs[f]? = some fn) :
    true = Tryz.pinned.checked.prog.looks [] ∧ ∀ (j : Nat) t, fn.params[j]? = some t → Tryz.pinned.checked.prog.wantsStandIn t = false := by
  obtain rfl : f = 3 := Option.some.inj ((show Tryz.prog.funcNamed "umlaut/umlautlaw18.ParseDeep" = some 3 by kernel_rfl).symm.trans hf) |>.symm
  obtain rfl : fn = Tryz.f3 := (Option.some.inj (Tryz.func3.symm.trans hfn)).symm
  refine ⟨by kernel_rfl, fun j t ht => ?_⟩
  rw [Tryz.params3] at ht
  have hm : t ∈ [3] := by
    have := Array.mem_of_getElem? ht
    simp at this ⊢
    omega
  have hall : ([3].all fun u => !Tryz.prog.wantsStandIn u) = true := by kernel_rfl
  exact (show Tryz.prog.wantsStandIn t = false by simpa using List.all_eq_true.1 hall t hm)
theorem card : Rows.ParseDeepCardSaid :=
  Claim7.holds_tied_plain_at .later [] _ _ _ _ said (fun _ h => by cases h) (by kernel_rfl) (fun _ h => by cases h) parseDeep_row_tie rfl ⟨rfl, rfl⟩ (by kernel_rfl) rfl plain (by kernel_rfl)
#print axioms card
end Go.Proofs.YtnnmbmgdhlejiaaGreatDoor.parseDeep
namespace Go.Proofs.YtnnmbmgdhlejiaaGreatDoor
/-- The card, under a short name, for the claim. -/
theorem parseDeep_card : Rows.ParseDeepCardSaid := parseDeep.card
end Go.Proofs.YtnnmbmgdhlejiaaGreatDoor
